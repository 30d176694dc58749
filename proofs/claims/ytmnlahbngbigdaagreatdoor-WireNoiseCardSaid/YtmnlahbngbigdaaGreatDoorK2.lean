/- Texts put together (pure ones, or walks made by program). -/
import Derived.Test.YtmnlahbngbigdaaGreatDoorK0
import Derived.Test.YtmnlahbngbigdaaGreatDoorK1
set_option linter.unusedVariables false
set_option linter.unusedSimpArgs false
namespace Go.Proofs.YtmnlahbngbigdaaGreatDoor
open Go.Sy Go.RowKit
def rwant_vc (u0 : FReader) (u1 : List UInt8) (K : FReader → Prop) : Prop := (u0.f.Data.length ≤ 140737488355328 → ((Rok u0.Reader ∧ (1 : Int) ≤ 9223372036854775807) ∧ (∀ r19, (rtakeFS u0 1) = r19 → (r19.2.f.Data.length ≤ 140737488355328 → ((((r19.2.Reader.Code == 0) && (r19.1 != u1)) = true → (∀ r65, (rfailS r19.2 4) = r65 → (r65.f.Data.length ≤ 140737488355328 → (K r65)))) ∧ (((r19.2.Reader.Code == 0) && (r19.1 != u1)) = false → (K r19.2)))))))
def rnumber_vc (u0 : FReader) (u1 : Int) (K : (Int × FReader) → Prop) : Prop := (u0.f.Data.length ≤ 140737488355328 → ((Rok u0.Reader ∧ u1 ≤ 9223372036854775807) ∧ (∀ r24, (rtakeFS u0 u1) = r24 → (r24.2.f.Data.length ≤ 140737488355328 → (((r24.2.Reader.Code != 0) = true → (K (0, r24.2))) ∧ ((r24.2.Reader.Code != 0) = false → ((r24.1.length ≤ 62 ∧ isRow r24.1 = true) ∧ (K (w64 (breadS r24.1), r24.2)))))))))
def rwantS (r : FReader) (b : List UInt8) : FReader := if (rtakeFS r 1).2.Reader.Code = 0 ∧ (rtakeFS r 1).1 ≠ b then rfailS (rtakeFS r 1).2 4 else (rtakeFS r 1).2
theorem rwant_ok (r : FReader) (b : List UInt8) (h : Rok r.Reader) : rwant_vc r b (fun q => q = rwantS r b) := by
 intro hl
 refine ⟨⟨h, by decide⟩, ?_⟩
 rintro q rfl _
 refine ⟨fun h1 => ?_, fun h1 => ?_⟩
 · rintro s rfl _
   unfold rwantS
   rw [if_pos (by simpa using h1)]
 · unfold rwantS
   rw [if_neg]
   intro hc
   have : (((rtakeFS r 1).2.Reader.Code == 0) && ((rtakeFS r 1).1 != b)) = true := by simpa using hc
   rw [this] at h1
   cases h1
theorem rwantS_f (r : FReader) (b : List UInt8) : (rwantS r b).f = r.f := by
 unfold rwantS
 split
 · rw [rfailS_f]; rfl
 · rfl
theorem rwantS_Rok {r : FReader} {b : List UInt8} (h : Rok r.Reader) : Rok (rwantS r b).Reader := by
 have h1 := (rtakeS_Rok 1 h).1
 unfold rwantS
 split
 · exact rfailS_Rok h1
 · exact h1
def rnumberS (r : FReader) (n : Int) : Int × FReader := if (rtakeFS r n).2.Reader.Code ≠ 0 then (0, (rtakeFS r n).2) else ((val (rtakeFS r n).1 : Int), (rtakeFS r n).2)
theorem rnumber_ok (r : FReader) (n : Int) (h : Rok r.Reader ∧ 0 ≤ n ∧ n ≤ 62) : rnumber_vc r n (fun q => q = rnumberS r n) := by
 intro hl
 refine ⟨⟨h.1, by omega⟩, ?_⟩
 rintro q rfl _
 obtain ⟨k1, k2, _⟩ := rtakeS_row (n := n) h.1
 refine ⟨fun h1 => ?_, fun h1 => ⟨⟨by show (rtakeS r.Reader n).1.length ≤ 62; omega, k1⟩, ?_⟩⟩
 · unfold rnumberS
   rw [if_pos (by simpa using h1)]
 · unfold rnumberS
   rw [if_neg (by simpa using h1)]
   have hv := val_lt k1
   have hp : 2 ^ (rtakeS r.Reader n).1.length ≤ 2 ^ 62 := Nat.pow_le_pow_right (by omega) (by omega)
   have p62 : (2 : Nat) ^ 62 = 4611686018427387904 := rfl
   have e : breadS (rtakeFS r n).1 = ((val (rtakeS r.Reader n).1 : Nat) : Int) := rfl
   rw [e, w64_eq _ (by omega)]
   rfl
theorem rnumberS_f (r : FReader) (n : Int) : (rnumberS r n).2.f = r.f := by unfold rnumberS; split <;> rfl
theorem rnumberS_Rok {r : FReader} {n : Int} (h : Rok r.Reader) : Rok (rnumberS r n).2.Reader := by
 have h1 := (rtakeS_Rok n h).1
 unfold rnumberS
 split <;> exact h1
theorem rnumberS_bound {r : FReader} {n : Nat} (h : Rok r.Reader) : 0 ≤ (rnumberS r n).1 ∧ (rnumberS r n).1 < 2 ^ n := by
 obtain ⟨k1, k2, _⟩ := rtakeS_row (n := (n : Int)) h
 have hv := val_lt k1
 have hp : 2 ^ (rtakeS r.Reader n).1.length ≤ 2 ^ n := Nat.pow_le_pow_right (by omega) (by rw [Int.toNat_natCast] at k2; exact k2)
 unfold rnumberS
 split
 · exact ⟨Int.le_refl _, Int.pow_pos (by decide)⟩
 · have e : ((val (rtakeFS r n).1 : Nat) : Int) = ((val (rtakeS r.Reader n).1 : Nat) : Int) := rfl
   dsimp only
   rw [e]
   refine ⟨by omega, ?_⟩
   have : ((val (rtakeS r.Reader n).1 : Nat) : Int) < ((2 ^ n : Nat) : Int) := by omega
   exact_mod_cast this
end Go.Proofs.YtmnlahbngbigdaaGreatDoor
set_option linter.unusedVariables false
set_option linter.unusedSimpArgs false
namespace Go.Proofs.YtmnlahbngbigdaaGreatDoor
open Go.Sy Go.RowKit
def rnames_vc (u0 : FReader) (K : FReader → Prop) : Prop := (u0.f.Data.length ≤ 140737488355328 → ((Rok u0.Reader) ∧ (∀ r15, (rwantS u0 ([48] : List UInt8)) = r15 → (r15.f.Data.length ≤ 140737488355328 → ((Rok r15.Reader ∧ 0 ≤ (11 : Int) ∧ (11 : Int) ≤ 62) ∧ (∀ r37, (rnumberS r15 11) = r37 → (r37.2.f.Data.length ≤ 140737488355328 → ((Rok (⟨r37.2.Reader, (⟨r37.1, r37.2.f.Long, r37.2.f.Fast, r37.2.f.Remote, r37.2.f.Size, r37.2.f.Data⟩ : Frame)⟩ : FReader).Reader ∧ (1 : Int) ≤ 9223372036854775807) ∧ (∀ r70, (rtakeFS (⟨r37.2.Reader, (⟨r37.1, r37.2.f.Long, r37.2.f.Fast, r37.2.f.Remote, r37.2.f.Size, r37.2.f.Data⟩ : Frame)⟩ : FReader) 1) = r70 → (r70.2.f.Data.length ≤ 140737488355328 → ((Rok r70.2.Reader ∧ (1 : Int) ≤ 9223372036854775807) ∧ (∀ r100, (rtakeFS r70.2 1) = r100 → (r100.2.f.Data.length ≤ 140737488355328 → (∃ inv148 : FReader → Prop, (((r100.1 == ([49] : List UInt8)) = true → (∃ inv379 : FReader → Prop, (((!(r70.1 == ([49] : List UInt8))) = true → (∀ r690, (rfailS (⟨r100.2.Reader, (⟨r100.2.f.ID, r100.1 == ([49] : List UInt8), r100.2.f.Fast, r70.1 == ([49] : List UInt8), r100.2.f.Size, r100.2.f.Data⟩ : Frame)⟩ : FReader) 4) = r690 → (r690.f.Data.length ≤ 140737488355328 → (inv379 r690)))) ∧ ((!(r70.1 == ([49] : List UInt8))) = false → (inv379 (⟨r100.2.Reader, (⟨r100.2.f.ID, r100.1 == ([49] : List UInt8), r100.2.f.Fast, r70.1 == ([49] : List UInt8), r100.2.f.Size, r100.2.f.Data⟩ : Frame)⟩ : FReader)))) ∧ (∀ (yb1v : FReader), inv379 yb1v → ((Rok yb1v.Reader ∧ 0 ≤ (18 : Int) ∧ (18 : Int) ≤ 62) ∧ ((Rok (⟨(rnumberS yb1v 18).2.Reader, (⟨bOr .i64 (bShl .i64 yb1v.f.ID 18) (rnumberS yb1v 18).1, yb1v.f.Long, yb1v.f.Fast, yb1v.f.Remote, yb1v.f.Size, yb1v.f.Data⟩ : Frame)⟩ : FReader).Reader ∧ (1 : Int) ≤ 9223372036854775807) ∧ (∀ r658, (rtakeFS (⟨(rnumberS yb1v 18).2.Reader, (⟨bOr .i64 (bShl .i64 yb1v.f.ID 18) (rnumberS yb1v 18).1, yb1v.f.Long, yb1v.f.Fast, yb1v.f.Remote, yb1v.f.Size, yb1v.f.Data⟩ : Frame)⟩ : FReader) 1) = r658 → (r658.2.f.Data.length ≤ 140737488355328 → (inv148 (⟨r658.2.Reader, (⟨r658.2.f.ID, r658.2.f.Long, r658.2.f.Fast, r658.1 == ([49] : List UInt8), r658.2.f.Size, r658.2.f.Data⟩ : Frame)⟩ : FReader))))))))) ∧ ((r100.1 == ([49] : List UInt8)) = false → (inv148 (⟨r100.2.Reader, (⟨r100.2.f.ID, r100.1 == ([49] : List UInt8), r100.2.f.Fast, r70.1 == ([49] : List UInt8), r100.2.f.Size, r100.2.f.Data⟩ : Frame)⟩ : FReader)))) ∧ (∀ (yb1 : FReader), inv148 yb1 → ((Rok yb1.Reader ∧ (1 : Int) ≤ 9223372036854775807) ∧ (∀ r181, (rtakeFS yb1 1) = r181 → (r181.2.f.Data.length ≤ 140737488355328 → (((r181.1 == ([49] : List UInt8)) = true → (∃ inv230 : FReader → Prop, ((r181.2.f.Remote = true → (∀ r321, (rfailS (⟨r181.2.Reader, (⟨r181.2.f.ID, r181.2.f.Long, r181.1 == ([49] : List UInt8), r181.2.f.Remote, r181.2.f.Size, r181.2.f.Data⟩ : Frame)⟩ : FReader) 4) = r321 → (r321.f.Data.length ≤ 140737488355328 → (inv230 r321)))) ∧ (r181.2.f.Remote = false → (inv230 (⟨r181.2.Reader, (⟨r181.2.f.ID, r181.2.f.Long, r181.1 == ([49] : List UInt8), r181.2.f.Remote, r181.2.f.Size, r181.2.f.Data⟩ : Frame)⟩ : FReader)))) ∧ (∀ (yb1v : FReader), inv230 yb1v → ((Rok yb1v.Reader) ∧ (∀ r260, (rwantS yb1v ([48] : List UInt8)) = r260 → (r260.f.Data.length ≤ 140737488355328 → ((Rok r260.Reader) ∧ (∀ r280, (rwantS r260 ([49] : List UInt8)) = r280 → (r280.f.Data.length ≤ 140737488355328 → ((Rok r280.Reader) ∧ (∀ r300, (rwantS r280 ([48] : List UInt8)) = r300 → (r300.f.Data.length ≤ 140737488355328 → (K r300))))))))))))) ∧ ((r181.1 == ([49] : List UInt8)) = false → ((r181.2.f.Long = true → ((Rok (⟨r181.2.Reader, (⟨r181.2.f.ID, r181.2.f.Long, r181.1 == ([49] : List UInt8), r181.2.f.Remote, r181.2.f.Size, r181.2.f.Data⟩ : Frame)⟩ : FReader).Reader) ∧ (∀ r358, (rwantS (⟨r181.2.Reader, (⟨r181.2.f.ID, r181.2.f.Long, r181.1 == ([49] : List UInt8), r181.2.f.Remote, r181.2.f.Size, r181.2.f.Data⟩ : Frame)⟩ : FReader) ([48] : List UInt8)) = r358 → (r358.f.Data.length ≤ 140737488355328 → (K r358))))) ∧ (r181.2.f.Long = false → (K (⟨r181.2.Reader, (⟨r181.2.f.ID, r181.2.f.Long, r181.1 == ([49] : List UInt8), r181.2.f.Remote, r181.2.f.Size, r181.2.f.Data⟩ : Frame)⟩ : FReader))))))))))))))))))))))))
def rfast_vc (u0 : FReader) (K : FReader → Prop) : Prop := (u0.f.Data.length ≤ 140737488355328 → (((u0.Reader.Code != 0) = true → (K u0)) ∧ ((u0.Reader.Code != 0) = false → ((0 ≤ u0.Reader.At ∧ u0.Reader.At ≤ (u0.Reader.Row.length : Int)) ∧ ((fheadpre u0.f) ∧ ((0 ≤ (w64 (((u0.Reader.Row.take u0.Reader.At.toNat).length : Int) - ((fheadS u0.f).length : Int)))) ∧ ((((u0.Reader.Row.take u0.Reader.At.toNat).length : Int) + ((fcountS (w64 (((u0.Reader.Row.take u0.Reader.At.toNat).length : Int) - ((fheadS u0.f).length : Int)))).length : Int) ≤ 9223372036854775807) ∧ ((((fcountS (w64 (((u0.Reader.Row.take u0.Reader.At.toNat).length : Int) - ((fheadS u0.f).length : Int)))).length : Int) + ((csumS (fkind u0.f) ((u0.Reader.Row.take u0.Reader.At.toNat) ++ (fcountS (w64 (((u0.Reader.Row.take u0.Reader.At.toNat).length : Int) - ((fheadS u0.f).length : Int)))))).1.length : Int) ≤ 9223372036854775807) ∧ ((0 ≤ w64 (((u0.Reader.Row.take u0.Reader.At.toNat).length : Int) - 1) ∧ w64 (((u0.Reader.Row.take u0.Reader.At.toNat).length : Int) - 1) < ((u0.Reader.Row.take u0.Reader.At.toNat).length : Int)) ∧ (∀ c149, (u0.Reader.Row.take u0.Reader.At.toNat)[(w64 (((u0.Reader.Row.take u0.Reader.At.toNat).length : Int) - 1)).toNat]? = some c149 → (((0 ≤ u0.Reader.At ∧ u0.Reader.At ≤ (u0.Reader.Row.length : Int) ∧ u0.Reader.Row.length ≤ 1000000) ∧ ((sfixedS ((fcountS (w64 (((u0.Reader.Row.take u0.Reader.At.toNat).length : Int) - ((fheadS u0.f).length : Int)))) ++ (csumS (fkind u0.f) ((u0.Reader.Row.take u0.Reader.At.toNat) ++ (fcountS (w64 (((u0.Reader.Row.take u0.Reader.At.toNat).length : Int) - ((fheadS u0.f).length : Int)))))).1) (c149.toNat : Int)).1.length : Int) ≤ 1000000) ∧ (∀ r186, (rplainFS u0 ((sfixedS ((fcountS (w64 (((u0.Reader.Row.take u0.Reader.At.toNat).length : Int) - ((fheadS u0.f).length : Int)))) ++ (csumS (fkind u0.f) ((u0.Reader.Row.take u0.Reader.At.toNat) ++ (fcountS (w64 (((u0.Reader.Row.take u0.Reader.At.toNat).length : Int) - ((fheadS u0.f).length : Int)))))).1) (c149.toNat : Int)).1.length : Int)) = r186 → (r186.2.f.Data.length ≤ 140737488355328 → (∃ inv207 : Int → FReader → Prop, ∃ mu207 : Int → FReader → Nat, inv207 0 r186.2 ∧ (∀ (x69 : Int) (yb1 : FReader), inv207 x69 yb1 → (((decide (x69 < (r186.1.length : Int))) = true → (∃ inv228 : FReader → Prop, (((((x69.tmod 5) == 0) && (decide (x69 > 0))) = true → ((0 ≤ x69 ∧ x69 < (r186.1.length : Int)) ∧ (∀ c298, r186.1[x69.toNat]? = some c298 → ((0 ≤ w64 (x69 - 1) ∧ w64 (x69 - 1) < (r186.1.length : Int)) ∧ (∀ c315, r186.1[(w64 (x69 - 1)).toNat]? = some c315 → ((((c298.toNat : Int) == (c315.toNat : Int)) = true → (∀ r379, (rfailS yb1 5) = r379 → (r379.f.Data.length ≤ 140737488355328 → (inv228 r379)))) ∧ (((c298.toNat : Int) == (c315.toNat : Int)) = false → (((x69 == 0) = true → ((0 ≤ (0 : Int) ∧ (0 : Int) < (r186.1.length : Int)) ∧ (∀ c402, r186.1[(0 : Int).toNat]? = some c402 → ((0 ≤ w64 (((u0.Reader.Row.take u0.Reader.At.toNat).length : Int) - 1) ∧ w64 (((u0.Reader.Row.take u0.Reader.At.toNat).length : Int) - 1) < ((u0.Reader.Row.take u0.Reader.At.toNat).length : Int)) ∧ (∀ c422, (u0.Reader.Row.take u0.Reader.At.toNat)[(w64 (((u0.Reader.Row.take u0.Reader.At.toNat).length : Int) - 1)).toNat]? = some c422 → ((((c402.toNat : Int) == (c422.toNat : Int)) = true → (∀ r448, (rfailS yb1 5) = r448 → (r448.f.Data.length ≤ 140737488355328 → (inv228 r448)))) ∧ (((c402.toNat : Int) == (c422.toNat : Int)) = false → (inv228 yb1)))))))) ∧ ((x69 == 0) = false → (inv228 yb1)))))))))) ∧ ((((x69.tmod 5) == 0) && (decide (x69 > 0))) = false → (((x69 == 0) = true → ((0 ≤ (0 : Int) ∧ (0 : Int) < (r186.1.length : Int)) ∧ (∀ c527, r186.1[(0 : Int).toNat]? = some c527 → ((0 ≤ w64 (((u0.Reader.Row.take u0.Reader.At.toNat).length : Int) - 1) ∧ w64 (((u0.Reader.Row.take u0.Reader.At.toNat).length : Int) - 1) < ((u0.Reader.Row.take u0.Reader.At.toNat).length : Int)) ∧ (∀ c547, (u0.Reader.Row.take u0.Reader.At.toNat)[(w64 (((u0.Reader.Row.take u0.Reader.At.toNat).length : Int) - 1)).toNat]? = some c547 → ((((c527.toNat : Int) == (c547.toNat : Int)) = true → (∀ r573, (rfailS yb1 5) = r573 → (r573.f.Data.length ≤ 140737488355328 → (inv228 r573)))) ∧ (((c527.toNat : Int) == (c547.toNat : Int)) = false → (inv228 yb1)))))))) ∧ ((x69 == 0) = false → (inv228 yb1))))) ∧ (∀ (yb1v : FReader), inv228 yb1v → (inv207 (w64 (x69 + 1)) yb1v ∧ mu207 (w64 (x69 + 1)) yb1v < mu207 x69 yb1)))) ∧ ((decide (x69 < (r186.1.length : Int))) = false → ((((yb1.Reader.Code == 0) && (r186.1 != (sfixedS ((fcountS (w64 (((u0.Reader.Row.take u0.Reader.At.toNat).length : Int) - ((fheadS u0.f).length : Int)))) ++ (csumS (fkind u0.f) ((u0.Reader.Row.take u0.Reader.At.toNat) ++ (fcountS (w64 (((u0.Reader.Row.take u0.Reader.At.toNat).length : Int) - ((fheadS u0.f).length : Int)))))).1) (c149.toNat : Int)).1)) = true → (∀ r644, (rfailS yb1 6) = r644 → (r644.f.Data.length ≤ 140737488355328 → (K r644)))) ∧ (((yb1.Reader.Code == 0) && (r186.1 != (sfixedS ((fcountS (w64 (((u0.Reader.Row.take u0.Reader.At.toNat).length : Int) - ((fheadS u0.f).length : Int)))) ++ (csumS (fkind u0.f) ((u0.Reader.Row.take u0.Reader.At.toNat) ++ (fcountS (w64 (((u0.Reader.Row.take u0.Reader.At.toNat).length : Int) - ((fheadS u0.f).length : Int)))))).1) (c149.toNat : Int)).1)) = false → (K yb1))))))))))))))))))))
def fBits_vc (u0 : Frame) (K : ((List UInt8) × Int) → Prop) : Prop := (u0.Data.length ≤ 140737488355328 → ((((fcheckfr u0) != 0) = true → (K ([], (fcheckfr u0)))) ∧ (((fcheckfr u0) != 0) = false → ((fheadpre u0) ∧ (((!u0.Fast) = true → ((((fheadS u0).length : Int) + ((csumS 0 (fheadS u0)).1.length : Int) ≤ 9223372036854775807) ∧ ((((sputS ((fheadS u0) ++ (csumS 0 (fheadS u0)).1)).1.length : Int) + (([49, 49, 49, 49, 49, 49, 49, 49, 49, 49] : List UInt8).length : Int) ≤ 9223372036854775807) ∧ (K ((sputS ((fheadS u0) ++ (csumS 0 (fheadS u0)).1)).1 ++ ([49, 49, 49, 49, 49, 49, 49, 49, 49, 49] : List UInt8), 0))))) ∧ ((!u0.Fast) = false → ((0 ≤ (w64 (((sputS (fheadS u0)).1.length : Int) - ((fheadS u0).length : Int)))) ∧ ((((sputS (fheadS u0)).1.length : Int) + ((fcountS (w64 (((sputS (fheadS u0)).1.length : Int) - ((fheadS u0).length : Int)))).length : Int) ≤ 9223372036854775807) ∧ ((((fcountS (w64 (((sputS (fheadS u0)).1.length : Int) - ((fheadS u0).length : Int)))).length : Int) + ((csumS (fkind u0) ((sputS (fheadS u0)).1 ++ (fcountS (w64 (((sputS (fheadS u0)).1.length : Int) - ((fheadS u0).length : Int)))))).1.length : Int) ≤ 9223372036854775807) ∧ ((0 ≤ w64 (((sputS (fheadS u0)).1.length : Int) - 1) ∧ w64 (((sputS (fheadS u0)).1.length : Int) - 1) < ((sputS (fheadS u0)).1.length : Int)) ∧ (∀ c195, (sputS (fheadS u0)).1[(w64 (((sputS (fheadS u0)).1.length : Int) - 1)).toNat]? = some c195 → ((((sputS (fheadS u0)).1.length : Int) + ((sfixedS ((fcountS (w64 (((sputS (fheadS u0)).1.length : Int) - ((fheadS u0).length : Int)))) ++ (csumS (fkind u0) ((sputS (fheadS u0)).1 ++ (fcountS (w64 (((sputS (fheadS u0)).1.length : Int) - ((fheadS u0).length : Int)))))).1) (c195.toNat : Int)).1.length : Int) ≤ 9223372036854775807) ∧ (((((sputS (fheadS u0)).1 ++ (sfixedS ((fcountS (w64 (((sputS (fheadS u0)).1.length : Int) - ((fheadS u0).length : Int)))) ++ (csumS (fkind u0) ((sputS (fheadS u0)).1 ++ (fcountS (w64 (((sputS (fheadS u0)).1.length : Int) - ((fheadS u0).length : Int)))))).1) (c195.toNat : Int)).1).length : Int) + (([49, 49, 49, 49, 49, 49, 49, 49, 49, 49] : List UInt8).length : Int) ≤ 9223372036854775807) ∧ (K (((sputS (fheadS u0)).1 ++ (sfixedS ((fcountS (w64 (((sputS (fheadS u0)).1.length : Int) - ((fheadS u0).length : Int)))) ++ (csumS (fkind u0) ((sputS (fheadS u0)).1 ++ (fcountS (w64 (((sputS (fheadS u0)).1.length : Int) - ((fheadS u0).length : Int)))))).1) (c195.toNat : Int)).1) ++ ([49, 49, 49, 49, 49, 49, 49, 49, 49, 49] : List UInt8), 0)))))))))))))))
theorem put_row (b : List UInt8) (h : isRow b = true) : ∀ c, isRow (putF c b) = true := by
 induction b with
 | nil => exact fun _ => rfl
 | cons x b ih =>
  intro c
  rw [isRow_cons, Bool.and_eq_true] at h
  rw [putF]
  split
  · rw [isRow_cons, isRow_cons, h.1, isBit_flip, ih h.2]; rfl
  · rw [isRow_cons, h.1, ih h.2]; rfl
theorem put_len2 (b : List UInt8) : ∀ c, (putF c b).length ≤ 2 * b.length ∧ b.length ≤ (putF c b).length := by
 induction b with
 | nil => intro c; simp [putF]
 | cons x b ih =>
  intro c
  rw [putF]
  split
  · have := ih (nx (nx c x) (flip x)); simp only [List.length_cons]; omega
  · have := ih (nx c x); simp only [List.length_cons]; omega
def nam1 (r : FReader) : FReader := ⟨(rnumberS (rwantS r [48]) 11).2.Reader, ⟨(rnumberS (rwantS r [48]) 11).1, (rnumberS (rwantS r [48]) 11).2.f.Long, (rnumberS (rwantS r [48]) 11).2.f.Fast, (rnumberS (rwantS r [48]) 11).2.f.Remote, (rnumberS (rwantS r [48]) 11).2.f.Size, (rnumberS (rwantS r [48]) 11).2.f.Data⟩⟩
def nam2 (c d : List UInt8 × FReader) : FReader := ⟨d.2.Reader, ⟨d.2.f.ID, d.1 == [49], d.2.f.Fast, c.1 == [49], d.2.f.Size, d.2.f.Data⟩⟩
def nam3 (c : Bool) (r : FReader) : FReader := if c = true then r else rfailS r 4
def nam4 (r : FReader) : FReader := ⟨(rnumberS r 18).2.Reader, ⟨bOr .i64 (bShl .i64 r.f.ID 18) (rnumberS r 18).1, r.f.Long, r.f.Fast, r.f.Remote, r.f.Size, r.f.Data⟩⟩
def nam5 (g : List UInt8 × FReader) : FReader := ⟨g.2.Reader, ⟨g.2.f.ID, g.2.f.Long, g.2.f.Fast, g.1 == [49], g.2.f.Size, g.2.f.Data⟩⟩
def nam6 (r : FReader) : FReader :=
 if ((rtakeFS (rtakeFS (nam1 r) 1).2 1).1 == [49]) = true then
  nam5 (rtakeFS (nam4 (nam3 ((rtakeFS (nam1 r) 1).1 == [49]) (nam2 (rtakeFS (nam1 r) 1) (rtakeFS (rtakeFS (nam1 r) 1).2 1)))) 1)
 else nam2 (rtakeFS (nam1 r) 1) (rtakeFS (rtakeFS (nam1 r) 1).2 1)
def nam7 (h : List UInt8 × FReader) : FReader := ⟨h.2.Reader, ⟨h.2.f.ID, h.2.f.Long, h.1 == [49], h.2.f.Remote, h.2.f.Size, h.2.f.Data⟩⟩
def nam8 (h : List UInt8 × FReader) : FReader :=
 if (h.1 == [49]) = true then rwantS (rwantS (rwantS (if h.2.f.Remote = true then rfailS (nam7 h) 4 else nam7 h) [48]) [49]) [48]
 else if h.2.f.Long = true then rwantS (nam7 h) [48] else nam7 h
def rnamesS (r : FReader) : FReader := nam8 (rtakeFS (nam6 r) 1)
theorem rtakeFS_Rok {r : FReader} {n : Int} (h : Rok r.Reader) : Rok (rtakeFS r n).2.Reader := (rtakeS_Rok n h).1
theorem nam1_Rok {r : FReader} (h : Rok r.Reader) : Rok (nam1 r).Reader := rnumberS_Rok (rwantS_Rok h)
theorem nam3_Rok {r : FReader} {c : Bool} (h : Rok r.Reader) : Rok (nam3 c r).Reader := by unfold nam3; split; exact h; exact rfailS_Rok h
theorem nam4_Rok {r : FReader} (h : Rok r.Reader) : Rok (nam4 r).Reader := rnumberS_Rok h
theorem nam6_Rok {r : FReader} (h : Rok r.Reader) : Rok (nam6 r).Reader := by
 have h1 : Rok (rtakeFS (rtakeFS (nam1 r) 1).2 1).2.Reader := rtakeFS_Rok (rtakeFS_Rok (nam1_Rok h))
 unfold nam6
 split
 · exact rtakeFS_Rok (nam4_Rok (nam3_Rok h1))
 · exact h1
theorem nam8_Rok {h : List UInt8 × FReader} (hR : Rok h.2.Reader) : Rok (nam8 h).Reader := by
 unfold nam8
 split
 · refine rwantS_Rok (rwantS_Rok (rwantS_Rok ?_))
   split
   · exact rfailS_Rok hR
   · exact hR
 · split
   · exact rwantS_Rok hR
   · exact hR
theorem rnamesS_Rok {r : FReader} (h : Rok r.Reader) : Rok (rnamesS r).Reader := nam8_Rok (rtakeFS_Rok (nam6_Rok h))
theorem rnames_ok (r : FReader) (h : Rok r.Reader) : rnames_vc r (fun q => q = rnamesS r) := by
 intro _
 refine ⟨h, ?_⟩
 rintro a ha _
 have ha' : a = rwantS r [48] := ha.symm
 refine ⟨by rw [ha']; exact ⟨rwantS_Rok h, by decide, by decide⟩, ?_⟩
 rintro b hb _
 have hn1 : nam1 r = ⟨b.2.Reader, ⟨b.1, b.2.f.Long, b.2.f.Fast, b.2.f.Remote, b.2.f.Size, b.2.f.Data⟩⟩ := by unfold nam1; rw [← ha', hb]
 rw [← hn1]
 refine ⟨⟨nam1_Rok h, by decide⟩, ?_⟩
 rintro c rfl _
 refine ⟨⟨rtakeFS_Rok (nam1_Rok h), by decide⟩, ?_⟩
 rintro d rfl _
 have hd : Rok (rtakeFS (rtakeFS (nam1 r) 1).2 1).2.Reader := rtakeFS_Rok (rtakeFS_Rok (nam1_Rok h))
 refine ⟨fun y => y = nam6 r, ⟨fun h1 => ⟨fun y => y = nam3 ((rtakeFS (nam1 r) 1).1 == [49]) (nam2 (rtakeFS (nam1 r) 1) (rtakeFS (rtakeFS (nam1 r) 1).2 1)), ⟨fun h2 => ?_, fun h2 => ?_⟩, ?_⟩, fun h1 => ?_⟩, ?_⟩
 · rintro y rfl _
   have h2 : ((rtakeFS (nam1 r) 1).1 == [49]) = false := by simpa using h2
   unfold nam3
   rw [if_neg (by rw [h2]; simp)]
   rfl
 · have h2 : ((rtakeFS (nam1 r) 1).1 == [49]) = true := by simpa using h2
   unfold nam3
   rw [if_pos h2]
   rfl
 · rintro y rfl
   have h3 : Rok (nam3 ((rtakeFS (nam1 r) 1).1 == [49]) (nam2 (rtakeFS (nam1 r) 1) (rtakeFS (rtakeFS (nam1 r) 1).2 1))).Reader := nam3_Rok hd
   generalize hy : nam3 ((rtakeFS (nam1 r) 1).1 == [49]) (nam2 (rtakeFS (nam1 r) 1) (rtakeFS (rtakeFS (nam1 r) 1).2 1)) = y at *
   refine ⟨⟨h3, by decide, by decide⟩, ⟨nam4_Rok h3, by decide⟩, ?_⟩
   rintro g hg _
   have hg' : g = rtakeFS (nam4 y) 1 := hg.symm
   unfold nam6
   rw [if_pos h1, hy, ← hg']
   rfl
 · unfold nam6
   rw [if_neg (by rw [h1]; simp)]
   rfl
 · rintro y rfl
   have h6 := nam6_Rok h
   refine ⟨⟨h6, by decide⟩, ?_⟩
   rintro q hq _
   have hqR : Rok q.2.Reader := by rw [← hq]; exact rtakeFS_Rok h6
   have hS : rnamesS r = nam8 q := by unfold rnamesS; rw [hq]
   rw [hS]
   refine ⟨fun h1 => ⟨fun y => y = if q.2.f.Remote = true then rfailS (nam7 q) 4 else nam7 q, ⟨fun h2 => ?_, fun h2 => ?_⟩, ?_⟩, fun h1 => ⟨fun h2 => ⟨hqR, ?_⟩, fun h2 => ?_⟩⟩
   · rintro y rfl _
     rw [if_pos h2]
     unfold nam7
     rw [h1]
   · rw [if_neg (by rw [h2]; simp)]
     unfold nam7
     rw [h1]
   · rintro y hy
     have hyR : Rok y.Reader := by
      rw [hy]
      split
      · exact rfailS_Rok hqR
      · exact hqR
     refine ⟨hyR, ?_⟩
     rintro z rfl _
     refine ⟨rwantS_Rok hyR, ?_⟩
     rintro z rfl _
     refine ⟨rwantS_Rok (rwantS_Rok hyR), ?_⟩
     rintro z rfl _
     unfold nam8
     rw [if_pos h1, ← hy]
   · rintro y rfl _
     unfold nam8
     rw [if_neg (by rw [h1]; simp), if_pos h2]
     unfold nam7
     rw [h1]
   · unfold nam8
     rw [if_neg (by rw [h1]; simp), if_neg (by rw [h2]; simp)]
     unfold nam7
     rw [h1]
theorem csumS_bound (i : Int) (b : List UInt8) : (csumS i b).1.length ≤ 21 ∧ isRow (csumS i b).1 = true := by
 unfold csumS
 split
 · exact ⟨by simp, rfl⟩
 · split
   · rename_i h
     have := kind_size (isKind_iff.1 h)
     refine ⟨?_, wr_row _ _⟩
     show (wr _ _).length ≤ 21
     rw [wr_length]
     unfold sizeN
     omega
   · exact ⟨by simp, rfl⟩
theorem cnt4_ok (n : Nat) : (cnt4 n).length = 4 ∧ isRow (cnt4 n) = true := by
 have h : ∀ m : Fin 8, (cnt4 m.val).length = 4 ∧ isRow (cnt4 m.val) = true := by decide
 have e : cnt4 n = cnt4 (n % 8) := by unfold cnt4; rw [Nat.mod_mod]
 rw [e]
 exact h ⟨n % 8, Nat.mod_lt _ (by decide)⟩
theorem fixF_len : ∀ (b : List UInt8) (k : Nat) (a : UInt8), (fixF k a b).length ≤ 2 * b.length := by
 intro b
 induction b with
 | nil => intro k a; simp [fixF]
 | cons c r ih =>
  intro k a
  rw [fixF]
  have := ih (k + 1) c
  split <;> simp <;> omega
def lastB (p : List UInt8) : UInt8 := p.getLastD 48
theorem lastB_at {p : List UInt8} {c : UInt8} (h : p[p.length - 1]? = some c) : lastB p = c := by
 unfold lastB
 rw [List.getLastD_eq_getLast?, List.getLast?_eq_getElem?, h]
 rfl
def fastEnd (p : List UInt8) (hl : Nat) (kind : Int) : List UInt8 := (sfixedS (cnt4 (p.length - hl) ++ (csumS kind (p ++ cnt4 (p.length - hl))).1) ((lastB p).toNat : Int)).1
theorem fastEnd_len (p : List UInt8) (hl : Nat) (kind : Int) : (fastEnd p hl kind).length ≤ 50 := by
 unfold fastEnd sfixedS
 split
 · simp
 · split
   · simp
   · dsimp only
     have h1 := fixF_len (cnt4 (p.length - hl) ++ (csumS kind (p ++ cnt4 (p.length - hl))).1) 0 (UInt8.ofNat ((lastB p).toNat : Int).toNat)
     have h2 := (csumS_bound kind (p ++ cnt4 (p.length - hl))).1
     have h3 := (cnt4_ok (p.length - hl)).1
     rw [List.length_append] at h1
     omega
def stAt (last : UInt8) (s : List UInt8) (i : Nat) : Bool := decide (i % 5 = 0) && (s[i]? == if i = 0 then some last else s[i - 1]?)
def badN (last : UInt8) (s : List UInt8) (k : Nat) : Bool := (List.range k).any (stAt last s)
theorem badN_succ (last : UInt8) (s : List UInt8) (k : Nat) : badN last s (k + 1) = (badN last s k || stAt last s k) := by
 unfold badN
 rw [List.range_succ, List.any_append]
 simp
theorem rfailS_twice (r : FReader) (e : Int) (he : e ≠ 0) : rfailS (rfailS r e) e = rfailS r e := by
 by_cases h : r.Reader.Code = 0
 · have h1 : rfailS r e = ⟨⟨r.Reader.Row, r.Reader.At, e, r.Reader.c⟩, r.f⟩ := by unfold rfailS; rw [if_pos h]
   rw [h1]
   unfold rfailS
   rw [if_neg (by show ¬ e = 0; exact he)]
 · have h1 : rfailS r e = r := by unfold rfailS; rw [if_neg h]
   rw [h1, h1]
def rfastS (r : FReader) : FReader :=
 if r.Reader.Code ≠ 0 then r else
  (fun e => (fun q : List UInt8 × FReader => (fun t : FReader => if t.Reader.Code = 0 ∧ q.1 ≠ e then rfailS t 6 else t) (if badN (lastB (r.Reader.Row.take r.Reader.At.toNat)) q.1 q.1.length = true then rfailS q.2 5 else q.2)) (rplainFS r e.length))
   (fastEnd (r.Reader.Row.take r.Reader.At.toNat) (fheadS r.f).length (fkind r.f))
def fastpre (r : FReader) : Prop := Rok r.Reader ∧ (r.Reader.Code = 0 → fheadpre r.f ∧ ((fheadS r.f).length : Int) ≤ r.Reader.At)
theorem u8eq (a b : UInt8) : ((a.toNat : Int) == (b.toNat : Int)) = (a == b) := by
 rw [Bool.eq_iff_iff, beq_iff_eq, beq_iff_eq]
 constructor
 · intro h; exact UInt8.toNat_inj.1 (by omega)
 · intro h; rw [h]
theorem fheadS_pos (f : Frame) : 1 ≤ (fheadS f).length := by unfold fheadS; simp
theorem rfast_ok (r : FReader) (h : fastpre r) : rfast_vc r (fun q => q = rfastS r) := by
 obtain ⟨hR, hp⟩ := h
 have hR' := hR
 obtain ⟨a0, a1, a2, a3, a4, a5⟩ := hR
 intro _
 refine ⟨fun h1 => ?_, fun h1 => ?_⟩
 · have h1 : r.Reader.Code ≠ 0 := by simpa using h1
   unfold rfastS
   rw [if_pos h1]
 · have hc0 : r.Reader.Code = 0 := by simpa using h1
   have hS : rfastS r = (fun e => (fun q : List UInt8 × FReader => (fun t : FReader => if t.Reader.Code = 0 ∧ q.1 ≠ e then rfailS t 6 else t) (if badN (lastB (r.Reader.Row.take r.Reader.At.toNat)) q.1 q.1.length = true then rfailS q.2 5 else q.2)) (rplainFS r e.length))
    (fastEnd (r.Reader.Row.take r.Reader.At.toNat) (fheadS r.f).length (fkind r.f)) := by
    unfold rfastS
    rw [if_neg (fun hc => hc hc0)]
   obtain ⟨hpre, hlen⟩ := hp hc0
   have hpos := fheadS_pos r.f
   have hpl : (r.Reader.Row.take r.Reader.At.toNat).length = r.Reader.At.toNat := by rw [List.length_take]; omega
   generalize hhl : (fheadS r.f).length = hl at *
   generalize hpp : r.Reader.Row.take r.Reader.At.toNat = p at *
   have ew : w64 ((p.length : Int) - (hl : Int)) = ((p.length - hl : Nat) : Int) := by rw [w64_eq _ (by omega)]; omega
   have ew2 : w64 ((p.length : Int) - 1) = ((p.length - 1 : Nat) : Int) := by rw [w64_eq _ (by omega)]; omega
   have ec : fcountS ((p.length - hl : Nat) : Int) = cnt4 (p.length - hl) := by unfold fcountS; rw [Int.toNat_natCast]
   rw [ew, ew2, ec]
   have hc4 := (cnt4_ok (p.length - hl)).1
   have hsb := (csumS_bound (fkind r.f) (p ++ cnt4 (p.length - hl))).1
   refine ⟨⟨a0, a1⟩, hpre, by omega, by omega, by omega, ⟨by omega, by omega⟩, fun c hc => ?_⟩
   rw [Int.toNat_natCast] at hc
   have hlast := lastB_at hc
   have he : (sfixedS (cnt4 (p.length - hl) ++ (csumS (fkind r.f) (p ++ cnt4 (p.length - hl))).1) (c.toNat : Int)).1 = fastEnd p hl (fkind r.f) := by unfold fastEnd; rw [hlast]
   rw [he]
   have hel := fastEnd_len p hl (fkind r.f)
   generalize fastEnd p hl (fkind r.f) = e at *
   refine ⟨⟨⟨a0, a1, a2⟩, by omega⟩, ?_⟩
   intro q hq _
   have hS2 : rfastS r = (fun t : FReader => if t.Reader.Code = 0 ∧ q.1 ≠ e then rfailS t 6 else t) (if badN c q.1 q.1.length = true then rfailS q.2 5 else q.2) := by
    rw [hS]
    dsimp only
    rw [hq, hlast]
   rw [hS2]
   have hqb : q.1.length ≤ e.length := by
    rw [← hq]
    show (rplainS r.Reader e.length).1.length ≤ _
    unfold rplainS
    split
    · simp
    · split
      · simp
      · split
        · rw [List.length_take]; omega
        · simp
   refine ⟨fun x y => ∃ k : Nat, x = k ∧ k ≤ q.1.length ∧ y = if badN c q.1 k = true then rfailS q.2 5 else q.2, fun x _ => q.1.length - x.toNat, ⟨0, rfl, by omega, rfl⟩, ?_⟩
   rintro _ y ⟨k, rfl, hk, hy⟩
   have hstep : ∀ b : Bool, stAt c q.1 k = b → (if badN c q.1 (k + 1) = true then rfailS q.2 5 else q.2) = if b = true then rfailS y 5 else y := by
    intro b hb
    rw [badN_succ, hb, hy]
    cases badN c q.1 k <;> cases b <;> simp [rfailS_twice]
   refine ⟨fun h2 => ⟨fun y' => y' = if badN c q.1 (k + 1) = true then rfailS q.2 5 else q.2, ⟨fun h3 => ?_, fun h3 => ?_⟩, ?_⟩, fun h2 => ?_⟩
   · have hk : k < q.1.length := by have := of_decide_eq_true h2; omega
     have h3 : k % 5 = 0 ∧ 0 < k := by
      rw [Bool.and_eq_true, beq_iff_eq, decide_eq_true_eq, Int.tmod_eq_emod_of_nonneg (by omega)] at h3
      omega
     have ek : w64 ((k : Int) - 1) = ((k - 1 : Nat) : Int) := by rw [w64_eq _ (by omega)]; omega
     rw [ek]
     refine ⟨by omega, fun u hu => ⟨by omega, fun v hv => ?_⟩⟩
     rw [Int.toNat_natCast] at hu hv
     rw [u8eq]
     have hst : stAt c q.1 k = (u == v) := by
      unfold stAt
      rw [if_neg (by omega), hu, hv, decide_eq_true h3.1]
      simp
     refine ⟨fun h4 => ?_, fun h4 => ⟨fun h5 => ?_, fun h5 => ?_⟩⟩
     · rintro z rfl _
       rw [hstep true (by rw [hst, h4])]
       rfl
     · have : (k : Int) = 0 := by simpa using h5
       omega
     · rw [hstep false (by rw [hst, h4])]
       rfl
   · have hk : k < q.1.length := by have := of_decide_eq_true h2; omega
     have h3 : ¬ (k % 5 = 0 ∧ 0 < k) := by
      intro hc2
      have : ((((k : Int).tmod 5) == 0) && decide ((k : Int) > 0)) = true := by
       rw [Bool.and_eq_true, beq_iff_eq, decide_eq_true_eq, Int.tmod_eq_emod_of_nonneg (by omega)]
       omega
      rw [this] at h3
      cases h3
     refine ⟨fun h5 => ?_, fun h5 => ?_⟩
     · have h5 : k = 0 := by have : (k : Int) = 0 := by simpa using h5
                             omega
       subst h5
       refine ⟨by omega, fun u hu => ⟨by omega, fun v hv => ?_⟩⟩
       have hu : q.1[0]? = some u := hu
       rw [Int.toNat_natCast, hc] at hv
       cases hv
       rw [u8eq]
       have hst : stAt c q.1 0 = (u == c) := by
        unfold stAt
        rw [if_pos rfl, hu]
        simp
       refine ⟨fun h4 => ?_, fun h4 => ?_⟩
       · rintro z rfl _
         rw [hstep true (by rw [hst, h4])]
         rfl
       · rw [hstep false (by rw [hst, h4])]
         rfl
     · have h5 : ¬ k = 0 := by
         intro e0
         rw [e0] at h5
         cases h5
       have hst : stAt c q.1 k = false := by
        unfold stAt
        rw [decide_eq_false (by omega)]
        rfl
       rw [hstep false hst]
       rfl
   · rintro y' rfl
     have hk : k < q.1.length := by have := of_decide_eq_true h2; omega
     rw [w64_succ k (by omega)]
     exact ⟨⟨k + 1, rfl, by omega, rfl⟩, by (try dsimp only); omega⟩
   · have hk : k = q.1.length := by have := of_decide_eq_false h2; omega
     subst hk
     rw [← hy]
     refine ⟨fun h6 => ?_, fun h6 => ?_⟩
     · rintro z rfl _
       dsimp only
       rw [if_pos (by simpa using h6)]
     · dsimp only
       rw [if_neg]
       intro hc2
       have : ((y.Reader.Code == 0) && (q.1 != e)) = true := by simpa using hc2
       rw [this] at h6
       cases h6
theorem rfail_ite (c : Prop) [Decidable c] (t : FReader) (e : Int) : (if c then rfailS t e else t).f = t.f := by
 split
 · exact rfailS_f t e
 · rfl
theorem rfastS_f (r : FReader) : (rfastS r).f = r.f := by
 unfold rfastS
 split
 · rfl
 · generalize fastEnd _ _ _ = e
   dsimp only
   rw [rfail_ite, rfail_ite]
   rfl
def tail10 : List UInt8 := [49, 49, 49, 49, 49, 49, 49, 49, 49, 49]
def BitsS (f : Frame) : List UInt8 × Int := if fcheckfr f ≠ 0 then ([], fcheckfr f) else
 if f.Fast = false then ((sputS (fheadS f ++ sumR 0 (fheadS f))).1 ++ tail10, 0)
 else (((sputS (fheadS f)).1 ++ fastEnd (sputS (fheadS f)).1 (fheadS f).length (fkind f)) ++ tail10, 0)
theorem fheadS_row (f : Frame) : isRow (fheadS f) = true := by
 unfold fheadS fctl
 simp only [isRow_append, fnameS_row, wr_row, ofb_row, Bool.true_and, Bool.and_true]
 split
 · rfl
 · split <;> rfl
theorem fheadS_len (f : Frame) : (fheadS f).length = 1 + (if f.Long = false then 13 else 32) + (if f.Fast = true then 4 else if f.Long = true then 2 else 1) + 4 + 8 * f.Data.length := by
 unfold fheadS fctl
 simp only [List.length_append, fnameS_len, wr_length, ofb_length, List.length_cons, List.length_nil]
 split <;> (try split) <;> (try split) <;> simp_all
theorem sputS_row {b : List UInt8} (h : isRow b = true) (hl : b.length ≤ 1000) : sputS b = (putF ⟨0, 0⟩ b, 0) := by
 unfold sputS
 rw [if_neg (by rw [(bcheck_zero b).2 ⟨hl, h⟩]; simp)]
theorem csumS_row {i : Int} {b : List UInt8} (h1 : isKind i = true) (h2 : b.length ≤ 1000) (h3 : isRow b = true) : csumS i b = (sumR i b, 0) := by
 unfold csumS
 rw [if_neg (by rw [(bcheck_zero b).2 ⟨h2, h3⟩]; simp), if_pos h1]
theorem okpre {f : Frame} (h : fcheckfr f = 0) (hd : ∀ x ∈ f.Data, 0 ≤ x ∧ x ≤ 255) : fheadpre f := by
 obtain ⟨c1, c2, c3, c4, c5, c6, c7, c8, c9, c10⟩ := fcheckfr_zero h
 exact ⟨c1, c2, c5, c6, c8, hd, fun _ => c10⟩
theorem fBits_ok (f : Frame) (hd : ∀ x ∈ f.Data, 0 ≤ x ∧ x ≤ 255) : fBits_vc f (fun r => r = BitsS f) := by
 intro _
 refine ⟨fun h => ?_, fun h => ?_⟩
 · have h : fcheckfr f ≠ 0 := by simpa using h
   unfold BitsS
   rw [if_pos h]
 · have h0 : fcheckfr f = 0 := by simpa using h
   have hpre := okpre h0 hd
   obtain ⟨c1, c2, c3, c4, c5, c6, c7, c8, c9, c10⟩ := fcheckfr_zero h0
   have hhl := fheadS_len f
   have hl : (fheadS f).length ≤ 553 := by rw [hhl]; split <;> split <;> (try split) <;> omega
   have hrow := fheadS_row f
   have hp2 := put_len2 (fheadS f) ⟨0, 0⟩
   refine ⟨hpre, fun h1 => ?_, fun h1 => ?_⟩
   · have hf : f.Fast = false := by simpa using h1
     have hs : csumS 0 (fheadS f) = (sumR 0 (fheadS f), 0) := csumS_row rfl (by omega) hrow
     have hsl : (sumR 0 (fheadS f)).length = 15 := wr_length _ _
     have hsr : isRow (sumR 0 (fheadS f)) = true := wr_row _ _
     have hpr : sputS (fheadS f ++ sumR 0 (fheadS f)) = (putF ⟨0, 0⟩ (fheadS f ++ sumR 0 (fheadS f)), 0) := sputS_row (by rw [isRow_append, hrow, hsr]; rfl) (by simp; omega)
     have hp3 := put_len2 (fheadS f ++ sumR 0 (fheadS f)) ⟨0, 0⟩
     rw [hs]
     dsimp only
     have hS : BitsS f = ((sputS (fheadS f ++ sumR 0 (fheadS f))).1 ++ tail10, 0) := by unfold BitsS; rw [if_neg (fun hc => hc h0), if_pos hf]
     rw [hS]
     refine ⟨by omega, ?_, rfl⟩
     rw [hpr]
     dsimp only
     simp at hp3 ⊢
     omega
   · have hf : f.Fast = true := by simpa using h1
     have hpr : sputS (fheadS f) = (putF ⟨0, 0⟩ (fheadS f), 0) := sputS_row hrow (by omega)
     have hS : BitsS f = (((sputS (fheadS f)).1 ++ fastEnd (sputS (fheadS f)).1 (fheadS f).length (fkind f)) ++ tail10, 0) := by unfold BitsS; rw [if_neg (fun hc => hc h0), if_neg (by rw [hf]; simp)]
     rw [hS, hpr]
     dsimp only
     have hpos := fheadS_pos f
     generalize fheadS f = h at *
     generalize putF ⟨0, 0⟩ h = p at *
     have ew : w64 ((p.length : Int) - (h.length : Int)) = ((p.length - h.length : Nat) : Int) := by rw [w64_eq _ (by omega)]; omega
     have ew2 : w64 ((p.length : Int) - 1) = ((p.length - 1 : Nat) : Int) := by rw [w64_eq _ (by omega)]; omega
     have ec : fcountS ((p.length - h.length : Nat) : Int) = cnt4 (p.length - h.length) := by unfold fcountS; rw [Int.toNat_natCast]
     rw [ew, ew2, ec]
     have hc4 := (cnt4_ok (p.length - h.length)).1
     have hsb := (csumS_bound (fkind f) (p ++ cnt4 (p.length - h.length))).1
     refine ⟨by omega, by omega, by omega, ⟨by omega, by omega⟩, fun c hc => ?_⟩
     rw [Int.toNat_natCast] at hc
     have hlast := lastB_at hc
     have he : (sfixedS (cnt4 (p.length - h.length) ++ (csumS (fkind f) (p ++ cnt4 (p.length - h.length))).1) (c.toNat : Int)).1 = fastEnd p h.length (fkind f) := by unfold fastEnd; rw [hlast]
     rw [he]
     have hel := fastEnd_len p h.length (fkind f)
     refine ⟨by omega, ?_, rfl⟩
     simp
     omega
end Go.Proofs.YtmnlahbngbigdaaGreatDoor
set_option linter.unusedVariables false
set_option linter.unusedSimpArgs false
namespace Go.Proofs.YtmnlahbngbigdaaGreatDoor
open Go.Sy Go.RowKit
end Go.Proofs.YtmnlahbngbigdaaGreatDoor
set_option linter.unusedVariables false
set_option linter.unusedSimpArgs false
namespace Go.Proofs.YtmnlahbngbigdaaGreatDoor
open Go.Sy Go.RowKit
def rother_vc (u0 : Int) (K : Int → Prop) : Prop := (((u0 == 48) = true → (K 49)) ∧ ((u0 == 48) = false → (K 48)))
def rother (u0 : Int) : Int :=
 bif u0 == 48 then 49
  else 48
theorem rother_ok (u0 : Int) : rother_vc u0 (fun r => r = rother u0) := ⟨fun h0 => (by simp only [rother, h0, cond_true, cond_false]), fun h0 => (by simp only [rother, h0, cond_true, cond_false])⟩
def rsame_vc (u0 : List UInt8) (K : Bool → Prop) : Prop := ((0 ≤ (1 : Int) ∧ (1 : Int) ≤ (u0.length : Int)) ∧ (((u0.take (1 : Int).toNat).length = 1) ∧ (K ((count1S u0 (u0.take (1 : Int).toNat)) == (u0.length : Int)))))
def fixbits_vc (u0 : List UInt8) (u1 : Int) (K : (List UInt8) → Prop) : Prop := (∃ inv11 : Int → (List UInt8) → Int → Prop, ∃ mu11 : Int → (List UInt8) → Int → Nat, inv11 u1 [] 0 ∧ (∀ (x1 : Int) (x5 : List UInt8) (x6 : Int), inv11 x1 x5 x6 → (((decide (x6 < (u0.length : Int))) = true → ((0 ≤ x6 ∧ x6 ≤ (min (w64 (x6 + 4)) (u0.length : Int)) ∧ (min (w64 (x6 + 4)) (u0.length : Int)) ≤ (u0.length : Int)) ∧ ((((bstr ([(rother x1)] : List Int)).length : Int) + (((u0.take (min (w64 (x6 + 4)) (u0.length : Int)).toNat).drop x6.toNat).length : Int) ≤ 9223372036854775807) ∧ (((x5.length : Int) + (((bstr ([(rother x1)] : List Int)) ++ ((u0.take (min (w64 (x6 + 4)) (u0.length : Int)).toNat).drop x6.toNat)).length : Int) ≤ 9223372036854775807) ∧ ((0 ≤ w64 (((x5 ++ ((bstr ([(rother x1)] : List Int)) ++ ((u0.take (min (w64 (x6 + 4)) (u0.length : Int)).toNat).drop x6.toNat))).length : Int) - 1) ∧ w64 (((x5 ++ ((bstr ([(rother x1)] : List Int)) ++ ((u0.take (min (w64 (x6 + 4)) (u0.length : Int)).toNat).drop x6.toNat))).length : Int) - 1) < ((x5 ++ ((bstr ([(rother x1)] : List Int)) ++ ((u0.take (min (w64 (x6 + 4)) (u0.length : Int)).toNat).drop x6.toNat))).length : Int)) ∧ (∀ c106, (x5 ++ ((bstr ([(rother x1)] : List Int)) ++ ((u0.take (min (w64 (x6 + 4)) (u0.length : Int)).toNat).drop x6.toNat)))[(w64 (((x5 ++ ((bstr ([(rother x1)] : List Int)) ++ ((u0.take (min (w64 (x6 + 4)) (u0.length : Int)).toNat).drop x6.toNat))).length : Int) - 1)).toNat]? = some c106 → (inv11 (c106.toNat : Int) (x5 ++ ((bstr ([(rother x1)] : List Int)) ++ ((u0.take (min (w64 (x6 + 4)) (u0.length : Int)).toNat).drop x6.toNat))) (w64 (x6 + 4)) ∧ mu11 (c106.toNat : Int) (x5 ++ ((bstr ([(rother x1)] : List Int)) ++ ((u0.take (min (w64 (x6 + 4)) (u0.length : Int)).toNat).drop x6.toNat))) (w64 (x6 + 4)) < mu11 x1 x5 x6))))))) ∧ ((decide (x6 < (u0.length : Int))) = false → (K x5)))))
theorem rsame_ok (l : List UInt8) (h : 0 < l.length ∧ l.length ≤ 1000) : rsame_vc l (fun r => r = rsameS l) := by
 match l, h with
 | c :: r, h =>
  refine ⟨by omega, rfl, ?_⟩
  show (((((c :: r).count c : Nat) : Int)) == (((c :: r).length : Nat) : Int)) = r.all (· == c)
  rw [List.count_cons_self, List.length_cons]
  have h1 : ((((r.count c + 1 : Nat) : Int) == ((r.length + 1 : Nat) : Int))) = decide (r.count c = r.length) := by
   rw [Bool.eq_iff_iff]
   simp
   omega
  rw [h1, Bool.eq_iff_iff]
  simp only [decide_eq_true_eq, List.all_eq_true, beq_iff_eq]
  rw [List.count_eq_length]
  exact ⟨fun h x hx => (h x hx).symm, fun h x hx => (h x hx).symm⟩
def ct (x : List UInt8) : Counter := x.foldl nx ⟨0, 0⟩
theorem ct_snoc (x : List UInt8) (b : UInt8) : ct (x ++ [b]) = nx (ct x) b := by unfold ct; rw [List.foldl_append]; rfl
theorem ct_trail (x : List UInt8) (hx : isRow x = true) (hne : x ≠ []) : ∃ (pre : List UInt8) (q : UInt8) (m : Nat), ct x = ⟨(q.toNat : Int), (m : Int)⟩ ∧ 1 ≤ m ∧ x = pre ++ List.replicate m q ∧ ∀ p, pre.getLast? = some p → p ≠ q := by
 have key : ∀ y : List UInt8, isRow y.reverse = true → y ≠ [] → ∃ (pre : List UInt8) (q : UInt8) (m : Nat), ct y.reverse = ⟨(q.toNat : Int), (m : Int)⟩ ∧ 1 ≤ m ∧ y.reverse = pre ++ List.replicate m q ∧ ∀ p, pre.getLast? = some p → p ≠ q := by
  intro y
  induction y with
  | nil => exact fun _ h => absurd rfl h
  | cons b y ih =>
   intro hr _
   rw [List.reverse_cons] at hr ⊢
   rw [isRow_append, Bool.and_eq_true] at hr
   have hb : isBit b = true := by have := hr.2; simpa [isRow] using this
   rw [ct_snoc]
   by_cases hy : y = []
   · subst hy
     refine ⟨[], b, 1, ?_, by omega, rfl, by simp⟩
     show nx ⟨0, 0⟩ b = _
     rcases isBit_or hb with rfl | rfl <;> rfl
   · obtain ⟨pre, q, m, h1, h2, h3, h4⟩ := ih hr.1 hy
     rw [h1]
     by_cases hq : b = q
     · subst hq
       refine ⟨pre, b, m + 1, ?_, by omega, ?_, h4⟩
       · unfold nx
         rw [if_pos rfl]
         rfl
       · rw [h3, List.append_assoc]
         congr 1
         exact List.replicate_succ'.symm
     · refine ⟨y.reverse, b, 1, ?_, by omega, rfl, fun p hp => ?_⟩
       · unfold nx
         rw [if_neg (fun h => hq (UInt8.toNat_inj.1 (by have h' : (b.toNat : Int) = (q.toNat : Int) := h; omega)))]
         rfl
       · rw [h3] at hp
         have : (pre ++ List.replicate m q).getLast? = some q := by
          rw [List.getLast?_append, List.getLast?_replicate, if_neg (by omega)]
          rfl
         rw [this] at hp
         have := Option.some.inj hp
         subst this
         exact fun h => hq h.symm
 have := key x.reverse (by rw [List.reverse_reverse]; exact hx) (by simpa using hne)
 rw [List.reverse_reverse] at this
 exact this
theorem last_five (x : List UInt8) (hx : isRow x = true) (h5 : 5 ≤ x.length) : ∃ q, x[x.length - 1]? = some q ∧ (ct x).last = (q.toNat : Int) ∧ ((x.drop (x.length - 5)).count q = 5 ↔ 5 ≤ (ct x).n) ∧ (rsameS (x.drop (x.length - 5)) = true ↔ 5 ≤ (ct x).n) := by
 obtain ⟨pre, q, m, h1, h2, h3, h4⟩ := ct_trail x hx (by rintro rfl; simp at h5)
 have hlen : x.length = pre.length + m := by rw [h3]; simp
 refine ⟨q, ?_, by rw [h1], ?_⟩
 · have e : x.length - 1 = pre.length + (m - 1) := by omega
   rw [e, h3, List.getElem?_append_right (by omega)]
   rw [List.getElem?_replicate]
   simp
   omega
 have hl5 : (x.drop (x.length - 5)).length = 5 := by rw [List.length_drop]; omega
 have hall : (∀ y ∈ x.drop (x.length - 5), y = q) ↔ 5 ≤ (ct x).n := by
  rw [h1]
  constructor
  · intro h
    show (5 : Int) ≤ (m : Int)
    rcases Nat.lt_or_ge m 5 with hm | hm
    · exfalso
      have hp : pre ≠ [] := by rintro rfl; simp at hlen; omega
      have hgl := List.getLast?_eq_some_getLast hp
      have hmem : pre.getLast hp ∈ x.drop (x.length - 5) := by
       rw [h3, List.mem_iff_getElem?]
       have e : (pre ++ List.replicate m q).length - 5 ≤ pre.length - 1 := by simp; omega
       refine ⟨pre.length - 1 - ((pre ++ List.replicate m q).length - 5), ?_⟩
       rw [List.getElem?_drop]
       have e2 : (pre ++ List.replicate m q).length - 5 + (pre.length - 1 - ((pre ++ List.replicate m q).length - 5)) = pre.length - 1 := by omega
       have hp0 : 0 < pre.length := List.length_pos_iff.2 hp
       rw [e2, List.getElem?_append_left (by omega), ← List.getLast?_eq_getElem?]
       exact hgl
      exact h4 _ hgl (h _ hmem)
    · omega
  · intro h y hy
    have hm : 5 ≤ m := by have h : (5 : Int) ≤ (m : Int) := h; omega
    have : x.drop (x.length - 5) = List.replicate 5 q := by
     rw [h3, List.drop_append, List.drop_eq_nil_of_le (by simp; omega), List.nil_append, List.drop_replicate]
     congr 1
     simp
     omega
    rw [this] at hy
    exact List.eq_of_mem_replicate hy
 constructor
 · have e : (x.drop (x.length - 5)).count q = 5 ↔ (x.drop (x.length - 5)).count q = (x.drop (x.length - 5)).length := by rw [hl5]
   rw [← hall, e, List.count_eq_length]
   exact ⟨fun h y hy => (h y hy).symm, fun h y hy => (h y hy).symm⟩
 · rw [← hall]
   have hq : q ∈ x.drop (x.length - 5) := by
    rw [h3, List.mem_iff_getElem?]
    refine ⟨4, ?_⟩
    rw [List.getElem?_drop, List.getElem?_append_right (by simp; omega), List.getElem?_replicate]
    simp
    omega
   cases hd : x.drop (x.length - 5) with
   | nil => rw [hd] at hl5; cases hl5
   | cons c r =>
    rw [hd] at hq
    show r.all (· == c) = true ↔ _
    simp only [List.all_eq_true, beq_iff_eq]
    constructor
    · intro h
      have hqc : q = c := by
       rcases List.mem_cons.1 hq with e | e
       · exact e
       · exact h q e
      intro y hy
      rcases List.mem_cons.1 hy with e | e
      · rw [e, hqc]
      · rw [h y e, hqc]
    · intro h y hy
      rw [h y (by simp [hy]), h c (by simp)]
theorem ct_bound (x : List UInt8) : 0 ≤ (ct x).n ∧ (ct x).n ≤ x.length := by
 have key : ∀ (y : List UInt8) (c : Counter) (k : Int), 0 ≤ c.n ∧ c.n ≤ k → 0 ≤ (y.foldl nx c).n ∧ (y.foldl nx c).n ≤ k + y.length := by
  intro y
  induction y with
  | nil => intro c k h; simpa using h
  | cons b y ih =>
   intro c k h
   have hb := nx_bound c b k h
   have := ih (nx c b) (k + 1) ⟨by omega, hb.2⟩
   rw [List.foldl_cons, List.length_cons]
   omega
 have := key x ⟨0, 0⟩ 0 ⟨by decide, by decide⟩
 unfold ct
 omega
theorem rother_flip (c : UInt8) (h : isBit c = true) : rother (c.toNat : Int) = ((flip c).toNat : Int) := by
 rcases isBit_or h with rfl | rfl <;> rfl
theorem bstr_rother (c : UInt8) (h : isBit c = true) : bstr [rother (c.toNat : Int)] = [flip c] := by rw [rother_flip c h, bstr_one]
def fixbitsS (b : List UInt8) (a : Int) : List UInt8 := fixF 0 (UInt8.ofNat a.toNat) b
theorem fixF_none (b : List UInt8) : ∀ (k : Nat) (a : UInt8), 1 ≤ k % 4 → k % 4 + b.length ≤ 4 → fixF k a b = b := by
 induction b with
 | nil => exact fun _ _ _ _ => rfl
 | cons c r ih =>
  intro k a h1 h2
  rw [List.length_cons] at h2
  rw [fixF, if_neg (by omega)]
  cases r with
  | nil => rfl
  | cons d r =>
   rw [ih (k + 1) c (by rw [List.length_cons] at h2; omega) (by rw [List.length_cons] at h2 ⊢; omega)]
theorem fixF_chunk (x y : List UInt8) : ∀ (k : Nat) (a : UInt8), 1 ≤ k % 4 → k % 4 + x.length = 4 → x ≠ [] → fixF k a (x ++ y) = x ++ fixF (k + x.length) (x.getLast?.getD a) y := by
 induction x with
 | nil => exact fun _ _ _ _ h => absurd rfl h
 | cons c r ih =>
  intro k a h1 h2 _
  rw [List.length_cons] at h2
  rw [List.cons_append, fixF, if_neg (by omega)]
  cases r with
  | nil => simp
  | cons d r =>
   rw [ih (k + 1) c (by rw [List.length_cons] at h2; omega) (by rw [List.length_cons] at h2 ⊢; omega) (by simp)]
   have e : k + 1 + (d :: r).length = k + (c :: d :: r).length := by simp only [List.length_cons]; omega
   rw [e, List.getLast?_cons_cons, List.getLast?_eq_some_getLast (by simp : d :: r ≠ [])]
   simp
theorem fixF_shift (b : List UInt8) : ∀ (k j : Nat) (a : UInt8), k % 4 = j % 4 → fixF k a b = fixF j a b := by
 induction b with
 | nil => exact fun _ _ _ _ => rfl
 | cons c r ih =>
  intro k j a h
  rw [fixF, fixF, h, ih (k + 1) (j + 1) c (by omega)]
theorem fixbits_ok (b : List UInt8) (a : Int) (h : isRow b = true ∧ b.length ≤ 1000 ∧ (a = 48 ∨ a = 49)) : fixbits_vc b a (fun r => r = fixbitsS b a) := by
 refine ⟨fun x1 x5 x6 => ∃ (k : Nat) (c : UInt8), x6 = k ∧ x1 = (c.toNat : Int) ∧ isBit c = true ∧ k % 4 = 0 ∧ k ≤ b.length + 3 ∧ x5.length ≤ 2 * k ∧ x5 ++ fixF 0 c (b.drop k) = fixbitsS b a, fun _ _ x6 => b.length + 4 - x6.toNat, ?_, ?_⟩
 · refine ⟨0, UInt8.ofNat a.toNat, rfl, ?_, ?_, rfl, by omega, by simp, rfl⟩ <;> rcases h.2.2 with rfl | rfl <;> rfl
 rintro _ x5 _ ⟨k, c, rfl, rfl, hc, hk4, hkl, hx5, hfix⟩
 refine ⟨fun h1 => ?_, fun h1 => ?_⟩
 · have hk : k < b.length := by simp at h1; omega
   rw [bstr_rother c hc]
   have e4 : w64 ((k : Int) + 4) = ((k + 4 : Nat) : Int) := by rw [w64_eq _ (by omega)]; rfl
   rw [e4]
   have em : min ((k + 4 : Nat) : Int) (b.length : Int) = ((min (k + 4) b.length : Nat) : Int) := by omega
   rw [em, Int.toNat_natCast, Int.toNat_natCast]
   obtain ⟨ch, hch⟩ : ∃ ch, ch = (b.take (min (k + 4) b.length)).drop k := ⟨_, rfl⟩
   rw [← hch]
   have hlen : ch.length = min (k + 4) b.length - k := by rw [hch]; simp
   have hrow : isRow ch = true := by rw [hch]; exact isRow_drop (isRow_take h.1 _) _
   have hsplit : b.drop k = ch ++ b.drop (k + 4) := by
    rw [hch]
    by_cases h4 : k + 4 ≤ b.length
    · rw [Nat.min_eq_left h4]
      have : b.drop k = (b.drop k).take 4 ++ (b.drop k).drop 4 := (List.take_append_drop 4 _).symm
      rw [List.drop_drop] at this
      rw [List.drop_take]
      have e : k + 4 - k = 4 := by omega
      rw [e]
      exact this
    · rw [Nat.min_eq_right (by omega), List.take_length, List.drop_eq_nil_of_le (by omega : b.length ≤ k + 4), List.append_nil]
   obtain ⟨d, r, hdr⟩ : ∃ d r, ch = d :: r := by
    cases hcc : ch with
    | nil => rw [hcc] at hlen; simp at hlen; omega
    | cons d r => exact ⟨d, r, rfl⟩
   have hne : x5 ++ ([flip c] ++ ch) ≠ [] := by simp
   have hL : (x5 ++ ([flip c] ++ ch)).length = x5.length + 1 + ch.length := by simp; omega
   have hbl : b.length ≤ 1000 := h.2.1
   refine ⟨by omega, by simp only [List.length_cons, List.length_nil]; omega, by rw [List.length_append, List.length_cons, List.length_nil]; omega, ?_, fun q hq => ?_⟩
   · rw [hL, w64_eq _ (by omega)]
     omega
   · rw [hL] at hq
     have e1 : (w64 (((x5.length + 1 + ch.length : Nat) : Int) - 1)).toNat = x5.length + ch.length := by rw [w64_eq _ (by omega)]; omega
     rw [e1] at hq
     have hlast : ch.getLast? = some q := by
      rw [← List.append_assoc, List.getElem?_append_right (by simp; omega)] at hq
      have e2 : x5.length + ch.length - (x5 ++ [flip c]).length = ch.length - 1 := by simp; omega
      rw [e2] at hq
      rw [List.getLast?_eq_getElem?]
      exact hq
     have hqm : q ∈ ch := List.mem_of_getLast? hlast
     refine ⟨⟨k + 4, q, rfl, rfl, List.all_eq_true.1 hrow q hqm, by omega, by omega, by rw [hL]; omega, ?_⟩, by dsimp only; omega⟩
     have e9 : fixF 0 c (b.drop k) = flip c :: d :: fixF 1 d (r ++ b.drop (k + 4)) := by rw [hsplit, hdr]; rfl
     rw [← hfix, e9, hdr, List.append_assoc]
     congr 1
     simp only [List.cons_append, List.nil_append]
     congr 2
     cases hr : r with
     | nil =>
      rw [hdr, hr] at hlast
      simp at hlast
      subst hlast
      rw [List.nil_append]
      by_cases h4 : k + 4 ≤ b.length
      · rw [hdr, hr] at hlen; simp at hlen; omega
      · rw [List.drop_eq_nil_of_le (by omega : b.length ≤ k + 4)]; rfl
     | cons d2 r2 =>
      rw [← hr]
      have hrl : r ≠ [] := by rw [hr]; simp
      by_cases h4 : k + 4 ≤ b.length
      · have h3 : r.length = 3 := by rw [hdr] at hlen; simp at hlen; omega
        rw [fixF_chunk r _ 1 d (by omega) (by omega) hrl]
        have : r.getLast? = some q := by rw [hdr, List.getLast?_cons] at hlast; rw [hr] at hlast ⊢; simpa [List.getLast?_cons] using hlast
        rw [this, Option.getD_some]
        congr 1
        exact fixF_shift _ _ _ _ (by omega)
      · rw [List.drop_eq_nil_of_le (by omega : b.length ≤ k + 4), List.append_nil]
        rw [fixF_none r 1 d (by omega) (by rw [hdr] at hlen; simp at hlen; omega)]
        simp [fixF]
 · have : b.length ≤ k := by simp at h1; omega
   rw [List.drop_eq_nil_of_le this] at hfix
   simpa [fixF] using hfix
end Go.Proofs.YtmnlahbngbigdaaGreatDoor
set_option linter.unusedVariables false
set_option linter.unusedSimpArgs false
namespace Go.Proofs.YtmnlahbngbigdaaGreatDoor
open Go.Sy Go.RowKit
def putbits_vc (u0 : List UInt8) (K : (List UInt8) → Prop) : Prop := (∃ inv15 : (List UInt8) → Int → Prop, ∃ mu15 : (List UInt8) → Int → Nat, inv15 [] 0 ∧ (∀ (x3 : List UInt8) (x8 : Int), inv15 x3 x8 → (((decide (x8 < (u0.length : Int))) = true → ((0 ≤ x8 ∧ x8 ≤ (w64 (x8 + 1)) ∧ (w64 (x8 + 1)) ≤ (u0.length : Int)) ∧ (((x3.length : Int) + (((u0.take (w64 (x8 + 1)).toNat).drop x8.toNat).length : Int) ≤ 9223372036854775807) ∧ (((decide (((x3 ++ ((u0.take (w64 (x8 + 1)).toNat).drop x8.toNat)).length : Int) ≥ 5)) = true → ((0 ≤ w64 (((x3 ++ ((u0.take (w64 (x8 + 1)).toNat).drop x8.toNat)).length : Int) - 5) ∧ w64 (((x3 ++ ((u0.take (w64 (x8 + 1)).toNat).drop x8.toNat)).length : Int) - 5) ≤ ((x3 ++ ((u0.take (w64 (x8 + 1)).toNat).drop x8.toNat)).length : Int)) ∧ ((0 ≤ w64 (((x3 ++ ((u0.take (w64 (x8 + 1)).toNat).drop x8.toNat)).length : Int) - 1) ∧ w64 (((x3 ++ ((u0.take (w64 (x8 + 1)).toNat).drop x8.toNat)).length : Int) - 1) ≤ ((x3 ++ ((u0.take (w64 (x8 + 1)).toNat).drop x8.toNat)).length : Int)) ∧ ((((x3 ++ ((u0.take (w64 (x8 + 1)).toNat).drop x8.toNat)).drop (w64 (((x3 ++ ((u0.take (w64 (x8 + 1)).toNat).drop x8.toNat)).length : Int) - 1)).toNat).length = 1) ∧ ((((count1S ((x3 ++ ((u0.take (w64 (x8 + 1)).toNat).drop x8.toNat)).drop (w64 (((x3 ++ ((u0.take (w64 (x8 + 1)).toNat).drop x8.toNat)).length : Int) - 5)).toNat) ((x3 ++ ((u0.take (w64 (x8 + 1)).toNat).drop x8.toNat)).drop (w64 (((x3 ++ ((u0.take (w64 (x8 + 1)).toNat).drop x8.toNat)).length : Int) - 1)).toNat)) == 5) = true → ((0 ≤ w64 (((x3 ++ ((u0.take (w64 (x8 + 1)).toNat).drop x8.toNat)).length : Int) - 1) ∧ w64 (((x3 ++ ((u0.take (w64 (x8 + 1)).toNat).drop x8.toNat)).length : Int) - 1) < ((x3 ++ ((u0.take (w64 (x8 + 1)).toNat).drop x8.toNat)).length : Int)) ∧ (∀ c135, (x3 ++ ((u0.take (w64 (x8 + 1)).toNat).drop x8.toNat))[(w64 (((x3 ++ ((u0.take (w64 (x8 + 1)).toNat).drop x8.toNat)).length : Int) - 1)).toNat]? = some c135 → ((((x3 ++ ((u0.take (w64 (x8 + 1)).toNat).drop x8.toNat)).length : Int) + ((bstr ([(rother (c135.toNat : Int))] : List Int)).length : Int) ≤ 9223372036854775807) ∧ (inv15 ((x3 ++ ((u0.take (w64 (x8 + 1)).toNat).drop x8.toNat)) ++ (bstr ([(rother (c135.toNat : Int))] : List Int))) (w64 (x8 + 1)) ∧ mu15 ((x3 ++ ((u0.take (w64 (x8 + 1)).toNat).drop x8.toNat)) ++ (bstr ([(rother (c135.toNat : Int))] : List Int))) (w64 (x8 + 1)) < mu15 x3 x8))))) ∧ (((count1S ((x3 ++ ((u0.take (w64 (x8 + 1)).toNat).drop x8.toNat)).drop (w64 (((x3 ++ ((u0.take (w64 (x8 + 1)).toNat).drop x8.toNat)).length : Int) - 5)).toNat) ((x3 ++ ((u0.take (w64 (x8 + 1)).toNat).drop x8.toNat)).drop (w64 (((x3 ++ ((u0.take (w64 (x8 + 1)).toNat).drop x8.toNat)).length : Int) - 1)).toNat)) == 5) = false → (inv15 (x3 ++ ((u0.take (w64 (x8 + 1)).toNat).drop x8.toNat)) (w64 (x8 + 1)) ∧ mu15 (x3 ++ ((u0.take (w64 (x8 + 1)).toNat).drop x8.toNat)) (w64 (x8 + 1)) < mu15 x3 x8))))))) ∧ ((decide (((x3 ++ ((u0.take (w64 (x8 + 1)).toNat).drop x8.toNat)).length : Int) ≥ 5)) = false → (inv15 (x3 ++ ((u0.take (w64 (x8 + 1)).toNat).drop x8.toNat)) (w64 (x8 + 1)) ∧ mu15 (x3 ++ ((u0.take (w64 (x8 + 1)).toNat).drop x8.toNat)) (w64 (x8 + 1)) < mu15 x3 x8)))))) ∧ ((decide (x8 < (u0.length : Int))) = false → (K x3)))))
def takebits_vc (u0 : List UInt8) (u1 : Int) (K : ((List UInt8) × Int × Int) → Prop) : Prop := (∃ inv15 : (List UInt8) → Int → Prop, ∃ mu15 : (List UInt8) → Int → Nat, inv15 [] 0 ∧ (∀ (x7 : List UInt8) (x8 : Int), inv15 x7 x8 → (((decide ((x7.length : Int) < u1)) = true → (((x8 == (u0.length : Int)) = true → (K ([], 0, 7))) ∧ ((x8 == (u0.length : Int)) = false → ((0 ≤ x8 ∧ x8 ≤ (w64 (x8 + 1)) ∧ (w64 (x8 + 1)) ≤ (u0.length : Int)) ∧ (((x7.length : Int) + (((u0.take (w64 (x8 + 1)).toNat).drop x8.toNat).length : Int) ≤ 9223372036854775807) ∧ (((decide ((w64 (x8 + 1)) ≥ 5)) = true → ((0 ≤ w64 ((w64 (x8 + 1)) - 5) ∧ w64 ((w64 (x8 + 1)) - 5) ≤ (w64 (x8 + 1)) ∧ (w64 (x8 + 1)) ≤ (u0.length : Int)) ∧ ((0 < ((u0.take (w64 (x8 + 1)).toNat).drop (w64 ((w64 (x8 + 1)) - 5)).toNat).length ∧ ((u0.take (w64 (x8 + 1)).toNat).drop (w64 ((w64 (x8 + 1)) - 5)).toNat).length ≤ 1000) ∧ (((rsameS ((u0.take (w64 (x8 + 1)).toNat).drop (w64 ((w64 (x8 + 1)) - 5)).toNat)) = true → ((((w64 (x8 + 1)) == (u0.length : Int)) = true → (K ([], 0, 7))) ∧ (((w64 (x8 + 1)) == (u0.length : Int)) = false → ((0 ≤ w64 (x8 + 1) ∧ w64 (x8 + 1) < (u0.length : Int)) ∧ (∀ c148, u0[(w64 (x8 + 1)).toNat]? = some c148 → ((0 ≤ w64 ((w64 (x8 + 1)) - 1) ∧ w64 ((w64 (x8 + 1)) - 1) < (u0.length : Int)) ∧ (∀ c165, u0[(w64 ((w64 (x8 + 1)) - 1)).toNat]? = some c165 → ((((c148.toNat : Int) == (c165.toNat : Int)) = true → (K ([], 0, 5))) ∧ (((c148.toNat : Int) == (c165.toNat : Int)) = false → (inv15 (x7 ++ ((u0.take (w64 (x8 + 1)).toNat).drop x8.toNat)) (w64 ((w64 (x8 + 1)) + 1)) ∧ mu15 (x7 ++ ((u0.take (w64 (x8 + 1)).toNat).drop x8.toNat)) (w64 ((w64 (x8 + 1)) + 1)) < mu15 x7 x8)))))))))) ∧ ((rsameS ((u0.take (w64 (x8 + 1)).toNat).drop (w64 ((w64 (x8 + 1)) - 5)).toNat)) = false → (inv15 (x7 ++ ((u0.take (w64 (x8 + 1)).toNat).drop x8.toNat)) (w64 (x8 + 1)) ∧ mu15 (x7 ++ ((u0.take (w64 (x8 + 1)).toNat).drop x8.toNat)) (w64 (x8 + 1)) < mu15 x7 x8)))))) ∧ ((decide ((w64 (x8 + 1)) ≥ 5)) = false → (inv15 (x7 ++ ((u0.take (w64 (x8 + 1)).toNat).drop x8.toNat)) (w64 (x8 + 1)) ∧ mu15 (x7 ++ ((u0.take (w64 (x8 + 1)).toNat).drop x8.toNat)) (w64 (x8 + 1)) < mu15 x7 x8)))))))) ∧ ((decide ((x7.length : Int) < u1)) = false → (K (x7, x8, 0))))))
def putbitsS (b : List UInt8) : List UInt8 := putF ⟨0, 0⟩ b
theorem slice_one {α : Type} (b : List α) (k : Nat) (q : α) (hq : b[k]? = some q) : (b.take (k + 1)).drop k = [q] := by
 have hk := (List.getElem?_eq_some_iff.1 hq).1
 rw [take_next b k q hq, List.drop_append, List.drop_eq_nil_of_le (by rw [List.length_take]; omega), List.nil_append]
 have : k - (b.take k).length = 0 := by rw [List.length_take]; omega
 rw [this]
 rfl
theorem putbits_ok (b : List UInt8) (h : isRow b = true ∧ b.length ≤ 1000) : putbits_vc b (fun r => r = putbitsS b) := by
 refine ⟨fun x i => ∃ k : Nat, i = k ∧ k ≤ b.length ∧ x.length ≤ 2 * k ∧ isRow x = true ∧ (ct x).n ≤ 4 ∧ x ++ putF (ct x) (b.drop k) = putbitsS b, fun _ i => b.length - i.toNat, ⟨0, rfl, by omega, by simp, rfl, by decide, rfl⟩, ?_⟩
 rintro x _ ⟨k, rfl, hk, hx, hxr, hn, hp⟩
 have hl : b.length ≤ 1000 := h.2
 refine ⟨fun h1 => ?_, fun h1 => ?_⟩
 · have hkl : k < b.length := by simp at h1; omega
   have hq : b[k]? = some b[k] := List.getElem?_eq_getElem hkl
   generalize b[k] = q at hq
   have hqb : isBit q = true := List.all_eq_true.1 h.1 q (List.mem_of_getElem? hq)
   have ew : w64 ((k : Int) + 1) = ((k + 1 : Nat) : Int) := w64_succ k (by omega)
   rw [ew, Int.toNat_natCast, Int.toNat_natCast, slice_one b k q hq]
   have hy : isRow (x ++ [q]) = true := by rw [isRow_append, hxr]; simpa [isRow] using hqb
   have hyl : (x ++ [q]).length = x.length + 1 := by simp
   have hc := ct_snoc x q
   rw [drop_this b k q hq, putF, ← hc] at hp
   obtain ⟨y, hye⟩ : ∃ y, y = x ++ [q] := ⟨_, rfl⟩
   rw [← hye] at hy hyl hc hp ⊢
   have hcb := ct_bound y
   have hnb := nx_bound (ct x) q 4 ⟨(ct_bound x).1, hn⟩
   rw [← hc] at hnb
   have ylast : y[y.length - 1]? = some q := by rw [hye]; simp
   refine ⟨by omega, by simp only [List.length_cons, List.length_nil]; omega, fun h2 => ?_, fun h2 => ?_⟩
   · have h5 : 5 ≤ y.length := by simp at h2; omega
     obtain ⟨q2, f1, f2, f3, f4⟩ := last_five y hy h5
     obtain rfl : q2 = q := Option.some.inj (f1.symm.trans ylast)
     have e5 : w64 ((y.length : Int) - 5) = ((y.length - 5 : Nat) : Int) := by rw [w64_eq _ (by omega)]; omega
     have e1 : w64 ((y.length : Int) - 1) = ((y.length - 1 : Nat) : Int) := by rw [w64_eq _ (by omega)]; omega
     rw [e5, e1, Int.toNat_natCast, Int.toNat_natCast]
     have hd1 : y.drop (y.length - 1) = [q2] := by rw [drop_this y (y.length - 1) q2 ylast, List.drop_eq_nil_of_le (by omega)]
     rw [hd1]
     have hcount : (count1S (y.drop (y.length - 5)) [q2] == 5) = decide (5 ≤ (ct y).n) := by
      rw [Bool.eq_iff_iff, decide_eq_true_eq, ← f3]
      show ((((y.drop (y.length - 5)).count q2 : Nat) : Int) == 5) = true ↔ _
      rw [beq_iff_eq]
      omega
     rw [hcount]
     refine ⟨by omega, by omega, rfl, fun h3 => ⟨by omega, fun q3 hq3 => ?_⟩, fun h3 => ?_⟩
     · obtain rfl : q3 = q2 := Option.some.inj (hq3.symm.trans ylast)
       have h3 := of_decide_eq_true h3
       have hn5 : (ct y).n = 5 := by omega
       rw [if_pos hn5] at hp
       rw [bstr_rother q3 hqb]
       have hc2 : ct (y ++ [flip q3]) = nx (ct y) (flip q3) := ct_snoc y (flip q3)
       refine ⟨by simp only [List.length_cons, List.length_nil]; omega, ⟨k + 1, rfl, by omega, by simp; omega, ?_, ?_, ?_⟩, by (try dsimp only); omega⟩
       · rw [isRow_append, hy]; simp [isRow, isBit_flip]
       · rw [hc2, hc, nx_flip]; show (1 : Int) ≤ 4; decide
       · rw [hc2, ← hp, hye]
         simp
     · have h3 := of_decide_eq_false h3
       have hn5 : ¬ (ct y).n = 5 := by omega
       rw [if_neg hn5] at hp
       refine ⟨⟨k + 1, rfl, by omega, by omega, hy, by omega, ?_⟩, by (try dsimp only); omega⟩
       rw [← hp, hye]
       simp
   · have h5 : y.length < 5 := by simp at h2; omega
     have hn5 : ¬ (ct y).n = 5 := by omega
     rw [if_neg hn5] at hp
     refine ⟨⟨k + 1, rfl, by omega, by omega, hy, by omega, ?_⟩, by (try dsimp only); omega⟩
     rw [← hp, hye]
     simp
 · have : k = b.length := by simp at h1; omega
   subst this
   rw [List.drop_length] at hp
   simpa [putF] using hp
def takebitsS (b : List UInt8) (n : Int) : List UInt8 × Int × Int := match takeF ⟨0, 0⟩ b n.toNat with
 | .error e => ([], 0, e)
 | .ok q => (q.1, (b.length : Int) - (q.2.1.length : Int), 0)
theorem takebits_ok (b : List UInt8) (n : Int) (h : isRow b = true ∧ b.length ≤ 1000 ∧ 0 ≤ n ∧ n ≤ 2000) : takebits_vc b n (fun r => r = takebitsS b n) := by
 obtain ⟨hr, hl, hn0, hn1⟩ := h
 refine ⟨fun x i => ∃ k : Nat, i = k ∧ k ≤ b.length ∧ x.length ≤ n.toNat ∧ (ct (b.take k)).n ≤ 4 ∧ takeF ⟨0, 0⟩ b n.toNat = (takeF (ct (b.take k)) (b.drop k) (n.toNat - x.length)).map (fun q => (x ++ q.1, q.2)), fun x i => b.length - i.toNat, ⟨0, rfl, by omega, by simp, by rw [List.take_zero]; decide, ?_⟩, ?_⟩
 · show _ = (takeF ⟨0, 0⟩ b n.toNat).map _
   cases takeF ⟨0, 0⟩ b n.toNat <;> rfl
 rintro x _ ⟨k, rfl, hk, hx, hn4, hT⟩
 refine ⟨fun h1 => ?_, fun h1 => ?_⟩
 · have hxn : x.length < n.toNat := by simp at h1; omega
   obtain ⟨m, hm⟩ : ∃ m, n.toNat - x.length = m + 1 := ⟨n.toNat - x.length - 1, by omega⟩
   rw [hm] at hT
   have ht : takebitsS b n = match takeF ⟨0, 0⟩ b n.toNat with | .error e => ([], 0, e) | .ok q => (q.1, (b.length : Int) - (q.2.1.length : Int), 0) := rfl
   refine ⟨fun h2 => ?_, fun h2 => ?_⟩
   · have : k = b.length := by simp at h2; omega
     subst this
     rw [List.drop_length, takeF] at hT
     rw [ht, hT]
     rfl
   · have hkl : k < b.length := by have : ¬ (k : Int) = (b.length : Int) := by simpa using h2
                                   omega
     have hq : b[k]? = some b[k] := List.getElem?_eq_getElem hkl
     generalize b[k] = q at hq
     have hqb : isBit q = true := List.all_eq_true.1 hr q (List.mem_of_getElem? hq)
     have ew : w64 ((k : Int) + 1) = ((k + 1 : Nat) : Int) := w64_succ k (by omega)
     rw [ew, Int.toNat_natCast, Int.toNat_natCast, slice_one b k q hq]
     have hc : ct (b.take (k + 1)) = nx (ct (b.take k)) q := by rw [take_next b k q hq, ct_snoc]
     rw [drop_this b k q hq, takeF_cons, ← hc] at hT
     have hnb := nx_bound (ct (b.take k)) q 4 ⟨(ct_bound _).1, hn4⟩
     rw [← hc] at hnb
     have hcb := ct_bound (b.take (k + 1))
     have htl : (b.take (k + 1)).length = k + 1 := by rw [List.length_take]; omega
     rw [htl] at hcb
     have next : ¬ (ct (b.take (k + 1))).n = 5 → (∃ k2 : Nat, ((k + 1 : Nat) : Int) = k2 ∧ k2 ≤ b.length ∧ (x ++ [q]).length ≤ n.toNat ∧ (ct (b.take k2)).n ≤ 4 ∧ takeF ⟨0, 0⟩ b n.toNat = (takeF (ct (b.take k2)) (b.drop k2) (n.toNat - (x ++ [q]).length)).map (fun z => ((x ++ [q]) ++ z.1, z.2))) := by
      intro h5
      rw [if_neg h5] at hT
      refine ⟨k + 1, rfl, by omega, by simp; omega, by omega, ?_⟩
      have hm2 : n.toNat - (x ++ [q]).length = m := by simp; omega
      rw [hT, hm2]
      cases takeF (ct (b.take (k + 1))) (b.drop (k + 1)) m with
      | error e => rfl
      | ok z => simp [Except.map]
     refine ⟨by omega, by simp only [List.length_cons, List.length_nil]; omega, fun h3 => ?_, fun h3 => ?_⟩
     · have hk5 : 5 ≤ k + 1 := by simp at h3; omega
       have e5 : w64 (((k + 1 : Nat) : Int) - 5) = ((k + 1 - 5 : Nat) : Int) := by rw [w64_eq _ (by omega)]; omega
       have e1 : w64 (((k + 1 : Nat) : Int) - 1) = (k : Int) := by rw [w64_eq _ (by omega)]; omega
       obtain ⟨q2, f1, f2, f3, f4⟩ := last_five (b.take (k + 1)) (isRow_take hr _) (by rw [htl]; exact hk5)
       rw [htl] at f3 f4
       rw [e5, e1, Int.toNat_natCast]
       refine ⟨by omega, by rw [List.length_drop, htl]; omega, fun h4 => ?_, fun h4 => ?_⟩
       · have hn5 : (ct (b.take (k + 1))).n = 5 := by have := f4.1 h4; omega
         rw [if_pos hn5] at hT
         refine ⟨fun h6 => ?_, fun h6 => ⟨?_, fun y hy => ⟨by omega, fun y2 hy2 => ⟨fun h7 => ?_, fun h7 => ?_⟩⟩⟩⟩
         · have : k + 1 = b.length := by have : ((k + 1 : Nat) : Int) = (b.length : Int) := by simpa only [beq_iff_eq] using h6
                                         omega
           rw [List.drop_eq_nil_of_le (by omega)] at hT
           rw [ht, hT]
           rfl
         · have : ¬ ((k + 1 : Nat) : Int) = (b.length : Int) := by simpa only [beq_eq_false_iff_ne, ne_eq] using h6
           omega
         all_goals
          rw [Int.toNat_natCast] at hy2
          obtain rfl : y2 = q := Option.some.inj (hy2.symm.trans hq)
          have hyb : isBit y = true := List.all_eq_true.1 hr y (List.mem_of_getElem? hy)
          rw [drop_this b (k + 1) y hy] at hT
          dsimp only at hT
         · have hyq : y = y2 := UInt8.toNat_inj.1 (by have h8 : (y.toNat : Int) = (y2.toNat : Int) := by simpa only [beq_iff_eq] using h7
                                                      omega)
           rw [if_neg (by rw [hyq]; intro h; have := flip_ne y2; rw [← h] at this; exact this rfl)] at hT
           rw [ht, hT]
           rfl
         · have hyq : y = flip y2 := by
             have h8 : ¬ (y.toNat : Int) = (y2.toNat : Int) := by simpa only [beq_eq_false_iff_ne, ne_eq] using h7
             rcases isBit_or hyb with rfl | rfl <;> rcases isBit_or hqb with rfl | rfl <;> first | rfl | exact absurd rfl h8
           rw [if_pos hyq] at hT
           have ew2 : w64 (((k + 1 : Nat) : Int) + 1) = ((k + 1 + 1 : Nat) : Int) := w64_succ (k + 1) (by omega)
           have hy' : b[k + 1]? = some y := hy
           have hkl2 := (List.getElem?_eq_some_iff.1 hy').1
           have hc2 : ct (b.take (k + 1 + 1)) = nx (ct (b.take (k + 1))) y := by rw [take_next b (k + 1) y hy', ct_snoc]
           rw [ew2]
           clear next
           refine ⟨⟨k + 1 + 1, rfl, by omega, by simp; omega, ?_, ?_⟩, by (try dsimp only); omega⟩
           · rw [hc2, hc, hyq, nx_flip]; show (1 : Int) ≤ 4; decide
           · have hm2 : n.toNat - (x ++ [y2]).length = m := by simp; omega
             rw [hT, hm2, hc2, hyq]
             cases takeF (nx (ct (b.take (k + 1))) (flip y2)) (b.drop (k + 1 + 1)) m with
             | error e => rfl
             | ok z => simp [Except.map]
       · have hn5 : ¬ (ct (b.take (k + 1))).n = 5 := by
           intro h5
           have := f4.2 (by omega)
           rw [this] at h4
           cases h4
         exact ⟨next hn5, by (try dsimp only); omega⟩
     · have hk5 : k + 1 < 5 := by simp at h3; omega
       exact ⟨next (by omega), by (try dsimp only); omega⟩
 · have hxn : n.toNat - x.length = 0 := by simp at h1; omega
   rw [hxn, takeF] at hT
   have ht : takebitsS b n = match takeF ⟨0, 0⟩ b n.toNat with | .error e => ([], 0, e) | .ok q => (q.1, (b.length : Int) - (q.2.1.length : Int), 0) := rfl
   rw [ht, hT]
   show (x, (k : Int), (0 : Int)) = (x ++ [], _, 0)
   rw [List.append_nil, List.length_drop]
   congr 2
   omega
end Go.Proofs.YtmnlahbngbigdaaGreatDoor
set_option linter.unusedVariables false
set_option linter.unusedSimpArgs false
namespace Go.Proofs.YtmnlahbngbigdaaGreatDoor
open Go.Sy Go.RowKit
def rfastend_vc (u0 : List UInt8) (u1 : List UInt8) (u2 : Int) (K : (List UInt8) → Prop) : Prop := ((0 ≤ (w64 ((u1.length : Int) - (u0.length : Int))).tmod 8 ∧ (w64 ((u1.length : Int) - (u0.length : Int))).tmod 8 < (([([48, 48, 48, 48] : List UInt8), ([48, 48, 49, 49] : List UInt8), ([48, 49, 49, 48] : List UInt8), ([48, 49, 48, 49] : List UInt8), ([49, 49, 48, 48] : List UInt8), ([49, 49, 49, 49] : List UInt8), ([49, 48, 49, 48] : List UInt8), ([49, 48, 48, 49] : List UInt8)] : List (List UInt8)).length : Int)) ∧ (∀ q38, ([([48, 48, 48, 48] : List UInt8), ([48, 48, 49, 49] : List UInt8), ([48, 49, 49, 48] : List UInt8), ([48, 49, 48, 49] : List UInt8), ([49, 49, 48, 48] : List UInt8), ([49, 49, 49, 49] : List UInt8), ([49, 48, 49, 48] : List UInt8), ([49, 48, 48, 49] : List UInt8)] : List (List UInt8))[((w64 ((u1.length : Int) - (u0.length : Int))).tmod 8).toNat]? = some q38 → (((decide (u2 > 16)) = true → (((u1.length : Int) + (q38.length : Int) ≤ 9223372036854775807) ∧ (((0 ≤ (2 : Int) ∧ (2 : Int) < 5) ∧ isRow (u1 ++ q38) = true ∧ (u1 ++ q38).length ≤ 1000) ∧ (((q38.length : Int) + ((sumR 2 (u1 ++ q38)).length : Int) ≤ 9223372036854775807) ∧ ((0 ≤ w64 ((u1.length : Int) - 1) ∧ w64 ((u1.length : Int) - 1) < (u1.length : Int)) ∧ (∀ c106, u1[(w64 ((u1.length : Int) - 1)).toNat]? = some c106 → ((isRow (q38 ++ (sumR 2 (u1 ++ q38))) = true ∧ (q38 ++ (sumR 2 (u1 ++ q38))).length ≤ 1000 ∧ ((c106.toNat : Int) = 48 ∨ (c106.toNat : Int) = 49)) ∧ (K (fixbitsS (q38 ++ (sumR 2 (u1 ++ q38))) (c106.toNat : Int)))))))))) ∧ ((decide (u2 > 16)) = false → (((u1.length : Int) + (q38.length : Int) ≤ 9223372036854775807) ∧ (((0 ≤ (1 : Int) ∧ (1 : Int) < 5) ∧ isRow (u1 ++ q38) = true ∧ (u1 ++ q38).length ≤ 1000) ∧ (((q38.length : Int) + ((sumR 1 (u1 ++ q38)).length : Int) ≤ 9223372036854775807) ∧ ((0 ≤ w64 ((u1.length : Int) - 1) ∧ w64 ((u1.length : Int) - 1) < (u1.length : Int)) ∧ (∀ c166, u1[(w64 ((u1.length : Int) - 1)).toNat]? = some c166 → ((isRow (q38 ++ (sumR 1 (u1 ++ q38))) = true ∧ (q38 ++ (sumR 1 (u1 ++ q38))).length ≤ 1000 ∧ ((c166.toNat : Int) = 48 ∨ (c166.toNat : Int) = 49)) ∧ (K (fixbitsS (q38 ++ (sumR 1 (u1 ++ q38))) (c166.toNat : Int)))))))))))))
theorem fhead_short {f : Frame} (hc : fcheckfr f = 0) : (fheadS f).length ≤ 553 ∧ (f.Fast = false → (fheadS f).length ≤ 105) := by
 obtain ⟨c1, c2, c3, c4, c5, c6, c7, c8, c9, c10⟩ := fcheckfr_zero hc
 rw [fheadS_len]
 refine ⟨by split <;> split <;> (try split) <;> omega, fun h => ?_⟩
 have := c9 h
 split <;> split <;> (try split) <;> omega
theorem fnx_n (c : Counter) (x : UInt8) : (nx c x).n = c.n + 1 ∨ (nx c x).n = 1 := by
 unfold nx
 split
 · exact .inl rfl
 · exact .inr rfl
theorem fnx_flip (c : Counter) (x : UInt8) : (nx (nx c x) (flip x)).n = 1 := by
 have h : (nx c x).last = (x.toNat : Int) := by unfold nx; split; (rename_i k; exact k.symm); rfl
 unfold nx
 rw [if_neg]
 intro k
 have h2 : ((flip x).toNat : Int) = (x.toNat : Int) := by rw [← h]; exact k
 exact flip_ne x (by omega)
theorem put_len4 : ∀ (b : List UInt8) (c : Counter), 0 ≤ c.n → c.n ≤ 4 → (4 * (putF c b).length : Int) ≤ 5 * b.length + c.n := by
 intro b
 induction b with
 | nil => intro c h1 h2; simp [putF]; omega
 | cons x b ih =>
  intro c h1 h2
  rw [putF]
  have hn := fnx_n c x
  by_cases h5 : (nx c x).n = 5
  · rw [if_pos h5]
    have := ih (nx (nx c x) (flip x)) (by rw [fnx_flip]; decide) (by rw [fnx_flip]; decide)
    rw [fnx_flip] at this
    simp only [List.length_cons]
    omega
  · rw [if_neg h5]
    have := ih (nx c x) (by omega) (by omega)
    simp only [List.length_cons]
    omega
theorem head_put {f : Frame} (hc : fcheckfr f = 0) : (putF ⟨0, 0⟩ (fheadS f)).length ≤ 700 ∧ isRow (putF ⟨0, 0⟩ (fheadS f)) = true := by
 obtain ⟨h1, _⟩ := fhead_short hc
 have h2 := put_len4 (fheadS f) ⟨0, 0⟩ (by decide) (by decide)
 exact ⟨by (try dsimp only at h2); omega, put_row _ (fheadS_row f) _⟩
theorem cnt4_all : ∀ m : Fin 8, isRow (cnt4 m.val) = true ∧ (cnt4 m.val).length = 4 := by decide +kernel
theorem cnt4_rw (n : Nat) : isRow (cnt4 n) = true ∧ (cnt4 n).length = 4 := by
 have h := cnt4_all ⟨n % 8, Nat.mod_lt _ (by decide)⟩
 have e : cnt4 (n % 8) = cnt4 n := by unfold cnt4; rw [Nat.mod_mod]
 dsimp only at h
 rwa [e] at h
def rfkind (n : Int) : Int := if 16 < n then 2 else 1
def rfastendS (h p : List UInt8) (n : Int) : List UInt8 := fixbitsS (cnt4 (p.length - h.length) ++ sumR (rfkind n) (p ++ cnt4 (p.length - h.length))) ((lastB p).toNat : Int)
def rfpre (h p : List UInt8) (n : Int) : Prop := isRow p = true ∧ h.length ≤ p.length ∧ 1 ≤ p.length ∧ p.length ≤ 900
theorem rfastend_ok (h p : List UInt8) (n : Int) (hp : rfpre h p n) : rfastend_vc h p n (fun r => r = rfastendS h p n) := by
 obtain ⟨hr, hl, h1, h9⟩ := hp
 have e : (w64 ((p.length : Int) - (h.length : Int))).tmod 8 = (((p.length - h.length) % 8 : Nat) : Int) := by
  rw [w64_eq _ (by omega), Int.tmod_eq_emod_of_nonneg (by omega)]
  omega
 have e1 : w64 ((p.length : Int) - 1) = ((p.length - 1 : Nat) : Int) := by rw [w64_eq _ (by omega)]; omega
 unfold rfastend_vc
 rw [e, e1]
 have hlt : (p.length - h.length) % 8 < 8 := Nat.mod_lt _ (by decide)
 obtain ⟨k1, k2⟩ := cnt4_rw (p.length - h.length)
 refine ⟨⟨by omega, by simp only [List.length_cons, List.length_nil]; omega⟩, fun q hq => ?_⟩
 rw [Int.toNat_natCast] at hq
 have hqc : q = cnt4 (p.length - h.length) := by
  unfold cnt4
  rw [List.getD_eq_getElem?_getD, hq]
  rfl
 subst hqc
 have hrow : isRow (p ++ cnt4 (p.length - h.length)) = true := by rw [isRow_append, hr, k1]; rfl
 have hs2 : (sumR 2 (p ++ cnt4 (p.length - h.length))).length = 21 := wr_length _ _
 have hs1 : (sumR 1 (p ++ cnt4 (p.length - h.length))).length = 17 := wr_length _ _
 refine ⟨fun hn => ?_, fun hn => ?_⟩
 · have hk : rfkind n = 2 := by unfold rfkind; rw [if_pos (of_decide_eq_true hn)]
   refine ⟨by omega, ⟨by decide, hrow, by rw [List.length_append]; omega⟩, by omega, by omega, fun c hc => ?_⟩
   rw [Int.toNat_natCast] at hc
   have hcb := isRow_mem hr (List.mem_of_getElem? hc)
   refine ⟨⟨by rw [isRow_append, k1]; exact wr_row _ _, by rw [List.length_append]; omega, by rcases hcb with rfl | rfl <;> decide⟩, ?_⟩
   unfold rfastendS
   rw [hk, lastB_at hc]
 · have hk : rfkind n = 1 := by unfold rfkind; rw [if_neg (of_decide_eq_false hn)]
   refine ⟨by omega, ⟨by decide, hrow, by rw [List.length_append]; omega⟩, by omega, by omega, fun c hc => ?_⟩
   rw [Int.toNat_natCast] at hc
   have hcb := isRow_mem hr (List.mem_of_getElem? hc)
   refine ⟨⟨by rw [isRow_append, k1]; exact wr_row _ _, by rw [List.length_append]; omega, by rcases hcb with rfl | rfl <;> decide⟩, ?_⟩
   unfold rfastendS
   rw [hk, lastB_at hc]
end Go.Proofs.YtmnlahbngbigdaaGreatDoor
set_option linter.unusedVariables false
set_option linter.unusedSimpArgs false
namespace Go.Proofs.YtmnlahbngbigdaaGreatDoor
open Go.Sy Go.RowKit
def rcheckrow_vc (u0 : List UInt8) (K : Int → Prop) : Prop := (((decide ((u0.length : Int) > 1000)) = true → (K 2)) ∧ ((decide ((u0.length : Int) > 1000)) = false → ((([48] : List UInt8).length = 1) ∧ ((([49] : List UInt8).length = 1) ∧ ((((w64 ((count1S u0 ([48] : List UInt8)) + (count1S u0 ([49] : List UInt8)))) != (u0.length : Int)) = true → (K 4)) ∧ (((w64 ((count1S u0 ([48] : List UInt8)) + (count1S u0 ([49] : List UInt8)))) != (u0.length : Int)) = false → (K 0)))))))
def nofr_vc (u0 : Frame) (K : Bool → Prop) : Prop := (u0.Data.length ≤ 140737488355328 → (K (sameS u0 (⟨0, false, false, false, 0, []⟩ : Frame))))
def rbb_vc (u0 : List UInt8) (u1 : List UInt8) (u2 : Int) (u3 : Int) (K : ((List UInt8) × (List UInt8) × Int × Int) → Prop) : Prop := ((isRow u0 = true ∧ u0.length ≤ 1000 ∧ 0 ≤ (w64 ((u1.length : Int) + 1)) ∧ (w64 ((u1.length : Int) + 1)) ≤ 2000) ∧ (((u2 == 0) = true → ((((takebitsS u0 (w64 ((u1.length : Int) + 1))).2.2 != 0) = true → (K (([48] : List UInt8), u1, (takebitsS u0 (w64 ((u1.length : Int) + 1))).2.2, u3))) ∧ (((takebitsS u0 (w64 ((u1.length : Int) + 1))).2.2 != 0) = false → ((0 ≤ w64 (((takebitsS u0 (w64 ((u1.length : Int) + 1))).1.length : Int) - 1) ∧ w64 (((takebitsS u0 (w64 ((u1.length : Int) + 1))).1.length : Int) - 1) ≤ ((takebitsS u0 (w64 ((u1.length : Int) + 1))).1.length : Int)) ∧ (K ((takebitsS u0 (w64 ((u1.length : Int) + 1))).1.drop (w64 (((takebitsS u0 (w64 ((u1.length : Int) + 1))).1.length : Int) - 1)).toNat, (takebitsS u0 (w64 ((u1.length : Int) + 1))).1, (takebitsS u0 (w64 ((u1.length : Int) + 1))).2.2, (takebitsS u0 (w64 ((u1.length : Int) + 1))).2.1)))))) ∧ ((u2 == 0) = false → (((u2 != 0) = true → (K (([48] : List UInt8), u1, u2, u3))) ∧ ((u2 != 0) = false → ((0 ≤ w64 (((takebitsS u0 (w64 ((u1.length : Int) + 1))).1.length : Int) - 1) ∧ w64 (((takebitsS u0 (w64 ((u1.length : Int) + 1))).1.length : Int) - 1) ≤ ((takebitsS u0 (w64 ((u1.length : Int) + 1))).1.length : Int)) ∧ (K ((takebitsS u0 (w64 ((u1.length : Int) + 1))).1.drop (w64 (((takebitsS u0 (w64 ((u1.length : Int) + 1))).1.length : Int) - 1)).toNat, (takebitsS u0 (w64 ((u1.length : Int) + 1))).1, u2, (takebitsS u0 (w64 ((u1.length : Int) + 1))).2.1))))))))
def rbm_vc (u0 : Bool) (u1 : Int) (u2 : Int) (K : Int → Prop) : Prop := ((((u2 == 0) && (!u0)) = true → (K u1)) ∧ (((u2 == 0) && (!u0)) = false → (K u2)))
def rbp_vc (u0 : Int) (u1 : Int) (u2 : Int) (u3 : List UInt8) (K : ((List UInt8) × Int × Int) → Prop) : Prop := ((((u1 == 0) && (decide ((w64 (u2 + u0)) > (u3.length : Int)))) = true → (K ([], 7, u2))) ∧ (((u1 == 0) && (decide ((w64 (u2 + u0)) > (u3.length : Int)))) = false → (((u1 != 0) = true → (K ([], u1, u2))) ∧ ((u1 != 0) = false → ((0 ≤ w64 ((w64 (u2 + u0)) - u0) ∧ w64 ((w64 (u2 + u0)) - u0) ≤ (w64 (u2 + u0)) ∧ (w64 (u2 + u0)) ≤ (u3.length : Int)) ∧ (K ((u3.take (w64 (u2 + u0)).toNat).drop (w64 ((w64 (u2 + u0)) - u0)).toNat, u1, w64 (u2 + u0))))))))
theorem rcheckrow_ok (b : List UInt8) : rcheckrow_vc b (fun r => r = bcheckS b) := by
 have hc := count_row b
 refine ⟨fun h => ?_, fun h => ⟨rfl, rfl, fun h1 => ?_, fun h1 => ?_⟩⟩
 · have : 1000 < b.length := by simp at h; omega
   simp [bcheckS, this]
 all_goals
  have hn : ¬ 1000 < b.length := by simp at h; omega
  have e : w64 (count1S b [48] + count1S b [49]) = ((b.count 48 + b.count 49 : Nat) : Int) := by
   show w64 (((b.count 48 : Nat) : Int) + ((b.count 49 : Nat) : Int)) = _
   rw [w64_eq _ (by omega)]
   omega
  rw [e] at h1
 · have : ¬ isRow b = true := fun hr => by
     rw [hc.2.2 hr] at h1
     simp at h1
   simp [bcheckS, hn, this]
 · have : isRow b = true := hc.2.1 (by simp at h1; omega)
   simp [bcheckS, hn, this]
def nofrS (f : Frame) : Bool := sameS f ⟨0, false, false, false, 0, []⟩
theorem nofr_ok (f : Frame) : nofr_vc f (fun r => r = nofrS f) := fun _ => rfl
def rbpre (b h : List UInt8) : Prop := isRow b = true ∧ b.length ≤ 1000 ∧ h.length ≤ 1000
def rbbS (b h : List UInt8) (e p : Int) : List UInt8 × List UInt8 × Int × Int :=
 if e = 0 then
  (if (takebitsS b ((h.length : Int) + 1)).2.2 ≠ 0 then ([48], h, (takebitsS b ((h.length : Int) + 1)).2.2, p)
   else ((takebitsS b ((h.length : Int) + 1)).1.drop ((takebitsS b ((h.length : Int) + 1)).1.length - 1), (takebitsS b ((h.length : Int) + 1)).1, 0, (takebitsS b ((h.length : Int) + 1)).2.1))
 else ([48], h, e, p)
def rbmS (c : Bool) (a e : Int) : Int := if e = 0 ∧ c = false then a else e
def rppre (n p : Int) (b : List UInt8) : Prop := b.length ≤ 1000 ∧ 0 ≤ p ∧ p ≤ (b.length : Int) ∧ 0 ≤ n ∧ n ≤ 1000
def rbpS (n e p : Int) (b : List UInt8) : List UInt8 × Int × Int :=
 if e = 0 then (if p + n > (b.length : Int) then ([], 7, p) else ((b.take (p + n).toNat).drop p.toNat, 0, p + n)) else ([], e, p)
theorem takeF_ok {b : List UInt8} {n : Nat} {q : List UInt8 × List UInt8 × Counter} (hb : isRow b = true) (hl : b.length ≤ 1000) (h : takeF ⟨0, 0⟩ b n = .ok q) : q.1.length = n ∧ n + q.2.1.length ≤ b.length ∧ q.2.1 = b.drop (b.length - q.2.1.length) ∧ isRow q.1 = true ∧ 0 ≤ q.2.2.n ∧ q.2.2.n ≤ 4 := by
 have hR : Rok (⟨b, 0, 0, ⟨0, 0⟩⟩ : Reader) := ⟨by (try dsimp only); omega, by (try dsimp only); omega, by (try dsimp only); omega, hb, by (try dsimp only); omega, by (try dsimp only); omega⟩
 have := rtakeS_take (n := n) hR rfl
 have e : (⟨b, 0, 0, ⟨0, 0⟩⟩ : Reader).Row.drop (⟨b, 0, 0, ⟨0, 0⟩⟩ : Reader).At.toNat = b := rfl
 rw [e] at this
 rw [show (⟨b, 0, 0, ⟨0, 0⟩⟩ : Reader).c = ⟨0, 0⟩ from rfl, h] at this
 obtain ⟨_, _, g3, g4, g5, g6, g7⟩ := this
 exact ⟨g7, by simpa using g4, g3, takeF_row n _ _ _ hb h, g5, g6⟩
theorem takeF_err {b : List UInt8} {n : Nat} {e : Int} (hb : isRow b = true) (hl : b.length ≤ 1000) (h : takeF ⟨0, 0⟩ b n = .error e) : e ≠ 0 := by
 have hR : Rok (⟨b, 0, 0, ⟨0, 0⟩⟩ : Reader) := ⟨by (try dsimp only); omega, by (try dsimp only); omega, by (try dsimp only); omega, hb, by (try dsimp only); omega, by (try dsimp only); omega⟩
 have := rtakeS_take (n := n) hR rfl
 have e1 : (⟨b, 0, 0, ⟨0, 0⟩⟩ : Reader).Row.drop (⟨b, 0, 0, ⟨0, 0⟩⟩ : Reader).At.toNat = b := rfl
 rw [e1] at this
 rw [show (⟨b, 0, 0, ⟨0, 0⟩⟩ : Reader).c = ⟨0, 0⟩ from rfl, h] at this
 obtain ⟨_, _, _, g, _⟩ := this
 exact g
theorem takebits_at (b h : List UInt8) : takebitsS b ((h.length : Int) + 1) = match takeF ⟨0, 0⟩ b (h.length + 1) with
 | .error e => ([], 0, e)
 | .ok q => (q.1, (b.length : Int) - (q.2.1.length : Int), 0) := by
 unfold takebitsS
 have : ((h.length : Int) + 1).toNat = h.length + 1 := by omega
 rw [this]
 try (cases takeF ⟨0, 0⟩ b (h.length + 1) <;> rfl)
theorem one_bit {l : List UInt8} (hl : l.length = 1) (hr : isRow l = true) : l = [48] ∨ l = [49] := by
 match l, hl with
 | [c], _ =>
  have := List.all_eq_true.1 hr c (by simp)
  have h2 : c = 48 ∨ c = 49 := by simpa [isBit] using this
  rcases h2 with rfl | rfl
  · exact .inl rfl
  · exact .inr rfl
theorem rbb_inv {b h : List UInt8} {e p : Int} (hp : rbpre b h) : rbpre b (rbbS b h e p).2.1 ∧ ((rbbS b h e p).1 = [48] ∨ (rbbS b h e p).1 = [49]) := by
 obtain ⟨h1, h2, h3⟩ := hp
 unfold rbbS
 by_cases he : e = 0
 · rw [if_pos he, takebits_at]
   cases hT : takeF ⟨0, 0⟩ b (h.length + 1) with
   | error e' =>
    have := takeF_err h1 h2 hT
    rw [if_pos this]
    exact ⟨⟨h1, h2, h3⟩, .inl rfl⟩
   | ok q =>
    obtain ⟨g1, g2, g3, g4, _⟩ := takeF_ok h1 h2 hT
    rw [if_neg (by simp)]
    refine ⟨⟨h1, h2, by show q.1.length ≤ _; omega⟩, one_bit (by show (q.1.drop (q.1.length - 1)).length = 1; rw [List.length_drop]; omega) (isRow_drop g4 _)⟩
 · rw [if_neg he]
   exact ⟨⟨h1, h2, h3⟩, .inl rfl⟩
theorem rbb_ok (b h : List UInt8) (e p : Int) (hp : rbpre b h) : rbb_vc b h e p (fun r => r = rbbS b h e p) := by
 have hp0 := hp
 obtain ⟨h1, h2, h3⟩ := hp
 have ew : w64 ((h.length : Int) + 1) = (h.length : Int) + 1 := w64_eq _ (by omega)
 unfold rbb_vc
 rw [ew]
 refine ⟨⟨h1, h2, by omega, by omega⟩, fun he => ⟨fun ht => ?_, fun ht => ?_⟩, fun he => ⟨fun _ => ?_, fun h0 => ?_⟩⟩
 · have he : e = 0 := by simpa using he
   have ht : (takebitsS b ((h.length : Int) + 1)).2.2 ≠ 0 := by simpa using ht
   unfold rbbS
   rw [if_pos he, if_pos ht]
 · have he : e = 0 := by simpa using he
   have ht : (takebitsS b ((h.length : Int) + 1)).2.2 = 0 := by simpa using ht
   unfold rbbS
   rw [if_pos he, if_neg (fun k => k ht), ht]
   have hl : 1 ≤ (takebitsS b ((h.length : Int) + 1)).1.length ∧ (takebitsS b ((h.length : Int) + 1)).1.length ≤ 1000 := by
    rw [takebits_at] at ht ⊢
    cases hT : takeF ⟨0, 0⟩ b (h.length + 1) with
    | error e' => rw [hT] at ht; exact absurd ht (takeF_err h1 h2 hT)
    | ok q =>
     obtain ⟨g1, g2, _⟩ := takeF_ok h1 h2 hT
     show 1 ≤ q.1.length ∧ q.1.length ≤ 1000
     omega
   generalize takebitsS b ((h.length : Int) + 1) = t at *
   have e2 : w64 ((t.1.length : Int) - 1) = (t.1.length : Int) - 1 := w64_eq _ (by omega)
   rw [e2]
   refine ⟨by omega, ?_⟩
   rw [show ((t.1.length : Int) - 1).toNat = t.1.length - 1 by omega]
 · have he : e ≠ 0 := by simpa using he
   unfold rbbS
   rw [if_neg he]
 · have he : e ≠ 0 := by simpa using he
   exact absurd (by simpa using h0) he
theorem rbm_ok (c : Bool) (a e : Int) : rbm_vc c a e (fun r => r = rbmS c a e) := by
 refine ⟨fun h => ?_, fun h => ?_⟩
 · unfold rbmS; rw [if_pos (by simpa using h)]
 · unfold rbmS; rw [if_neg (by simpa using h)]
theorem rbp_ok (n e p : Int) (b : List UInt8) (hp : rppre n p b) : rbp_vc n e p b (fun r => r = rbpS n e p b) := by
 obtain ⟨h1, h2, h3, h4, h5⟩ := hp
 have ew : w64 (p + n) = p + n := w64_eq _ (by omega)
 unfold rbp_vc
 rw [ew]
 refine ⟨fun h => ?_, fun h => ⟨fun he => ?_, fun he => ?_⟩⟩
 · have h : e = 0 ∧ (b.length : Int) < p + n := by simpa using h
   unfold rbpS
   rw [if_pos h.1, if_pos h.2]
 · have he : e ≠ 0 := by simpa using he
   unfold rbpS
   rw [if_neg he]
 · have he : e = 0 := by simpa using he
   subst he
   have h : p + n ≤ (b.length : Int) := by simpa using h
   have e2 : w64 (p + n - n) = p := by rw [w64_eq _ (by omega)]; omega
   rw [e2]
   unfold rbpS
   rw [if_pos rfl, if_neg (by omega)]
   exact ⟨⟨by omega, by omega, h⟩, rfl⟩
end Go.Proofs.YtmnlahbngbigdaaGreatDoor
set_option linter.unusedVariables false
set_option linter.unusedSimpArgs false
namespace Go.Proofs.YtmnlahbngbigdaaGreatDoor
open Go.Sy Go.RowKit
def rbn_vc (u0 : Int) (v0 : List UInt8) (v1 : List UInt8) (v2 : Int) (v3 : Int) (K : (Int × (List UInt8) × Int × Int) → Prop) : Prop := (∃ inv22 : Int → Int → (List UInt8) → Int → Int → Prop, ∃ mu22 : Int → Int → (List UInt8) → Int → Int → Nat, inv22 0 0 v1 v2 v3 ∧ (∀ (x4 : Int) (x6 : Int) (yb6c0 : List UInt8) (yb7c0 : Int) (yb8c0 : Int), inv22 x4 x6 yb6c0 yb7c0 yb8c0 → (((decide (x6 < u0)) = true → ((rbpre v0 yb6c0) ∧ (∀ r55, (rbbS v0 yb6c0 yb7c0 yb8c0) = r55 → ((0 ≤ (0 : Int) ∧ (0 : Int) < (r55.1.length : Int)) ∧ (∀ c64, r55.1[(0 : Int).toNat]? = some c64 → (inv22 (w64 ((w64 (2 * x4)) + (w64 (w8 ((c64.toNat : Int) - 48))))) (w64 (x6 + 1)) r55.2.1 r55.2.2.1 r55.2.2.2 ∧ mu22 (w64 ((w64 (2 * x4)) + (w64 (w8 ((c64.toNat : Int) - 48))))) (w64 (x6 + 1)) r55.2.1 r55.2.2.1 r55.2.2.2 < mu22 x4 x6 yb6c0 yb7c0 yb8c0)))))) ∧ ((decide (x6 < u0)) = false → (K (x4, yb6c0, yb7c0, yb8c0))))))
def nloop (b : List UInt8) : Nat → Int → List UInt8 → Int → Int → Int × List UInt8 × Int × Int
 | 0, v, h, e, p => (v, h, e, p)
 | k + 1, v, h, e, p => nloop b k (2 * v + (if (rbbS b h e p).1 = [49] then 1 else 0)) (rbbS b h e p).2.1 (rbbS b h e p).2.2.1 (rbbS b h e p).2.2.2
def rbnS (n : Int) (b h : List UInt8) (e p : Int) : Int × List UInt8 × Int × Int := nloop b n.toNat 0 h e p
def rnpre (n : Int) (b h : List UInt8) : Prop := rbpre b h ∧ 0 ≤ n ∧ n ≤ 60
theorem rbn_ok (n : Int) (b h : List UInt8) (e p : Int) (hp : rnpre n b h) : rbn_vc n b h e p (fun r => r = rbnS n b h e p) := by
 obtain ⟨h1, h2, h3⟩ := hp
 obtain ⟨N, rfl⟩ := Int.eq_ofNat_of_zero_le h2
 refine ⟨fun v i hh ee pp => ∃ k : Nat, i = k ∧ k ≤ N ∧ rbpre b hh ∧ 0 ≤ v ∧ v < 2 ^ k ∧ nloop b (N - k) v hh ee pp = rbnS (N : Int) b h e p, fun _ i _ _ _ => N - i.toNat, ⟨0, rfl, by omega, h1, by omega, by decide, rfl⟩, ?_⟩
 rintro v i hh ee pp ⟨k, rfl, hk, hr, hv1, hv2, hn⟩
 refine ⟨fun hc => ?_, fun hc => ?_⟩
 · have hc : k < N := by simpa using hc
   refine ⟨hr, ?_⟩
   rintro x rfl
   obtain ⟨g1, g2⟩ := rbb_inv (e := ee) (p := pp) hr
   have hp60 : (2 : Int) ^ k * 2 ≤ 2 ^ 60 := by
    have : (2 : Nat) ^ (k + 1) ≤ 2 ^ 60 := Nat.pow_le_pow_right (by omega) (by omega)
    have e1 : ((2 : Nat) ^ (k + 1) : Nat) = 2 ^ k * 2 := rfl
    have e2 : (((2 ^ k : Nat) : Int)) = (2 : Int) ^ k := by norm_cast
    rw [← e2]
    have : ((2 ^ k * 2 : Nat) : Int) ≤ ((2 ^ 60 : Nat) : Int) := by exact_mod_cast this
    simpa using this
   have p60 : (2 : Int) ^ 60 = 1152921504606846976 := rfl
   have e1 : w64 (2 * v) = 2 * v := w64_eq _ (by omega)
   have ek : w64 ((k : Int) + 1) = ((k + 1 : Nat) : Int) := by rw [w64_eq _ (by omega)]; omega
   have hnn : nloop b (N - k) v hh ee pp = nloop b (N - (k + 1)) (2 * v + (if (rbbS b hh ee pp).1 = [49] then 1 else 0)) (rbbS b hh ee pp).2.1 (rbbS b hh ee pp).2.2.1 (rbbS b hh ee pp).2.2.2 := by
    rw [show N - k = (N - (k + 1)) + 1 by omega, nloop]
   rw [hnn] at hn
   refine ⟨by rcases g2 with g | g <;> rw [g] <;> decide, ?_⟩
   intro c hc2
   rw [e1, ek]
   have key : ∀ t : Int, (t = 0 ∨ t = 1) → t = (if (rbbS b hh ee pp).1 = [49] then 1 else 0) → w64 (w8 ((c.toNat : Int) - 48)) = t → (∃ k' : Nat, ((k + 1 : Nat) : Int) = k' ∧ k' ≤ N ∧ rbpre b (rbbS b hh ee pp).2.1 ∧ 0 ≤ w64 (2 * v + w64 (w8 ((c.toNat : Int) - 48))) ∧ w64 (2 * v + w64 (w8 ((c.toNat : Int) - 48))) < 2 ^ k' ∧ nloop b (N - k') (w64 (2 * v + w64 (w8 ((c.toNat : Int) - 48)))) (rbbS b hh ee pp).2.1 (rbbS b hh ee pp).2.2.1 (rbbS b hh ee pp).2.2.2 = rbnS (N : Int) b h e p) := by
    intro t ht hte htw
    rw [htw, w64_eq _ (by omega)]
    refine ⟨k + 1, rfl, by omega, g1, by omega, ?_, ?_⟩
    · rw [Int.pow_succ]; omega
    · rw [hte]; exact hn
   refine ⟨?_, by (try dsimp only); omega⟩
   rcases g2 with g | g
   · rw [g] at hc2
     have : (48 : UInt8) = c := by simpa using hc2
     subst this
     exact key 0 (.inl rfl) (by rw [g]; rfl) (by decide)
   · rw [g] at hc2
     have : (49 : UInt8) = c := by simpa using hc2
     subst this
     exact key 1 (.inr rfl) (by rw [g]; rfl) (by decide)
 · have : k = N := by
     have : ¬ k < N := by simpa using hc
     omega
   subst this
   rw [Nat.sub_self] at hn
   exact hn
end Go.Proofs.YtmnlahbngbigdaaGreatDoor
set_option linter.unusedVariables false
set_option linter.unusedSimpArgs false
namespace Go.Proofs.YtmnlahbngbigdaaGreatDoor
open Go.Sy Go.RowKit
end Go.Proofs.YtmnlahbngbigdaaGreatDoor
set_option linter.unusedVariables false
set_option linter.unusedSimpArgs false
namespace Go.Proofs.YtmnlahbngbigdaaGreatDoor
open Go.Sy Go.RowKit
def fRead_vc (u0 : List UInt8) (K : (Frame × Int × Int) → Prop) : Prop := ((((bcheckS u0) != 0) = true → (K ((⟨0, false, false, false, 0, []⟩ : Frame), 0, (bcheckS u0)))) ∧ (((bcheckS u0) != 0) = false → ((Rok (⟨(⟨u0, 0, 0, (⟨0, 0⟩ : Counter)⟩ : Reader), (⟨0, false, false, false, 0, []⟩ : Frame)⟩ : FReader).Reader) ∧ (∀ r63, (rnamesS (⟨(⟨u0, 0, 0, (⟨0, 0⟩ : Counter)⟩ : Reader), (⟨0, false, false, false, 0, []⟩ : Frame)⟩ : FReader)) = r63 → (r63.f.Data.length ≤ 140737488355328 → ((Rok r63.Reader ∧ 0 ≤ (4 : Int) ∧ (4 : Int) ≤ 62) ∧ (∀ r83, (rnumberS r63 4) = r83 → (r83.2.f.Data.length ≤ 140737488355328 → (∃ inv97 : FReader → Prop, (((r83.2.Reader.Code != 0) = true → (inv97 r83.2)) ∧ ((r83.2.Reader.Code != 0) = false → ((((!r83.2.f.Fast) && (decide (r83.1 > 8))) = true → (∀ r651, (rfailS r83.2 4) = r651 → (r651.f.Data.length ≤ 140737488355328 → (inv97 r651)))) ∧ (((!r83.2.f.Fast) && (decide (r83.1 > 8))) = false → ((r83.2.f.Remote = true → (inv97 (⟨r83.2.Reader, (⟨r83.2.f.ID, r83.2.f.Long, r83.2.f.Fast, r83.2.f.Remote, r83.1, r83.2.f.Data⟩ : Frame)⟩ : FReader))) ∧ (r83.2.f.Remote = false → (fsizes.length ≤ 140737488355328 → ((0 ≤ r83.1 ∧ r83.1 < (fsizes.length : Int)) ∧ (∀ q712, fsizes[r83.1.toNat]? = some q712 → ((Rok r83.2.Reader ∧ (w64 (8 * q712)) ≤ 9223372036854775807) ∧ (∀ r739, (rtakeFS r83.2 (w64 (8 * q712))) = r739 → (r739.2.f.Data.length ≤ 140737488355328 → ((bbytesS r739.1).1.length ≤ 140737488355328 → (inv97 (⟨r739.2.Reader, (⟨r739.2.f.ID, r739.2.f.Long, r739.2.f.Fast, r739.2.f.Remote, r739.2.f.Size, (bbytesS r739.1).1⟩ : Frame)⟩ : FReader))))))))))))))) ∧ (∀ (yb47 : FReader), inv97 yb47 → (∃ inv124 : FReader → Prop, ((yb47.f.Fast = true → ((fastpre yb47) ∧ (∀ r471, (rfastS yb47) = r471 → (r471.f.Data.length ≤ 140737488355328 → (inv124 r471))))) ∧ (yb47.f.Fast = false → (((yb47.Reader.Code == 0) = true → ((fheadpre yb47.f) ∧ ((Rok yb47.Reader ∧ (15 : Int) ≤ 9223372036854775807) ∧ (∀ r540, (rtakeFS yb47 15) = r540 → (r540.2.f.Data.length ≤ 140737488355328 → ((((r540.2.Reader.Code == 0) && (r540.1 != (csumS 0 (fheadS yb47.f)).1)) = true → (∀ r586, (rfailS r540.2 6) = r586 → (r586.f.Data.length ≤ 140737488355328 → (inv124 r586)))) ∧ (((r540.2.Reader.Code == 0) && (r540.1 != (csumS 0 (fheadS yb47.f)).1)) = false → (inv124 r540.2)))))))) ∧ ((yb47.Reader.Code == 0) = false → (inv124 yb47))))) ∧ (∀ (yb47v : FReader), inv124 yb47v → (((0 ≤ yb47v.Reader.At ∧ yb47v.Reader.At ≤ (yb47v.Reader.Row.length : Int) ∧ yb47v.Reader.Row.length ≤ 1000000) ∧ (10 : Int) ≤ 1000000) ∧ (∀ r154, (rplainFS yb47v 10) = r154 → (r154.2.f.Data.length ≤ 140737488355328 → (((r154.2.Reader.Code == 0) = true → ((0 ≤ (1 : Int) ∧ (1 : Int) ≤ (r154.1.length : Int)) ∧ ((((r154.1.take (1 : Int).toNat).length : Int) + (([49] : List UInt8).length : Int) ≤ 9223372036854775807) ∧ ((0 ≤ (2 : Int) ∧ (2 : Int) ≤ (r154.1.length : Int)) ∧ (((((r154.1.take (1 : Int).toNat) ++ ([49] : List UInt8)).length : Int) + ((r154.1.drop (2 : Int).toNat).length : Int) ≤ 9223372036854775807) ∧ (∃ inv229 : FReader → Prop, ((((((r154.1.take (1 : Int).toNat) ++ ([49] : List UInt8)) ++ (r154.1.drop (2 : Int).toNat)) != ([49, 49, 49, 49, 49, 49, 49, 49, 49, 49] : List UInt8)) = true → (∀ r331, (rfailS r154.2 4) = r331 → (r331.f.Data.length ≤ 140737488355328 → (inv229 r331)))) ∧ (((((r154.1.take (1 : Int).toNat) ++ ([49] : List UInt8)) ++ (r154.1.drop (2 : Int).toNat)) != ([49, 49, 49, 49, 49, 49, 49, 49, 49, 49] : List UInt8)) = false → (inv229 r154.2))) ∧ (∀ (yb47vv : FReader), inv229 yb47vv → (((yb47vv.Reader.Code != 0) = true → (K ((⟨0, false, false, false, 0, []⟩ : Frame), 0, yb47vv.Reader.Code))) ∧ ((yb47vv.Reader.Code != 0) = false → (K (yb47vv.f, yb47vv.Reader.At, 0))))))))))) ∧ ((r154.2.Reader.Code == 0) = false → (((r154.2.Reader.Code != 0) = true → (K ((⟨0, false, false, false, 0, []⟩ : Frame), 0, r154.2.Reader.Code))) ∧ ((r154.2.Reader.Code != 0) = false → (K (r154.2.f, r154.2.Reader.At, 0)))))))))))))))))))))
def f0 : Frame := ⟨0, false, false, false, 0, []⟩
def rd1 (r : FReader) : FReader :=
 if (rnumberS r 4).2.Reader.Code ≠ 0 then (rnumberS r 4).2 else
 if r.f.Fast = false ∧ 8 < (rnumberS r 4).1 then rfailS (rnumberS r 4).2 4 else
 if r.f.Remote = true then ⟨(rnumberS r 4).2.Reader, ⟨r.f.ID, r.f.Long, r.f.Fast, r.f.Remote, (rnumberS r 4).1, r.f.Data⟩⟩ else
  ⟨(rtakeFS (rnumberS r 4).2 (8 * (fsizes[(rnumberS r 4).1.toNat]?.getD 0))).2.Reader, ⟨r.f.ID, r.f.Long, r.f.Fast, r.f.Remote, r.f.Size, (bbytesS (rtakeFS (rnumberS r 4).2 (8 * (fsizes[(rnumberS r 4).1.toNat]?.getD 0))).1).1⟩⟩
def rd2 (r : FReader) : FReader :=
 if r.f.Fast = true then rfastS r else if r.Reader.Code = 0 then
  (if (rtakeFS r 15).2.Reader.Code = 0 ∧ (rtakeFS r 15).1 ≠ (csumS 0 (fheadS r.f)).1 then rfailS (rtakeFS r 15).2 6 else (rtakeFS r 15).2) else r
def rd3 (r : FReader) : FReader := if (rplainFS r 10).2.Reader.Code = 0 ∧ ((rplainFS r 10).1.take 1 ++ [49]) ++ (rplainFS r 10).1.drop 2 ≠ tail10 then rfailS (rplainFS r 10).2 4 else (rplainFS r 10).2
def rstart (b : List UInt8) : FReader := ⟨⟨b, 0, 0, ⟨0, 0⟩⟩, f0⟩
def readR (b : List UInt8) : FReader := rd3 (rd2 (rd1 (rnamesS (rstart b))))
def readS (b : List UInt8) : Frame × Int × Int := if bcheckS b ≠ 0 then (f0, 0, bcheckS b) else if (readR b).Reader.Code ≠ 0 then (f0, 0, (readR b).Reader.Code) else ((readR b).f, (readR b).Reader.At, 0)
theorem rtake_step {r : Reader} {n : Nat} (h : Rok r) (hc : (rtakeS r n).2.Code = 0) : r.Code = 0 ∧ r.At + n ≤ (rtakeS r n).2.At ∧ (rtakeS r n).1.length = n := by
 by_cases h0 : r.Code = 0
 · have := rtakeS_take (n := n) h h0
   cases hT : takeF r.c (r.Row.drop r.At.toNat) n with
   | ok q =>
    rw [hT] at this
    obtain ⟨g1, g2, g3, g4, g5, g6, g7⟩ := this
    rw [g1]
    have := h.1
    exact ⟨h0, by (try dsimp only); omega, g7⟩
   | error e =>
    rw [hT] at this
    obtain ⟨q, g1, g2, g3, g4, g5⟩ := this
    rw [g1] at hc
    exact absurd (g2.symm.trans hc) g3
 · rw [(rtakeS_Rok n h).2.2.1 h0] at hc
   exact absurd hc h0
theorem rfail_code {r : FReader} {e : Int} (he : e ≠ 0) : (rfailS r e).Reader.Code ≠ 0 := by
 unfold rfailS
 split
 · exact he
 · assumption
theorem rwant_step {r : FReader} {b : List UInt8} (h : Rok r.Reader) (hc : (rwantS r b).Reader.Code = 0) : r.Reader.Code = 0 ∧ r.Reader.At + 1 ≤ (rwantS r b).Reader.At := by
 unfold rwantS at hc ⊢
 split
 · rename_i h1
   rw [if_pos h1] at hc
   exact absurd hc (rfail_code (by decide))
 · rename_i h1
   rw [if_neg h1] at hc
   obtain ⟨k1, k2, _⟩ := rtake_step (n := 1) h hc
   exact ⟨k1, k2⟩
theorem rnumber_step {r : FReader} {n : Nat} (h : Rok r.Reader) (hc : (rnumberS r n).2.Reader.Code = 0) : r.Reader.Code = 0 ∧ r.Reader.At + n ≤ (rnumberS r n).2.Reader.At := by
 have e : (rnumberS r n).2 = (rtakeFS r n).2 := by unfold rnumberS; split <;> rfl
 rw [e] at hc ⊢
 obtain ⟨k1, k2, _⟩ := rtake_step (n := n) h hc
 exact ⟨k1, k2⟩
theorem take_step {r : FReader} {n : Nat} (h : Rok r.Reader) (hc : (rtakeFS r n).2.Reader.Code = 0) : r.Reader.Code = 0 ∧ r.Reader.At + n ≤ (rtakeFS r n).2.Reader.At := by
 obtain ⟨k1, k2, _⟩ := rtake_step (n := n) h hc
 exact ⟨k1, k2⟩
theorem rnumber_stepI {r : FReader} {n : Int} (h : Rok r.Reader) (hn : 0 ≤ n) (hc : (rnumberS r n).2.Reader.Code = 0) : r.Reader.Code = 0 ∧ r.Reader.At + n ≤ (rnumberS r n).2.Reader.At := by
 obtain ⟨m, rfl⟩ := Int.eq_ofNat_of_zero_le hn
 exact rnumber_step h hc
theorem take_stepI {r : FReader} {n : Int} (h : Rok r.Reader) (hn : 0 ≤ n) (hc : (rtakeFS r n).2.Reader.Code = 0) : r.Reader.Code = 0 ∧ r.Reader.At + n ≤ (rtakeFS r n).2.Reader.At := by
 obtain ⟨m, rfl⟩ := Int.eq_ofNat_of_zero_le hn
 exact take_step h hc
theorem take_RokI {r : FReader} {n : Int} (h : Rok r.Reader) (hn : 0 ≤ n) : Rok (rtakeFS r n).2.Reader := by
 obtain ⟨m, rfl⟩ := Int.eq_ofNat_of_zero_le hn
 exact rtakeFS_Rok h
theorem id_join (a n : Nat) (ha : a < 2048) (hn : n < 262144) : bOr .i64 (bShl .i64 (a : Int) 18) (n : Int) = ((a * 262144 + n : Nat) : Int) := by
 have e1 : bShl .i64 (a : Int) 18 = ((a * 262144 : Nat) : Int) := by
  unfold bShl
  have : (a : Int) * 2 ^ (min (18 : Int).toNat IntKind.i64.bits) = ((a * 262144 : Nat) : Int) := by
   show (a : Int) * 2 ^ 18 = _
   omega
  rw [this]
  exact w64_eq _ (by omega)
 have e2 : (BitVec.ofInt IntKind.i64.bits ((a * 262144 : Nat) : Int) ||| BitVec.ofInt IntKind.i64.bits (n : Int)).toNat = a * 262144 + n := by
  rw [BitVec.toNat_or]
  show (BitVec.ofInt 64 ((a * 262144 : Nat) : Int)).toNat ||| (BitVec.ofInt 64 (n : Int)).toNat = _
  rw [ofInt_toNat (a * 262144) (by omega), ofInt_toNat n (by omega)]
  have h := Nat.shiftLeft_add_eq_or_of_lt (i := 18) (b := n) (by omega) a
  rw [Nat.shiftLeft_eq] at h
  exact h.symm
 rw [e1]
 unfold bOr
 rw [e2]
 exact w64_eq _ (by omega)
theorem nam1_step {r : FReader} (h : Rok r.Reader) : (0 ≤ (nam1 r).f.ID ∧ (nam1 r).f.ID < 2048) ∧ (nam1 r).f.Size = r.f.Size ∧ (nam1 r).f.Data = r.f.Data ∧ ((nam1 r).Reader.Code = 0 → r.Reader.At + 12 ≤ (nam1 r).Reader.At) := by
 have hw := rwantS_Rok (b := [48]) h
 have hb : 0 ≤ (rnumberS (rwantS r [48]) 11).1 ∧ (rnumberS (rwantS r [48]) 11).1 < 2 ^ 11 := rnumberS_bound (n := 11) hw
 have hf := rnumberS_f (rwantS r [48]) 11
 have hf2 := rwantS_f r [48]
 refine ⟨hb, ?_, ?_, fun hc => ?_⟩
 · show (rnumberS (rwantS r [48]) 11).2.f.Size = _
   rw [hf, hf2]
 · show (rnumberS (rwantS r [48]) 11).2.f.Data = _
   rw [hf, hf2]
 · obtain ⟨k1, k2⟩ := rnumber_stepI (n := 11) hw (by decide) hc
   obtain ⟨k3, k4⟩ := rwant_step h k1
   show _ ≤ (rnumberS (rwantS r [48]) 11).2.Reader.At
   omega
theorem nam6_step {r : FReader} (h : Rok r.Reader) : (0 ≤ (nam6 r).f.ID ∧ (nam6 r).f.ID ≤ 536870911) ∧ (nam6 r).f.Size = r.f.Size ∧ (nam6 r).f.Data = r.f.Data ∧ ((nam6 r).Reader.Code = 0 → r.Reader.At + (if (nam6 r).f.Long = true then 33 else 14) ≤ (nam6 r).Reader.At) := by
 obtain ⟨k1, k2, k3, k4⟩ := nam1_step h
 have h1 := nam1_Rok h
 have hcR := take_RokI (n := 1) h1 (by decide)
 have hdR := take_RokI (n := 1) hcR (by decide)
 have hcs : (rtakeFS (rtakeFS (nam1 r) 1).2 1).2.Reader.Code = 0 → r.Reader.At + 14 ≤ (rtakeFS (rtakeFS (nam1 r) 1).2 1).2.Reader.At := fun hc => by
  obtain ⟨e1, e2⟩ := take_stepI (n := 1) hcR (by decide) hc
  obtain ⟨e3, e4⟩ := take_stepI (n := 1) h1 (by decide) e1
  have := k4 e3
  (try dsimp only at *)
  omega
 have hdf : (rtakeFS (rtakeFS (nam1 r) 1).2 1).2.f = (nam1 r).f := rfl
 unfold nam6
 generalize rtakeFS (rtakeFS (nam1 r) 1).2 1 = d at *
 generalize rtakeFS (nam1 r) 1 = c at *
 by_cases hl : (d.1 == [49]) = true
 · rw [if_pos hl]
   have h2 : Rok (nam2 c d).Reader := hdR
   have h3 := nam3_Rok (c := c.1 == [49]) h2
   have h3f : (nam3 (c.1 == [49]) (nam2 c d)).f = (nam2 c d).f := by unfold nam3; split; rfl; exact rfailS_f _ _
   have h3c : (nam3 (c.1 == [49]) (nam2 c d)).Reader.Code = 0 → (nam3 (c.1 == [49]) (nam2 c d)).Reader.At = d.2.Reader.At ∧ d.2.Reader.Code = 0 := by
    intro hc
    unfold nam3 at hc ⊢
    split
    · rename_i e
      rw [if_pos e] at hc
      exact ⟨rfl, hc⟩
    · rename_i e
      rw [if_neg e] at hc
      exact absurd hc (rfail_code (by decide))
   generalize nam3 (c.1 == [49]) (nam2 c d) = y at *
   have h4 := nam4_Rok h3
   have hb : 0 ≤ (rnumberS y 18).1 ∧ (rnumberS y 18).1 < 2 ^ 18 := rnumberS_bound (n := 18) h3
   have hyid : 0 ≤ y.f.ID ∧ y.f.ID < 2048 := by rw [h3f]; show 0 ≤ d.2.f.ID ∧ d.2.f.ID < 2048; rw [hdf]; exact k1
   have p18 : (2 : Int) ^ 18 = 262144 := rfl
   have hid := id_join y.f.ID.toNat (rnumberS y 18).1.toNat (by omega) (by omega)
   have e1 : ((y.f.ID.toNat : Nat) : Int) = y.f.ID := by omega
   have e2 : (((rnumberS y 18).1.toNat : Nat) : Int) = (rnumberS y 18).1 := by omega
   rw [e1, e2] at hid
   have hlong : (nam5 (rtakeFS (nam4 y) 1)).f.Long = true := by
    show y.f.Long = true
    rw [h3f]
    exact hl
   refine ⟨?_, ?_, ?_, fun hc => ?_⟩
   · show 0 ≤ bOr .i64 (bShl .i64 y.f.ID 18) (rnumberS y 18).1 ∧ _
     have : (nam5 (rtakeFS (nam4 y) 1)).f.ID = bOr .i64 (bShl .i64 y.f.ID 18) (rnumberS y 18).1 := rfl
     rw [this, hid]
     omega
   · show y.f.Size = _
     rw [h3f]
     show d.2.f.Size = _
     rw [hdf]; exact k2
   · show y.f.Data = _
     rw [h3f]
     show d.2.f.Data = _
     rw [hdf]; exact k3
   · rw [hlong]
     obtain ⟨q1, q2⟩ := take_stepI (n := 1) h4 (by decide) hc
     obtain ⟨q3, q4⟩ := rnumber_stepI (n := 18) h3 (by decide) q1
     obtain ⟨q5, q6⟩ := h3c q3
     have := hcs q6
     have q2' : (nam4 y).Reader.At + 1 ≤ (nam5 (rtakeFS (nam4 y) 1)).Reader.At := q2
     have q4' : y.Reader.At + 18 ≤ (nam4 y).Reader.At := q4
     rw [if_pos rfl]
     omega
 · rw [if_neg hl]
   have hlong : (nam2 c d).f.Long = false := by show (d.1 == [49]) = false; simpa using hl
   refine ⟨?_, ?_, ?_, fun hc => ?_⟩
   · show 0 ≤ d.2.f.ID ∧ d.2.f.ID ≤ 536870911
     rw [hdf]; omega
   · show d.2.f.Size = _
     rw [hdf]; exact k2
   · show d.2.f.Data = _
     rw [hdf]; exact k3
   · rw [hlong]
     exact hcs hc
theorem names_step {r : FReader} (h : Rok r.Reader) : (0 ≤ (rnamesS r).f.ID ∧ (rnamesS r).f.ID ≤ 536870911) ∧ (rnamesS r).f.Size = r.f.Size ∧ (rnamesS r).f.Data = r.f.Data ∧ ((rnamesS r).Reader.Code = 0 → ((rnamesS r).f.Fast = true → (rnamesS r).f.Remote = false) ∧ r.Reader.At + (1 + (if (rnamesS r).f.Long = false then 13 else 32) + (if (rnamesS r).f.Fast = true then 4 else if (rnamesS r).f.Long = true then 2 else 1)) ≤ (rnamesS r).Reader.At) := by
 obtain ⟨k1, k2, k3, k4⟩ := nam6_step h
 have h6 := nam6_Rok h
 have hq := take_RokI (n := 1) h6 (by decide)
 have hqc : (rtakeFS (nam6 r) 1).2.Reader.Code = 0 → r.Reader.At + (if (nam6 r).f.Long = true then 33 else 14) + 1 ≤ (rtakeFS (nam6 r) 1).2.Reader.At := fun hc => by
  obtain ⟨e1, e2⟩ := take_stepI (n := 1) h6 (by decide) hc
  have := k4 e1
  (try dsimp only at *)
  omega
 have hqf : (rtakeFS (nam6 r) 1).2.f = (nam6 r).f := rfl
 unfold rnamesS
 generalize rtakeFS (nam6 r) 1 = q at *
 generalize nam6 r = y at *
 have hflag : ∀ z : FReader, z.f = (nam7 q).f → z.f.ID = y.f.ID ∧ z.f.Size = y.f.Size ∧ z.f.Data = y.f.Data ∧ z.f.Long = y.f.Long ∧ z.f.Fast = (q.1 == [49]) ∧ z.f.Remote = q.2.f.Remote := fun z hz => by
  rw [hz, ← hqf]
  exact ⟨rfl, rfl, rfl, rfl, rfl, rfl⟩
 have h7 : Rok (nam7 q).Reader := hq
 unfold nam8
 by_cases h1 : (q.1 == [49]) = true
 · rw [if_pos h1]
   have h9 : Rok (if q.2.f.Remote = true then rfailS (nam7 q) 4 else nam7 q).Reader := by
    split
    · exact rfailS_Rok hq
    · exact hq
   have h9f : (if q.2.f.Remote = true then rfailS (nam7 q) 4 else nam7 q).f = (nam7 q).f := rfail_ite _ _ _
   have h9c : (if q.2.f.Remote = true then rfailS (nam7 q) 4 else nam7 q).Reader.Code = 0 → (if q.2.f.Remote = true then rfailS (nam7 q) 4 else nam7 q).Reader.At = q.2.Reader.At ∧ q.2.Reader.Code = 0 ∧ q.2.f.Remote = false := by
    intro hc
    by_cases e : q.2.f.Remote = true
    · rw [if_pos e] at hc
      exact absurd hc (rfail_code (by decide))
    · rw [if_neg e] at hc ⊢
      exact ⟨rfl, hc, by simpa using e⟩
   generalize (if q.2.f.Remote = true then rfailS (nam7 q) 4 else nam7 q) = z at *
   have a1 := rwantS_Rok (b := [48]) h9
   have a2 := rwantS_Rok (b := [49]) a1
   obtain ⟨f1, f2, f3, f4, f5, f6⟩ := hflag (rwantS (rwantS (rwantS z [48]) [49]) [48]) (by rw [rwantS_f, rwantS_f, rwantS_f, h9f])
   rw [f1, f2, f3, f4, f5, f6, h1]
   refine ⟨k1, k2, k3, fun hc => ?_⟩
   obtain ⟨b1, b2⟩ := rwant_step a2 hc
   obtain ⟨b3, b4⟩ := rwant_step a1 b1
   obtain ⟨b5, b6⟩ := rwant_step h9 b3
   obtain ⟨b7, b8, b9⟩ := h9c b5
   have := hqc b8
   refine ⟨fun _ => b9, ?_⟩
   rw [if_pos rfl]
   cases hL : y.f.Long
   · rw [hL, if_neg (by simp)] at this
     rw [if_pos rfl]
     omega
   · rw [hL, if_pos rfl] at this
     rw [if_neg (by simp)]
     omega
 · rw [if_neg h1]
   have h1 : (q.1 == [49]) = false := by simpa using h1
   have hL : q.2.f.Long = y.f.Long := by rw [hqf]
   rw [hL]
   by_cases h2 : y.f.Long = true
   · rw [if_pos h2]
     obtain ⟨f1, f2, f3, f4, f5, f6⟩ := hflag (rwantS (nam7 q) [48]) (by rw [rwantS_f])
     rw [f1, f2, f3, f4, f5, f6, h1, h2]
     refine ⟨k1, k2, k3, fun hc => ?_⟩
     obtain ⟨b1, b2⟩ := rwant_step h7 hc
     have := hqc b1
     refine ⟨fun e => by simp at e, ?_⟩
     rw [h2, if_pos rfl] at this
     rw [if_neg (by simp), if_neg (by simp), if_pos rfl]
     have : (nam7 q).Reader.At = q.2.Reader.At := rfl
     omega
   · rw [if_neg h2]
     have h2 : y.f.Long = false := by simpa using h2
     obtain ⟨f1, f2, f3, f4, f5, f6⟩ := hflag (nam7 q) rfl
     rw [f1, f2, f3, f4, f5, f6, h1, h2]
     refine ⟨k1, k2, k3, fun hc => ?_⟩
     have := hqc hc
     refine ⟨fun e => by simp at e, ?_⟩
     rw [h2, if_neg (by simp)] at this
     rw [if_pos rfl, if_neg (by simp), if_neg (by simp)]
     have : (nam7 q).Reader.At = q.2.Reader.At := rfl
     omega
theorem rplainS_Rok {r : Reader} {n : Int} (h : Rok r) : Rok (rplainS r n).2 := by
 obtain ⟨a0, a1, a2, a3, a4, a5⟩ := h
 unfold rplainS
 split
 · exact ⟨a0, a1, a2, a3, a4, a5⟩
 · split
   · exact ⟨a0, a1, a2, a3, a4, a5⟩
   · split
     · exact ⟨by (try dsimp only); omega, by (try dsimp only); omega, a2, a3, a4, a5⟩
     · exact ⟨by (try dsimp only); omega, by (try dsimp only); omega, a2, a3, a4, a5⟩
theorem rplainS_len {r : Reader} {n : Int} (h : Rok r) (hn : 0 ≤ n) (hc : (rplainS r n).2.Code = 0) : (rplainS r n).1.length = n.toNat := by
 obtain ⟨a0, a1, a2, a3, a4, a5⟩ := h
 unfold rplainS at hc ⊢
 split
 · have : n = 0 := by omega
   rw [this]; rfl
 · rename_i h1
   rw [if_neg h1] at hc
   split
   · rename_i h2
     rw [if_pos h2] at hc
     exact absurd hc h2
   · rename_i h2
     rw [if_neg h2] at hc
     split
     · rw [List.length_take, List.length_drop]; omega
     · rename_i h3
       rw [if_neg h3] at hc
       cases hc
theorem rfastS_Rok {r : FReader} (h : Rok r.Reader) : Rok (rfastS r).Reader := by
 unfold rfastS
 split
 · exact h
 · have : ∀ (e : List UInt8) (q : List UInt8 × FReader), Rok q.2.Reader → Rok ((fun t : FReader => if t.Reader.Code = 0 ∧ q.1 ≠ e then rfailS t 6 else t) (if badN (lastB (r.Reader.Row.take r.Reader.At.toNat)) q.1 q.1.length = true then rfailS q.2 5 else q.2)).Reader := by
     intro e q hq
     have h1 : Rok (if badN (lastB (r.Reader.Row.take r.Reader.At.toNat)) q.1 q.1.length = true then rfailS q.2 5 else q.2).Reader := by
      split
      · exact rfailS_Rok hq
      · exact hq
     dsimp only
     generalize (if badN (lastB (r.Reader.Row.take r.Reader.At.toNat)) q.1 q.1.length = true then rfailS q.2 5 else q.2) = t at *
     split
     · exact rfailS_Rok h1
     · exact h1
   exact this _ _ (rplainS_Rok h)
theorem byb_len : ∀ (k : Nat) (b : List UInt8), (byb k b).length = k := by
 intro k
 induction k with
 | zero => intro b; rfl
 | succ k ih => intro b; rw [byb, List.length_cons, ih]
theorem byb_range : ∀ (k : Nat) (b : List UInt8), isRow b = true → ∀ x ∈ byb k b, 0 ≤ x ∧ x ≤ 255 := by
 intro k
 induction k with
 | zero => intro b _ x hx; cases hx
 | succ k ih =>
  intro b hb x hx
  rw [byb, List.mem_cons] at hx
  rcases hx with rfl | hx
  · have hv := val_lt (isRow_take hb 8)
    have : 2 ^ (b.take 8).length ≤ 2 ^ 8 := Nat.pow_le_pow_right (by omega) (by rw [List.length_take]; omega)
    have : (2 : Nat) ^ 8 = 256 := rfl
    omega
  · exact ih _ (isRow_drop hb 8) x hx
theorem sizes_at {i : Nat} {q : Int} (h : fsizes[i]? = some q) : 0 ≤ q ∧ q ≤ 64 ∧ scontainsS fsizes q = true := by
 have hi : i < 16 := by
  rcases Nat.lt_or_ge i 16 with h1 | h1
  · exact h1
  · rw [List.getElem?_eq_none h1] at h; cases h
 have key : ∀ k : Fin 16, ∀ q, fsizes[k.val]? = some q → 0 ≤ q ∧ q ≤ 64 ∧ scontainsS fsizes q = true := by
  intro k
  have h2 : ∃ x, fsizes[k.val]? = some x ∧ (0 ≤ x ∧ x ≤ 64 ∧ scontainsS fsizes x = true) := by
   have : ∀ k : Fin 16, 0 ≤ (fsizes[k.val]?.getD 0) ∧ (fsizes[k.val]?.getD 0) ≤ 64 ∧ scontainsS fsizes (fsizes[k.val]?.getD 0) = true := by decide
   have h3 : k.val < fsizes.length := k.isLt
   refine ⟨fsizes[k.val], List.getElem?_eq_getElem h3, ?_⟩
   have := this k
   rw [List.getElem?_eq_getElem h3] at this
   exact this
  obtain ⟨x, h3, h4⟩ := h2
  intro q hq
  rw [h3] at hq
  cases hq
  exact h4
 exact key ⟨i, hi⟩ q h
theorem rd1_good {r : FReader} (h : Rok r.Reader) (hid : 0 ≤ r.f.ID ∧ r.f.ID ≤ 536870911) (hz : r.f.Size = 0) (hd : r.f.Data = []) (hc : r.Reader.Code = 0 → (r.f.Fast = true → r.f.Remote = false) ∧ 0 + (1 + (if r.f.Long = false then 13 else 32) + (if r.f.Fast = true then 4 else if r.f.Long = true then 2 else 1)) ≤ r.Reader.At) : fastpre (rd1 r) := by
 have hn := rnumberS_Rok (n := 4) h
 have hnf := rnumberS_f r 4
 have hb : 0 ≤ (rnumberS r 4).1 ∧ (rnumberS r 4).1 < 2 ^ 4 := rnumberS_bound (n := 4) h
 have p4 : (2 : Int) ^ 4 = 16 := rfl
 have hst : (rnumberS r 4).2.Reader.Code = 0 → r.Reader.Code = 0 ∧ r.Reader.At + 4 ≤ (rnumberS r 4).2.Reader.At := fun e => rnumber_stepI (n := 4) h (by decide) e
 unfold rd1
 generalize rnumberS r 4 = a at *
 by_cases h1 : a.2.Reader.Code ≠ 0
 · rw [if_pos h1]
   exact ⟨hn, fun e => absurd e h1⟩
 · rw [if_neg h1]
   have h1 : a.2.Reader.Code = 0 := by simpa using h1
   obtain ⟨hs1, hs2⟩ := hst h1
   obtain ⟨hc1, hc2⟩ := hc hs1
   by_cases h2 : r.f.Fast = false ∧ 8 < a.1
   · rw [if_pos h2]
     exact ⟨rfailS_Rok hn, fun e => absurd e (rfail_code (by decide))⟩
   · rw [if_neg h2]
     by_cases h3 : r.f.Remote = true
     · rw [if_pos h3]
       refine ⟨hn, fun _ => ⟨⟨hid.1, hid.2, hb.1, ?_, ?_, ?_, ?_⟩, ?_⟩⟩
       · show a.1 ≤ 8
         have : r.f.Fast = false := by
          cases hf : r.f.Fast
          · rfl
          · rw [hc1 hf] at h3; cases h3
         have : ¬ 8 < a.1 := fun e => h2 ⟨this, e⟩
         omega
       · show r.f.Data.length ≤ 64; rw [hd]; simp
       · show ∀ x ∈ r.f.Data, _; rw [hd]; intro x hx; cases hx
       · intro e
         have e : r.f.Remote = false := e
         rw [e] at h3; cases h3
       · rw [fheadS_len]
         show (((1 + (if r.f.Long = false then 13 else 32) + (if r.f.Fast = true then 4 else if r.f.Long = true then 2 else 1) + 4 + 8 * r.f.Data.length : Nat)) : Int) ≤ a.2.Reader.At
         rw [hd, List.length_nil]
         have : (((1 + (if r.f.Long = false then 13 else 32) + (if r.f.Fast = true then 4 else if r.f.Long = true then 2 else 1) + 4 + 8 * 0 : Nat)) : Int) = (1 + (if r.f.Long = false then 13 else 32) + (if r.f.Fast = true then 4 else if r.f.Long = true then 2 else 1)) + 4 := by
          split <;> split <;> (try split) <;> rfl
         omega
     · rw [if_neg h3]
       obtain ⟨v, hv⟩ : ∃ v, fsizes[a.1.toNat]? = some v := ⟨_, List.getElem?_eq_getElem (show a.1.toNat < fsizes.length by show a.1.toNat < 16; omega)⟩
       obtain ⟨v1, v2, v3⟩ := sizes_at hv
       rw [hv, Option.getD_some]
       have ht := take_RokI (n := 8 * v) hn (by omega)
       have hrow : isRow (rtakeFS a.2 (8 * v)).1 = true ∧ (rtakeFS a.2 (8 * v)).1.length ≤ (8 * v).toNat ∧ ((rtakeFS a.2 (8 * v)).2.Reader.Code = 0 → (rtakeFS a.2 (8 * v)).1.length = (8 * v).toNat) := rtakeS_row (n := 8 * v) hn
       have hst2 : (rtakeFS a.2 (8 * v)).2.Reader.Code = 0 → a.2.Reader.Code = 0 ∧ a.2.Reader.At + 8 * v ≤ (rtakeFS a.2 (8 * v)).2.Reader.At := fun e => take_stepI (n := 8 * v) hn (by omega) e
       generalize rtakeFS a.2 (8 * v) = t at *
       refine ⟨ht, fun hcode => ?_⟩
       have hcode : t.2.Reader.Code = 0 := hcode
       obtain ⟨g1, g2, g3⟩ := hrow
       have g3 := g3 hcode
       have hby : bbytesS t.1 = (byb v.toNat t.1, 0) := by
        unfold bbytesS
        rw [if_neg (by rw [(bcheck_zero t.1).2 ⟨by omega, g1⟩]; simp), if_neg (by omega)]
        have : t.1.length / 8 = v.toNat := by omega
        rw [this]
       rw [hby]
       have hbl := byb_len v.toNat t.1
       refine ⟨⟨hid.1, hid.2, ?_, ?_, ?_, ?_, ?_⟩, ?_⟩
       · show 0 ≤ r.f.Size; omega
       · show r.f.Size ≤ 8; omega
       · show (byb v.toNat t.1).length ≤ 64; omega
       · exact byb_range _ _ g1
       · intro _
         show scontainsS fsizes ((byb v.toNat t.1).length : Int) = true
         rw [hbl]
         have : ((v.toNat : Nat) : Int) = v := by omega
         rw [this]
         exact v3
       · rw [fheadS_len]
         show (((1 + (if r.f.Long = false then 13 else 32) + (if r.f.Fast = true then 4 else if r.f.Long = true then 2 else 1) + 4 + 8 * (byb v.toNat t.1).length : Nat)) : Int) ≤ t.2.Reader.At
         rw [hbl]
         have := hst2 hcode
         have : (((1 + (if r.f.Long = false then 13 else 32) + (if r.f.Fast = true then 4 else if r.f.Long = true then 2 else 1) + 4 + 8 * v.toNat : Nat)) : Int) = (1 + (if r.f.Long = false then 13 else 32) + (if r.f.Fast = true then 4 else if r.f.Long = true then 2 else 1)) + 4 + 8 * v := by
          rw [Int.natCast_add, Int.natCast_mul]
          have e : ((v.toNat : Nat) : Int) = v := by omega
          rw [e]
          have e2 : (((1 + (if r.f.Long = false then 13 else 32) + (if r.f.Fast = true then 4 else if r.f.Long = true then 2 else 1) + 4 : Nat)) : Int) = (1 + (if r.f.Long = false then 13 else 32) + (if r.f.Fast = true then 4 else if r.f.Long = true then 2 else 1)) + 4 := by split <;> split <;> (try split) <;> rfl
          rw [e2]
          rfl
         omega
theorem fRead_ok (b : List UInt8) : fRead_vc b (fun q => q = readS b) := by
 refine ⟨fun h1 => ?_, fun h1 => ?_⟩
 · unfold readS
   rw [if_pos (by simpa using h1)]
   rfl
 · have h1 : bcheckS b = 0 := by simpa using h1
   obtain ⟨hl, hr⟩ := (bcheck_zero b).1 h1
   have hS : readS b = if (readR b).Reader.Code ≠ 0 then (f0, 0, (readR b).Reader.Code) else ((readR b).f, (readR b).Reader.At, 0) := by
    unfold readS
    rw [if_neg (by rw [h1]; simp)]
   rw [hS]
   have h0 : Rok (rstart b).Reader := ⟨Int.le_refl 0, by show (0 : Int) ≤ (b.length : Int); omega, by show b.length ≤ 1000000; omega, hr, Int.le_refl 0, by show (0 : Int) ≤ 4; omega⟩
   refine ⟨h0, ?_⟩
   rintro n hn _
   have hN : rnamesS (rstart b) = n := hn
   obtain ⟨k1, k2, k3, k4⟩ := names_step h0
   have hnR := rnamesS_Rok h0
   have hb : 0 ≤ (rnumberS n 4).1 ∧ (rnumberS n 4).1 < 2 ^ 4 := by rw [← hN]; exact rnumberS_bound (n := 4) hnR
   have p4 : (2 : Int) ^ 4 = 16 := rfl
   rw [hN] at k1 k2 k3 k4 hnR
   refine ⟨⟨hnR, by decide, by decide⟩, ?_⟩
   rintro a rfl _
   have hgood := rd1_good hnR k1 k2 k3 k4
   refine ⟨fun y => y = rd1 n, ⟨fun h2 => ?_, fun h2 => ⟨fun h3 => ?_, fun h3 => ⟨fun h4 => ?_, fun h4 => ?_⟩⟩⟩, ?_⟩
   · unfold rd1
     rw [if_pos (by simpa using h2)]
   · rintro y rfl _
     have h3 : (rnumberS n 4).2.f.Fast = false ∧ 8 < (rnumberS n 4).1 := by simpa using h3
     rw [rnumberS_f] at h3
     unfold rd1
     rw [if_neg (by simpa using h2), if_pos h3]
   · have h3 : ¬ ((rnumberS n 4).2.f.Fast = false ∧ 8 < (rnumberS n 4).1) := by simpa using h3
     rw [rnumberS_f] at h3 h4
     unfold rd1
     rw [if_neg (by simpa using h2), if_neg h3, if_pos h4]
     rw [rnumberS_f]
   · have h3 : ¬ ((rnumberS n 4).2.f.Fast = false ∧ 8 < (rnumberS n 4).1) := by simpa using h3
     intro _
     refine ⟨⟨hb.1, by show _ < (16 : Int); omega⟩, fun q hq => ?_⟩
     obtain ⟨v1, v2, v3⟩ := sizes_at hq
     rw [w64_eq _ (by omega)]
     refine ⟨⟨rnumberS_Rok hnR, by omega⟩, ?_⟩
     rintro t rfl _ _
     rw [rnumberS_f] at h3 h4
     unfold rd1
     rw [if_neg (by simpa using h2), if_neg h3, if_neg (by rw [h4]; simp), hq, Option.getD_some]
     have hf : (rtakeFS (rnumberS n 4).2 (8 * q)).2.f = n.f := by rw [rtakeFS_f, rnumberS_f]
     rw [hf]
   · rintro y rfl
     have hX : readR b = rd3 (rd2 (rd1 n)) := by unfold readR; rw [hN]
     rw [hX]
     generalize rd1 n = y at *
     have h2R : Rok (rd2 y).Reader := by
      unfold rd2
      split
      · exact rfastS_Rok hgood.1
      · split
        · split
          · exact rfailS_Rok (take_RokI hgood.1 (by decide))
          · exact take_RokI hgood.1 (by decide)
        · exact hgood.1
     refine ⟨fun z => z = rd2 y, ⟨fun h2 => ⟨hgood, ?_⟩, fun h2 => ⟨fun h3 => ?_, fun h3 => ?_⟩⟩, ?_⟩
     · rintro _ rfl _
       unfold rd2
       rw [if_pos h2]
     · have h3 : y.Reader.Code = 0 := by simpa using h3
       refine ⟨(hgood.2 h3).1, ⟨hgood.1, by decide⟩, ?_⟩
       rintro t rfl _
       have hS2 : rd2 y = if (rtakeFS y 15).2.Reader.Code = 0 ∧ (rtakeFS y 15).1 ≠ (csumS 0 (fheadS y.f)).1 then rfailS (rtakeFS y 15).2 6 else (rtakeFS y 15).2 := by
        unfold rd2
        rw [if_neg (by rw [h2]; simp), if_pos h3]
       rw [hS2]
       refine ⟨fun h4 => ?_, fun h4 => ?_⟩
       · rintro _ rfl _
         rw [if_pos (by simpa using h4)]
       · rw [if_neg (by simpa using h4)]
     · unfold rd2
       rw [if_neg (by rw [h2]; simp), if_neg (by simpa using h3)]
     · rintro z rfl
       generalize rd2 y = z at *
       have h2R' := h2R
       obtain ⟨a0, a1, a2, a3, a4, a5⟩ := h2R
       refine ⟨⟨⟨a0, a1, a2⟩, by decide⟩, ?_⟩
       rintro t ht _
       have hlen : t.2.Reader.Code = 0 → t.1.length = 10 := by
        intro e
        rw [← ht] at e ⊢
        exact rplainS_len (n := 10) h2R' (by decide) e
       have hS3 : rd3 z = if t.2.Reader.Code = 0 ∧ (t.1.take 1 ++ [49]) ++ t.1.drop 2 ≠ tail10 then rfailS t.2 4 else t.2 := by
        unfold rd3
        rw [ht]
       rw [hS3]
       refine ⟨fun h2 => ?_, fun h2 => ⟨fun h3 => ?_, fun h3 => ?_⟩⟩
       · have h2 : t.2.Reader.Code = 0 := by simpa using h2
         have hl10 := hlen h2
         refine ⟨⟨by decide, by omega⟩, ?_, ⟨by decide, by omega⟩, ?_, ?_⟩
         · show (((t.1.take 1).length : Int)) + (1 : Int) ≤ _
           rw [List.length_take]; omega
         · show ((((t.1.take 1) ++ ([49] : List UInt8)).length : Int)) + (((t.1.drop 2).length : Int)) ≤ _
           rw [List.length_append, List.length_take, List.length_drop]; simp; omega
         · refine ⟨fun w => w = if t.2.Reader.Code = 0 ∧ (t.1.take 1 ++ [49]) ++ t.1.drop 2 ≠ tail10 then rfailS t.2 4 else t.2, ⟨fun h4 => ?_, fun h4 => ?_⟩, ?_⟩
           · rintro _ rfl _
             have h4 : (t.1.take 1 ++ [49]) ++ t.1.drop 2 ≠ tail10 := bne_iff_ne.1 h4
             rw [if_pos ⟨h2, h4⟩]
           · have h4 : ¬ (t.1.take 1 ++ [49]) ++ t.1.drop 2 ≠ tail10 := by
               intro e
               have := bne_iff_ne.2 e
               rw [show ((t.1.take 1 ++ [49]) ++ t.1.drop 2 != tail10) = false from h4] at this
               cases this
             rw [if_neg (fun e => h4 e.2)]
           · rintro w rfl
             refine ⟨fun h4 => ?_, fun h4 => ?_⟩
             · rw [if_pos (by simpa using h4)]
               rfl
             · rw [if_neg (by simpa using h4)]
       · have hn2 : ¬ (t.2.Reader.Code = 0 ∧ (t.1.take 1 ++ [49]) ++ t.1.drop 2 ≠ tail10) := fun e => by have := e.1; simp [this] at h2
         rw [if_neg hn2]
         rw [if_pos (by simpa using h3)]
         rfl
       · have h3 : t.2.Reader.Code = 0 := by simpa using h3
         rw [h3] at h2; cases h2
end Go.Proofs.YtmnlahbngbigdaaGreatDoor
set_option linter.unusedVariables false
set_option linter.unusedSimpArgs false
namespace Go.Proofs.YtmnlahbngbigdaaGreatDoor
open Go.Sy Go.RowKit
end Go.Proofs.YtmnlahbngbigdaaGreatDoor
set_option linter.unusedVariables false
set_option linter.unusedSimpArgs false
namespace Go.Proofs.YtmnlahbngbigdaaGreatDoor
open Go.Sy Go.RowKit
def rreadbits_vc (u0 : List UInt8) (K : (Frame × Int × Int) → Prop) : Prop := ((rbpre u0 []) ∧ (∀ r86, (rbbS u0 [] 0 0) = r86 → (∀ r99, (rbmS (r86.1 == ([48] : List UInt8)) 4 r86.2.2.1) = r99 → ((rnpre (11 : Int) u0 r86.2.1) ∧ (∀ r120, (rbnS 11 u0 r86.2.1 r99 r86.2.2.2) = r120 → ((rbpre u0 r120.2.1) ∧ (∀ r141, (rbbS u0 r120.2.1 r120.2.2.1 r120.2.2.2) = r141 → ((rbpre u0 r141.2.1) ∧ (∀ r164, (rbbS u0 r141.2.1 r141.2.2.1 r141.2.2.2) = r164 → (∃ inv184 : (List UInt8) → Int → Int → Frame → Prop, (((r164.1 == ([49] : List UInt8)) = true → (∀ r1119, (rbmS (r141.1 == ([49] : List UInt8)) 4 r164.2.2.1) = r1119 → ((rnpre (18 : Int) u0 r164.2.1) ∧ ((rbpre u0 (rbnS 18 u0 r164.2.1 r1119 r164.2.2.2).2.1) ∧ (∀ r1166, (rbbS u0 (rbnS 18 u0 r164.2.1 r1119 r164.2.2.2).2.1 (rbnS 18 u0 r164.2.1 r1119 r164.2.2.2).2.2.1 (rbnS 18 u0 r164.2.1 r1119 r164.2.2.2).2.2.2) = r1166 → (inv184 r1166.2.1 r1166.2.2.1 r1166.2.2.2 (⟨w64 ((bShl .i64 r120.1 18) + (rbnS 18 u0 r164.2.1 r1119 r164.2.2.2).1), r164.1 == ([49] : List UInt8), false, r1166.1 == ([49] : List UInt8), 0, []⟩ : Frame))))))) ∧ ((r164.1 == ([49] : List UInt8)) = false → (inv184 r164.2.1 r164.2.2.1 r164.2.2.2 (⟨r120.1, r164.1 == ([49] : List UInt8), false, r141.1 == ([49] : List UInt8), 0, []⟩ : Frame)))) ∧ (∀ (yb41c0 : List UInt8) (yb32c0 : Int) (yb23c0 : Int) (yb17 : Frame), inv184 yb41c0 yb32c0 yb23c0 yb17 → ((rbpre u0 yb41c0) ∧ (∀ r209, (rbbS u0 yb41c0 yb32c0 yb23c0) = r209 → (∃ inv229 : (List UInt8) → Int → Int → Prop, (((r209.1 == ([49] : List UInt8)) = true → (∀ r963, (rbmS (!yb17.Remote) 4 r209.2.2.1) = r963 → ((rbpre u0 r209.2.1) ∧ (∀ r981, (rbbS u0 r209.2.1 r963 r209.2.2.2) = r981 → (∀ r994, (rbmS (r981.1 == ([48] : List UInt8)) 4 r981.2.2.1) = r994 → ((rbpre u0 r981.2.1) ∧ (∀ r1012, (rbbS u0 r981.2.1 r994 r981.2.2.2) = r1012 → (∀ r1025, (rbmS (r1012.1 == ([49] : List UInt8)) 4 r1012.2.2.1) = r1025 → ((rbpre u0 r1012.2.1) ∧ (∀ r1043, (rbbS u0 r1012.2.1 r1025 r1012.2.2.2) = r1043 → (∀ r1056, (rbmS (r1043.1 == ([48] : List UInt8)) 4 r1043.2.2.1) = r1056 → (inv229 r1043.2.1 r1056 r1043.2.2.2)))))))))))) ∧ ((r209.1 == ([49] : List UInt8)) = false → ((yb17.Long = true → ((rbpre u0 r209.2.1) ∧ (∀ r1083, (rbbS u0 r209.2.1 r209.2.2.1 r209.2.2.2) = r1083 → (∀ r1096, (rbmS (r1083.1 == ([48] : List UInt8)) 4 r1083.2.2.1) = r1096 → (inv229 r1083.2.1 r1096 r1083.2.2.2))))) ∧ (yb17.Long = false → (inv229 r209.2.1 r209.2.2.1 r209.2.2.2))))) ∧ (∀ (yb41c0v : List UInt8) (yb32c0v : Int) (yb23c0v : Int), inv229 yb41c0v yb32c0v yb23c0v → ((rnpre (4 : Int) u0 yb41c0v) ∧ (∀ r255, (rbnS 4 u0 yb41c0v yb32c0v yb23c0v) = r255 → (∀ r284, (rbmS ((r209.1 == ([49] : List UInt8)) || (decide (r255.1 ≤ 8))) 4 r255.2.2.1) = r284 → (∃ inv297 : Int → (List UInt8) → Int → Frame → Prop, ((yb17.Remote = true → (inv297 r284 r255.2.1 r255.2.2.2 (⟨yb17.ID, yb17.Long, r209.1 == ([49] : List UInt8), yb17.Remote, r255.1, []⟩ : Frame))) ∧ (yb17.Remote = false → (∃ inv802 : Int → Int → (List UInt8) → Int → Frame → Prop, ∃ mu802 : Int → Int → (List UInt8) → Int → Frame → Nat, inv802 0 r284 r255.2.1 r255.2.2.2 (⟨yb17.ID, yb17.Long, r209.1 == ([49] : List UInt8), yb17.Remote, yb17.Size, ([] : List Int)⟩ : Frame) ∧ (∀ (x13 : Int) (yb32c0vvv : Int) (yb41c0vvv : List UInt8) (yb23c0vvv : Int) (yb17vv : Frame), inv802 x13 yb32c0vvv yb41c0vvv yb23c0vvv yb17vv → (((yb32c0vvv == 0) = true → (rsizes.length ≤ 140737488355328 → ((0 ≤ r255.1 ∧ r255.1 < (rsizes.length : Int)) ∧ (∀ q852, rsizes[r255.1.toNat]? = some q852 → (((decide (x13 < q852)) = true → ((rnpre (8 : Int) u0 yb41c0vvv) ∧ (((yb17vv.Data.length + 1) * 1 ≤ 140737488355328) ∧ (inv802 (w64 (x13 + 1)) (rbnS 8 u0 yb41c0vvv yb32c0vvv yb23c0vvv).2.2.1 (rbnS 8 u0 yb41c0vvv yb32c0vvv yb23c0vvv).2.1 (rbnS 8 u0 yb41c0vvv yb32c0vvv yb23c0vvv).2.2.2 (⟨yb17vv.ID, yb17vv.Long, yb17vv.Fast, yb17vv.Remote, yb17vv.Size, yb17vv.Data ++ [w8 (rbnS 8 u0 yb41c0vvv yb32c0vvv yb23c0vvv).1]⟩ : Frame) ∧ mu802 (w64 (x13 + 1)) (rbnS 8 u0 yb41c0vvv yb32c0vvv yb23c0vvv).2.2.1 (rbnS 8 u0 yb41c0vvv yb32c0vvv yb23c0vvv).2.1 (rbnS 8 u0 yb41c0vvv yb32c0vvv yb23c0vvv).2.2.2 (⟨yb17vv.ID, yb17vv.Long, yb17vv.Fast, yb17vv.Remote, yb17vv.Size, yb17vv.Data ++ [w8 (rbnS 8 u0 yb41c0vvv yb32c0vvv yb23c0vvv).1]⟩ : Frame) < mu802 x13 yb32c0vvv yb41c0vvv yb23c0vvv yb17vv)))) ∧ ((decide (x13 < q852)) = false → (inv297 yb32c0vvv yb41c0vvv yb23c0vvv yb17vv))))))) ∧ ((yb32c0vvv == 0) = false → (inv297 yb32c0vvv yb41c0vvv yb23c0vvv yb17vv))))))) ∧ (∀ (yb32c0vv : Int) (yb41c0vv : List UInt8) (yb23c0vv : Int) (yb17v : Frame), inv297 yb32c0vv yb41c0vv yb23c0vv yb17v → (∃ inv332 : Int → (List UInt8) → Int → Prop, ((((yb32c0vv == 0) && (!yb17v.Fast)) = true → (((0 ≤ (0 : Int) ∧ (0 : Int) < 5) ∧ isRow yb41c0vv = true ∧ yb41c0vv.length ≤ 1000) ∧ (∃ inv708 : (List UInt8) → Int → Int → (List UInt8) → Int → Prop, ∃ mu708 : (List UInt8) → Int → Int → (List UInt8) → Int → Nat, inv708 [] 0 yb32c0vv yb41c0vv yb23c0vv ∧ (∀ (x15 : List UInt8) (x135 : Int) (yb32c0vvvv : Int) (yb41c0vvvv : List UInt8) (yb23c0vvvv : Int), inv708 x15 x135 yb32c0vvvv yb41c0vvvv yb23c0vvvv → (((decide (x135 < 15)) = true → ((rbpre u0 yb41c0vvvv) ∧ (∀ r745, (rbbS u0 yb41c0vvvv yb32c0vvvv yb23c0vvvv) = r745 → (((x15.length : Int) + (r745.1.length : Int) ≤ 9223372036854775807) ∧ (inv708 (x15 ++ r745.1) (w64 (x135 + 1)) r745.2.2.1 r745.2.1 r745.2.2.2 ∧ mu708 (x15 ++ r745.1) (w64 (x135 + 1)) r745.2.2.1 r745.2.1 r745.2.2.2 < mu708 x15 x135 yb32c0vvvv yb41c0vvvv yb23c0vvvv))))) ∧ ((decide (x135 < 15)) = false → (∀ r778, (rbmS (x15 == (sumR 0 yb41c0vv)) 6 yb32c0vvvv) = r778 → (inv332 r778 yb41c0vvvv yb23c0vvvv)))))))) ∧ (((yb32c0vv == 0) && (!yb17v.Fast)) = false → (inv332 yb32c0vv yb41c0vv yb23c0vv))) ∧ (∀ (yb32c0vvv : Int) (yb41c0vvv : List UInt8) (yb23c0vvv : Int), inv332 yb32c0vvv yb41c0vvv yb23c0vvv → (∃ inv372 : Int → Int → Prop, ((((yb32c0vvv == 0) && yb17v.Fast) = true → ((0 ≤ yb23c0vvv ∧ yb23c0vvv ≤ (u0.length : Int)) ∧ ((rfpre yb41c0vvv (u0.take yb23c0vvv.toNat) (yb17v.Data.length : Int)) ∧ ((rppre ((rfastendS yb41c0vvv (u0.take yb23c0vvv.toNat) (yb17v.Data.length : Int)).length : Int) yb23c0vvv u0) ∧ (∀ r526, (rbpS ((rfastendS yb41c0vvv (u0.take yb23c0vvv.toNat) (yb17v.Data.length : Int)).length : Int) yb32c0vvv yb23c0vvv u0) = r526 → (∃ inv539 : Int → Int → Prop, ∃ mu539 : Int → Int → Nat, inv539 0 r526.2.1 ∧ (∀ (x20 : Int) (yb32c0vvvvv : Int), inv539 x20 yb32c0vvvvv → (((decide (x20 < (r526.1.length : Int))) = true → ((0 ≤ w64 (((u0.take yb23c0vvv.toNat).length : Int) - 1) ∧ w64 (((u0.take yb23c0vvv.toNat).length : Int) - 1) < ((u0.take yb23c0vvv.toNat).length : Int)) ∧ (∀ c583, (u0.take yb23c0vvv.toNat)[(w64 (((u0.take yb23c0vvv.toNat).length : Int) - 1)).toNat]? = some c583 → (∃ inv596 : Int → Prop, (((decide (x20 > 0)) = true → ((0 ≤ w64 (x20 - 1) ∧ w64 (x20 - 1) < (r526.1.length : Int)) ∧ (∀ c656, r526.1[(w64 (x20 - 1)).toNat]? = some c656 → (inv596 (c656.toNat : Int))))) ∧ ((decide (x20 > 0)) = false → (inv596 (c583.toNat : Int)))) ∧ (∀ (x21 : Int), inv596 x21 → ((0 ≤ x20 ∧ x20 < (r526.1.length : Int)) ∧ (∀ c618, r526.1[x20.toNat]? = some c618 → (∀ r631, (rbmS ((c618.toNat : Int) != x21) 5 yb32c0vvvvv) = r631 → (inv539 (w64 (x20 + 5)) r631 ∧ mu539 (w64 (x20 + 5)) r631 < mu539 x20 yb32c0vvvvv))))))))) ∧ ((decide (x20 < (r526.1.length : Int))) = false → (∀ r678, (rbmS (r526.1 == (rfastendS yb41c0vvv (u0.take yb23c0vvv.toNat) (yb17v.Data.length : Int))) 6 yb32c0vvvvv) = r678 → (inv372 r678 r526.2.2))))))))))) ∧ (((yb32c0vvv == 0) && yb17v.Fast) = false → (inv372 yb32c0vvv yb23c0vvv))) ∧ (∀ (yb32c0vvvv : Int) (yb23c0vvvv : Int), inv372 yb32c0vvvv yb23c0vvvv → ((rppre (10 : Int) yb23c0vvvv u0) ∧ (∀ r402, (rbpS 10 yb32c0vvvv yb23c0vvvv u0) = r402 → (∀ r431, (rbmS ((r402.1 == ([49, 49, 49, 49, 49, 49, 49, 49, 49, 49] : List UInt8)) || (r402.1 == ([49, 48, 49, 49, 49, 49, 49, 49, 49, 49] : List UInt8))) 4 r402.2.1) = r431 → (((r431 != 0) = true → (K ((⟨0, false, false, false, 0, []⟩ : Frame), 0, r431))) ∧ ((r431 != 0) = false → (K (yb17v, r402.2.2, 0)))))))))))))))))))))))))))))))
theorem takeF_add (m n : Nat) : ∀ (c : Counter) (b : List UInt8), takeF c b (m + n) = match takeF c b m with
  | .error e => .error e
  | .ok q => (takeF q.2.2 q.2.1 n).map fun p => (q.1 ++ p.1, p.2) := by
 induction m with
 | zero =>
  intro c b
  rw [Nat.zero_add, show takeF c b 0 = .ok ([], b, c) by cases b <;> rfl]
  show _ = (takeF c b n).map _
  cases takeF c b n <;> rfl
 | succ m ih =>
  intro c b
  rw [Nat.add_right_comm]
  cases b with
  | nil => rfl
  | cons x r =>
   rw [takeF_cons, takeF_cons]
   by_cases h5 : (nx c x).n = 5
   · rw [if_pos h5, if_pos h5]
     cases r with
     | nil => rfl
     | cons y r' =>
      dsimp only
      by_cases hy : y = flip x
      · rw [if_pos hy, if_pos hy, ih]
        cases takeF (nx (nx c x) (flip x)) r' m with
        | error e => rfl
        | ok q =>
         show Except.map _ (Except.map _ (takeF q.2.2 q.2.1 n)) = Except.map _ (takeF q.2.2 q.2.1 n)
         cases takeF q.2.2 q.2.1 n <;> rfl
      · rw [if_neg hy, if_neg hy]
   · rw [if_neg h5, if_neg h5, ih]
     cases takeF (nx c x) r m with
     | error e => rfl
     | ok q =>
      show Except.map _ (Except.map _ (takeF q.2.2 q.2.1 n)) = Except.map _ (takeF q.2.2 q.2.1 n)
      cases takeF q.2.2 q.2.1 n <;> rfl
theorem take_inv : ∀ (n : Nat) (c : Counter) (b : List UInt8) (q : List UInt8 × List UInt8 × Counter), takeF c b n = .ok q → b = putF c q.1 ++ q.2.1 := by
 intro n
 induction n with
 | zero =>
  intro c b q h
  rw [show takeF c b 0 = .ok ([], b, c) by cases b <;> rfl] at h
  cases h
  rfl
 | succ n ih =>
  intro c b q h
  cases b with
  | nil => cases h
  | cons x r =>
   rw [takeF_cons] at h
   by_cases h5 : (nx c x).n = 5
   · rw [if_pos h5] at h
     cases r with
     | nil => cases h
     | cons y r' =>
      dsimp only at h
      by_cases hy : y = flip x
      · rw [if_pos hy] at h
        cases hT : takeF (nx (nx c x) (flip x)) r' n with
        | error e => rw [hT] at h; cases h
        | ok q1 =>
         rw [hT] at h
         cases h
         have := ih _ _ _ hT
         show x :: y :: r' = putF c (x :: q1.1) ++ q1.2.1
         rw [putF, if_pos h5, hy]
         show _ = x :: flip x :: (putF (nx (nx c x) (flip x)) q1.1 ++ q1.2.1)
         rw [← this]
      · rw [if_neg hy] at h; cases h
   · rw [if_neg h5] at h
     cases hT : takeF (nx c x) r n with
     | error e => rw [hT] at h; cases h
     | ok q1 =>
      rw [hT] at h
      cases h
      have := ih _ _ _ hT
      show x :: r = putF c (x :: q1.1) ++ q1.2.1
      rw [putF, if_neg h5]
      show _ = x :: (putF (nx c x) q1.1 ++ q1.2.1)
      rw [← this]
theorem rtake_split {r : Reader} (h : Rok r) (m n : Nat) : (rtakeS r ((m + n : Nat) : Int)).2.Code = (rtakeS (rtakeS r (m : Int)).2 (n : Int)).2.Code ∧ ((rtakeS r ((m + n : Nat) : Int)).2.Code = 0 → rtakeS r ((m + n : Nat) : Int) = ((rtakeS r (m : Int)).1 ++ (rtakeS (rtakeS r (m : Int)).2 (n : Int)).1, (rtakeS (rtakeS r (m : Int)).2 (n : Int)).2)) := by
 by_cases hc : r.Code = 0
 · have A := rtakeS_take (n := m + n) h hc
   have B := rtakeS_take (n := m) h hc
   rw [takeF_add] at A
   cases hT : takeF r.c (r.Row.drop r.At.toNat) m with
   | error e =>
    rw [hT] at A B
    obtain ⟨q, a1, a2, a3, _⟩ := A
    obtain ⟨q', b1, b2, b3, b4, b5⟩ := B
    rw [a1, b1]
    have := (rtakeS_Rok (n : Int) b5).2.2.1 (by rw [b2]; exact b3)
    rw [this]
    exact ⟨by rw [a2, b2], fun e => absurd (a2.symm.trans e) a3⟩
   | ok q =>
    rw [hT] at A B
    obtain ⟨b1, b2, b3, b4, b5, b6, b7⟩ := B
    have hR1 := (rtakeS_Rok (m : Int) h).1
    rw [b1] at hR1 ⊢
    have C := rtakeS_take (n := n) hR1 rfl
    have e : (⟨r.Row, (r.Row.length : Int) - (q.2.1.length : Int), 0, q.2.2⟩ : Reader).Row.drop (⟨r.Row, (r.Row.length : Int) - (q.2.1.length : Int), 0, q.2.2⟩ : Reader).At.toNat = q.2.1 := by
     show r.Row.drop ((r.Row.length : Int) - (q.2.1.length : Int)).toNat = q.2.1
     rw [show ((r.Row.length : Int) - (q.2.1.length : Int)).toNat = r.Row.length - q.2.1.length by omega]
     exact b3.symm
    rw [e] at C
    cases hT2 : takeF q.2.2 q.2.1 n with
    | error e2 =>
     dsimp only at A C
     rw [hT2] at A C
     obtain ⟨q1, a1, a2, a3, _⟩ := A
     obtain ⟨q', c1, c2, c3, c4, c5⟩ := C
     rw [a1]
     dsimp only
     rw [c1]
     exact ⟨by rw [a2, c2], fun e => absurd (a2.symm.trans e) a3⟩
    | ok q2 =>
     dsimp only at A C
     rw [hT2] at A C
     obtain ⟨a1, _⟩ := A
     obtain ⟨c1, _⟩ := C
     rw [a1]
     dsimp only
     rw [c1]
     exact ⟨rfl, fun _ => rfl⟩
 · rw [(rtakeS_Rok _ h).2.2.1 hc, (rtakeS_Rok (m : Int) h).2.2.1 hc]
   dsimp only
   rw [(rtakeS_Rok (n : Int) h).2.2.1 hc]
   exact ⟨rfl, fun e => absurd e hc⟩
def Rel (b : List UInt8) (r : Reader) (h : List UInt8) (e p : Int) : Prop :=
 Rok r ∧ r.Row = b ∧ r.Code = e ∧ ((h.length : Int) ≤ p ∧ p ≤ (b.length : Int)) ∧ (e = 0 → r.At = p ∧ takeF ⟨0, 0⟩ b h.length = .ok (h, b.drop p.toNat, r.c))
theorem Rel.of {b : List UInt8} {r r' : Reader} {h : List UInt8} {e p : Int} (H : Rel b r h e p) (h1 : Rok r') (h2 : r'.Row = b) (h3 : r'.Code = r.Code) (h4 : r'.Code = 0 → r' = r) : Rel b r' h e p := by
 obtain ⟨H1, H2, H3, H4, H5⟩ := H
 exact ⟨h1, h2, h3.trans H3, H4, fun he => by rw [h4 (h3.trans (H3.trans he))]; exact H5 he⟩
theorem Rel.pre {b : List UInt8} {r : Reader} {h : List UInt8} {e p : Int} (hb : isRow b = true) (hl : b.length ≤ 1000) (H : Rel b r h e p) : rbpre b h := by
 obtain ⟨H1, H2, H3, H4, H5⟩ := H
 exact ⟨hb, hl, by omega⟩
theorem rbb_good {b h : List UInt8} {p : Int} {q : List UInt8 × List UInt8 × Counter} (hT : takeF ⟨0, 0⟩ b (h.length + 1) = .ok q) : rbbS b h 0 p = (q.1.drop (q.1.length - 1), q.1, 0, (b.length : Int) - (q.2.1.length : Int)) := by
 have t : takebitsS b ((h.length : Int) + 1) = (q.1, (b.length : Int) - (q.2.1.length : Int), 0) := by rw [takebits_at, hT]
 unfold rbbS
 rw [if_pos rfl, t]
 exact if_neg (fun k => k rfl)
theorem rbb_bad {b h : List UInt8} {p e : Int} (he : e ≠ 0) (hT : takeF ⟨0, 0⟩ b (h.length + 1) = .error e) : rbbS b h 0 p = ([48], h, e, p) := by
 have t : takebitsS b ((h.length : Int) + 1) = ([], 0, e) := by rw [takebits_at, hT]
 unfold rbbS
 rw [if_pos rfl, t]
 exact if_pos he
theorem bit_step {b : List UInt8} {r : Reader} {h : List UInt8} {e p : Int} (H : Rel b r h e p) : Rel b (rtakeS r 1).2 (rbbS b h e p).2.1 (rbbS b h e p).2.2.1 (rbbS b h e p).2.2.2 ∧ ((rbbS b h e p).1 == [49]) = ((rtakeS r 1).1 == [49]) ∧ ((rtakeS r 1).2.Code = 0 → (rbbS b h e p).1 = (rtakeS r 1).1 ∧ (rbbS b h e p).2.1 = h ++ (rtakeS r 1).1 ∧ (rtakeS r 1).1.length = 1 ∧ r.Code = 0) := by
 have H0 := H
 obtain ⟨H1, H2, H3, H4, H5⟩ := H
 have hone : rtakeS r 1 = rtakeS r ((1 : Nat) : Int) := rfl
 by_cases he : e = 0
 · subst he
   obtain ⟨H5a, H5b⟩ := H5 rfl
   have A := rtakeS_take (n := 1) H1 H3
   have e1 : r.Row.drop r.At.toNat = b.drop p.toNat := by rw [H2, H5a]
   rw [e1] at A
   have hT1 : takeF ⟨0, 0⟩ b (h.length + 1) = (takeF r.c (b.drop p.toNat) 1).map fun q => (h ++ q.1, q.2) := by rw [takeF_add, H5b]
   have hR1 := (rtakeS_Rok 1 H1).1
   rw [hone] at hR1 ⊢
   cases hT : takeF r.c (b.drop p.toNat) 1 with
   | error e' =>
    rw [hT] at A
    obtain ⟨q, a1, a2, a3, a4, a5⟩ := A
    rw [a1, rbb_bad a3 (by rw [hT1, hT]; rfl)]
    exact ⟨⟨a5, a4.trans H2, a2, H4, fun k => absurd k a3⟩, rfl, fun k => absurd (a2.symm.trans k) a3⟩
   | ok q =>
    rw [hT] at A
    obtain ⟨a1, a2, a3, a4, a5, a6, a7⟩ := A
    rw [a1] at hR1 ⊢
    rw [rbb_good (q := (h ++ q.1, q.2)) (by rw [hT1, hT]; rfl)]
    have hd : (h ++ q.1).drop ((h ++ q.1).length - 1) = q.1 := by rw [List.length_append, a7, Nat.add_sub_cancel, List.drop_left]
    dsimp only
    rw [hd]
    rw [H2] at a2 a3 a4
    have a0 := H1.1
    refine ⟨⟨hR1, H2, rfl, ⟨by rw [List.length_append]; omega, by omega⟩, fun _ => ⟨by rw [H2], ?_⟩⟩, rfl, fun _ => ⟨rfl, rfl, a7, H3⟩⟩
    rw [List.length_append, a7, hT1, hT]
    show Except.ok (h ++ q.1, q.2) = _
    have : b.drop ((b.length : Int) - (q.2.1.length : Int)).toNat = q.2.1 := by
     rw [show ((b.length : Int) - (q.2.1.length : Int)).toNat = b.length - q.2.1.length by omega]
     exact a3.symm
    rw [this]
 · have := (rtakeS_Rok 1 H1).2.2.1 (by rw [H3]; exact he)
   rw [this]
   unfold rbbS
   rw [if_neg he]
   exact ⟨H0, rfl, fun k => absurd (H3.symm.trans k) he⟩
theorem must_fail {b : List UInt8} {R : FReader} {h : List UInt8} {e p a : Int} (H : Rel b R.Reader h e p) (ha : a ≠ 0) : Rel b (rfailS R a).Reader h (rbmS false a e) p := by
 obtain ⟨H1, H2, H3, H4, H5⟩ := H
 unfold rfailS rbmS
 by_cases he : e = 0
 · rw [if_pos (H3.trans he), if_pos ⟨he, rfl⟩]
   exact ⟨H1, H2, rfl, H4, fun k => absurd k ha⟩
 · rw [if_neg (fun k => he (H3.symm.trans k)), if_neg (fun k => he k.1)]
   exact ⟨H1, H2, H3, H4, H5⟩
theorem must_true (a e : Int) : rbmS true a e = e := by unfold rbmS; rw [if_neg (fun k => by cases k.2)]
theorem must_bad (c : Bool) (a : Int) {e : Int} (he : e ≠ 0) : rbmS c a e = e := by unfold rbmS; rw [if_neg (fun k => he k.1)]
theorem must_zero {c : Bool} {a e : Int} (ha : a ≠ 0) (h : rbmS c a e = 0) : c = true ∧ e = 0 := by
 unfold rbmS at h
 split at h
 · exact absurd h ha
 · rename_i k
   exact ⟨by cases c; exact absurd ⟨h, rfl⟩ k; rfl, h⟩
theorem want_step {b : List UInt8} {R : FReader} {h : List UInt8} {e p : Int} (v : List UInt8) (H : Rel b R.Reader h e p) : Rel b (rwantS R v).Reader (rbbS b h e p).2.1 (rbmS ((rbbS b h e p).1 == v) 4 (rbbS b h e p).2.2.1) (rbbS b h e p).2.2.2 ∧ ((rwantS R v).Reader.Code = 0 → (rbbS b h e p).2.1 = h ++ v ∧ R.Reader.Code = 0) := by
 obtain ⟨S1, S2, S3⟩ := bit_step H
 have hx : (rtakeFS R 1).2.Reader = (rtakeS R.Reader 1).2 := rfl
 have hy : (rtakeFS R 1).1 = (rtakeS R.Reader 1).1 := rfl
 have hcode := S1.2.2.1
 unfold rwantS
 by_cases hc : (rtakeFS R 1).2.Reader.Code = 0
 · obtain ⟨t1, t2, t3, t4⟩ := S3 hc
   by_cases hv : (rtakeFS R 1).1 = v
   · rw [if_neg (fun k => k.2 hv)]
     have : ((rbbS b h e p).1 == v) = true := by rw [t1, ← hy, hv]; exact beq_self_eq_true v
     rw [this, must_true]
     exact ⟨S1, fun _ => ⟨by rw [t2, ← hy, hv], t4⟩⟩
   · rw [if_pos ⟨hc, hv⟩]
     have : ((rbbS b h e p).1 == v) = false := by
      rw [t1, ← hy]
      exact beq_eq_false_iff_ne.2 hv
     rw [this]
     refine ⟨must_fail (R := (rtakeFS R 1).2) S1 (by decide), fun k => absurd k (rfail_code (by decide))⟩
 · rw [if_neg (fun k => hc k.1), must_bad _ _ (by rw [← hcode]; exact hc)]
   exact ⟨S1, fun k => absurd k hc⟩
theorem nloop_step {b : List UInt8} : ∀ (n : Nat) (r : Reader) (v : Int) (h : List UInt8) (e p : Int), Rel b r h e p → Rel b (rtakeS r (n : Int)).2 (nloop b n v h e p).2.1 (nloop b n v h e p).2.2.1 (nloop b n v h e p).2.2.2 ∧ ((rtakeS r (n : Int)).2.Code = 0 → (nloop b n v h e p).1 = v * 2 ^ n + (val (rtakeS r (n : Int)).1 : Int) ∧ (nloop b n v h e p).2.1 = h ++ (rtakeS r (n : Int)).1 ∧ r.Code = 0) := by
 intro n
 induction n with
 | zero =>
  intro r v h e p H
  have h0 : rtakeS r ((0 : Nat) : Int) = ([], r) := by
   show (if r.Code ≠ 0 then ([], r) else ([], r)) = _
   split <;> rfl
  rw [h0]
  refine ⟨H, fun hc => ⟨?_, by simp [nloop], hc⟩⟩
  show v = v * 2 ^ 0 + ((val [] : Nat) : Int)
  have : val [] = 0 := rfl
  rw [this]; simp
 | succ n ih =>
  intro r v h e p H
  rw [nloop]
  obtain ⟨S1, S2, S3⟩ := bit_step H
  have sp := rtake_split H.1 1 n
  have e1 : ((1 + n : Nat) : Int) = ((n + 1 : Nat) : Int) := by rw [Nat.add_comm]
  rw [e1] at sp
  have hone : rtakeS r ((1 : Nat) : Int) = rtakeS r 1 := rfl
  rw [hone] at sp
  obtain ⟨sp1, sp2⟩ := sp
  obtain ⟨I1, I2⟩ := ih (rtakeS r 1).2 (2 * v + (if (rbbS b h e p).1 = [49] then 1 else 0)) _ _ _ S1
  have hRR := rtakeS_Rok ((n + 1 : Nat) : Int) H.1
  refine ⟨I1.of hRR.1 (hRR.2.1.trans H.2.1) sp1 (fun k => by rw [sp2 k]), fun hc => ?_⟩
  obtain ⟨J1, J2, J3⟩ := I2 (sp1 ▸ hc)
  obtain ⟨t1, t2, t3, t4⟩ := S3 J3
  have hlen : (rtakeS (rtakeS r 1).2 (n : Int)).1.length = n := by
   have := (rtakeS_row (n := (n : Int)) S1.1).2.2 (sp1 ▸ hc)
   omega
  have hrow1 := (rtakeS_row (n := 1) H.1).1
  rw [J1, J2, t2, sp2 hc]
  refine ⟨?_, by simp, t4⟩
  show _ = v * 2 ^ (n + 1) + (val ((rtakeS r 1).1 ++ (rtakeS (rtakeS r 1).2 (n : Int)).1) : Int)
  rw [val_append, hlen, t1]
  have hb : (if (rtakeS r 1).1 = [49] then (1 : Int) else 0) = (val (rtakeS r 1).1 : Int) := by
   rcases one_bit t3 hrow1 with g | g <;> rw [g] <;> rfl
  rw [hb, Int.pow_succ]
  have : (((val (rtakeS r 1).1 * 2 ^ n + val (rtakeS (rtakeS r 1).2 (n : Int)).1 : Nat)) : Int) = (val (rtakeS r 1).1 : Int) * 2 ^ n + (val (rtakeS (rtakeS r 1).2 (n : Int)).1 : Int) := by push_cast; rfl
  rw [this, Int.add_mul]
  have : v * (2 ^ n * 2) = 2 * v * 2 ^ n := by rw [Int.mul_comm (2 ^ n) 2, ← Int.mul_assoc, Int.mul_comm v 2]
  omega
theorem num_step {b : List UInt8} {R : FReader} {h : List UInt8} {e p : Int} (n : Nat) (H : Rel b R.Reader h e p) : Rel b (rnumberS R (n : Int)).2.Reader (rbnS (n : Int) b h e p).2.1 (rbnS (n : Int) b h e p).2.2.1 (rbnS (n : Int) b h e p).2.2.2 ∧ ((rnumberS R (n : Int)).2.Reader.Code = 0 → (rbnS (n : Int) b h e p).1 = (rnumberS R (n : Int)).1 ∧ (rbnS (n : Int) b h e p).2.1 = h ++ (rtakeFS R (n : Int)).1 ∧ (rnumberS R (n : Int)).1 = (val (rtakeFS R (n : Int)).1 : Int) ∧ (rtakeFS R (n : Int)).1.length = n ∧ isRow (rtakeFS R (n : Int)).1 = true ∧ R.Reader.Code = 0) := by
 have he : (rnumberS R (n : Int)).2 = (rtakeFS R (n : Int)).2 := by unfold rnumberS; split <;> rfl
 rw [he]
 obtain ⟨S1, S2⟩ := nloop_step n R.Reader 0 h e p H
 have hn : rbnS (n : Int) b h e p = nloop b n 0 h e p := by unfold rbnS; rw [Int.toNat_natCast]
 rw [hn]
 refine ⟨S1, fun hc => ?_⟩
 obtain ⟨t1, t2, t3⟩ := S2 hc
 have hv : (rnumberS R (n : Int)).1 = (val (rtakeFS R (n : Int)).1 : Int) := by unfold rnumberS; rw [if_neg (fun k => k hc)]
 have hr := rtakeS_row (n := (n : Int)) H.1
 have hl := hr.2.2 hc
 refine ⟨by rw [t1, hv]; show (0 : Int) * 2 ^ n + _ = _; rw [Int.zero_mul, Int.zero_add]; rfl, t2, hv, by show (rtakeS R.Reader (n : Int)).1.length = n; omega, hr.1, t3⟩
theorem bit_k {b : List UInt8} {r : Reader} {h : List UInt8} {e p : Int} (H : Rel b r h e p) {x : List UInt8 × List UInt8 × Int × Int} (hx : rbbS b h e p = x) : Rel b (rtakeS r 1).2 x.2.1 x.2.2.1 x.2.2.2 ∧ (x.1 == [49]) = ((rtakeS r 1).1 == [49]) ∧ ((rtakeS r 1).2.Code = 0 → x.1 = (rtakeS r 1).1 ∧ x.2.1 = h ++ (rtakeS r 1).1 ∧ (rtakeS r 1).1.length = 1 ∧ r.Code = 0) := by
 subst hx; exact bit_step H
theorem want_k {b : List UInt8} {R : FReader} {h : List UInt8} {e p : Int} (v : List UInt8) (H : Rel b R.Reader h e p) {x : List UInt8 × List UInt8 × Int × Int} (hx : rbbS b h e p = x) {m : Int} (hm : rbmS (x.1 == v) 4 x.2.2.1 = m) : Rel b (rwantS R v).Reader x.2.1 m x.2.2.2 ∧ ((rwantS R v).Reader.Code = 0 → x.2.1 = h ++ v ∧ R.Reader.Code = 0) := by
 subst hx; subst hm; exact want_step v H
theorem num_k {b : List UInt8} {R : FReader} {h : List UInt8} {e p : Int} (n : Nat) (H : Rel b R.Reader h e p) {x : Int × List UInt8 × Int × Int} (hx : rbnS (n : Int) b h e p = x) : Rel b (rnumberS R (n : Int)).2.Reader x.2.1 x.2.2.1 x.2.2.2 ∧ ((rnumberS R (n : Int)).2.Reader.Code = 0 → x.1 = (rnumberS R (n : Int)).1 ∧ x.2.1 = h ++ (rtakeFS R (n : Int)).1 ∧ (rnumberS R (n : Int)).1 = (val (rtakeFS R (n : Int)).1 : Int) ∧ (rtakeFS R (n : Int)).1.length = n ∧ isRow (rtakeFS R (n : Int)).1 = true ∧ R.Reader.Code = 0) := by
 subst hx; exact num_step n H
theorem nam8_f (q : List UInt8 × FReader) : (nam8 q).f = (nam7 q).f := by
 unfold nam8
 split
 · rw [rwantS_f, rwantS_f, rwantS_f, rfail_ite]
 · split
   · rw [rwantS_f]
   · rfl
theorem fbit_of {g : List UInt8} (hl : g.length = 1) (hr : isRow g = true) : g = fbit (g == [49]) := by
 rcases one_bit hl hr with rfl | rfl <;> rfl
theorem head_shortR {u c d : List UInt8} (hu : u.length = 11) (ru : isRow u = true) (hc : c.length = 1) (rc : isRow c = true) (hd : d = [48]) (f : Frame) (h1 : f.ID = (val u : Int)) (h2 : f.Long = false) (h3 : f.Remote = (c == [49])) : (([48] ++ u) ++ c) ++ d = [48] ++ fnameS f := by
 have e1 : wr 11 f.ID.toNat = u := by
  have := wr_val ru (val u) (by rw [hu]; exact Nat.mod_eq_of_lt (by have := val_lt ru; rwa [hu] at this))
  rw [hu] at this
  rw [h1, Int.toNat_natCast]; exact this
 have e2 : fbit f.Remote = c := by rw [h3]; exact (fbit_of hc rc).symm
 unfold fnameS
 rw [if_pos h2, e1, e2, hd]
 simp
theorem head_longR {u c d w g : List UInt8} (hu : u.length = 11) (ru : isRow u = true) (hc : c = [49]) (hd : d = [49]) (hw : w.length = 18) (rw' : isRow w = true) (hg : g.length = 1) (rg : isRow g = true) (f : Frame) (h1 : f.ID = ((val u * 262144 + val w : Nat) : Int)) (h2 : f.Long = true) (h3 : f.Remote = (g == [49])) : (((([48] ++ u) ++ c) ++ d) ++ w) ++ g = [48] ++ fnameS f := by
 have hvw := val_lt rw'
 have hvu := val_lt ru
 rw [hw] at hvw
 rw [hu] at hvu
 have p18 : (2 : Nat) ^ 18 = 262144 := rfl
 have e1 : wr 11 (f.ID.toNat / 2 ^ 18) = u := by
  have := wr_val ru (val u) (by rw [hu]; exact Nat.mod_eq_of_lt hvu)
  rw [hu] at this
  rw [h1, Int.toNat_natCast, p18, show (val u * 262144 + val w) / 262144 = val u by omega]; exact this
 have e2 : wr 18 f.ID.toNat = w := by
  have := wr_val rw' (val u * 262144 + val w) (by rw [hw, p18]; omega)
  rw [hw] at this
  rw [h1, Int.toNat_natCast]; exact this
 have e3 : fbit f.Remote = g := by rw [h3]; exact (fbit_of hg rg).symm
 unfold fnameS
 rw [if_neg (by rw [h2]; simp), e1, e2, e3, hc, hd]
 simp
theorem fname_congr {f g : Frame} (h1 : f.ID = g.ID) (h2 : f.Long = g.Long) (h3 : f.Remote = g.Remote) : fnameS f = fnameS g := by
 unfold fnameS
 rw [h1, h2, h3]
theorem nam3_f (c : Bool) (r : FReader) : (nam3 c r).f = r.f := by unfold nam3; split; rfl; exact rfailS_f _ _
theorem id_sum {a n : Nat} (ha : a < 2048) (hn : n < 262144) : w64 (bShl .i64 (a : Int) 18 + (n : Int)) = ((a * 262144 + n : Nat) : Int) := by
 have e1 : bShl .i64 (a : Int) 18 = ((a * 262144 : Nat) : Int) := by
  unfold bShl
  have : (a : Int) * 2 ^ (min (18 : Int).toNat IntKind.i64.bits) = ((a * 262144 : Nat) : Int) := by
   show (a : Int) * 2 ^ 18 = _
   omega
  rw [this]
  exact w64_eq _ (by omega)
 rw [e1, w64_eq _ (by omega)]
 omega
def NA (b : List UInt8) (h : List UInt8) (e p : Int) (f : Frame) : Prop :=
 Rel b (nam6 (rstart b)).Reader h e p ∧ (f.Long = (nam6 (rstart b)).f.Long ∧ f.Remote = (nam6 (rstart b)).f.Remote ∧ f.Size = 0) ∧
  ((nam6 (rstart b)).Reader.Code = 0 → f.ID = (nam6 (rstart b)).f.ID ∧ h = [48] ++ fnameS (nam6 (rstart b)).f)
theorem na_long {b : List UInt8} (hr : isRow b = true) (hl : b.length ≤ 1000) {r86 r141 r164 : List UInt8 × List UInt8 × Int × Int} {r120 : Int × List UInt8 × Int × Int} (A2 : (rwantS (rstart b) [48]).Reader.Code = 0 → r86.2.1 = [] ++ [48] ∧ (rstart b).Reader.Code = 0) (B2 : (nam1 (rstart b)).Reader.Code = 0 → r120.1 = (nam1 (rstart b)).f.ID ∧ r120.2.1 = r86.2.1 ++ (rtakeFS (rwantS (rstart b) [48]) 11).1 ∧ (nam1 (rstart b)).f.ID = (val (rtakeFS (rwantS (rstart b) [48]) 11).1 : Int) ∧ (rtakeFS (rwantS (rstart b) [48]) 11).1.length = 11 ∧ isRow (rtakeFS (rwantS (rstart b) [48]) 11).1 = true ∧ (rwantS (rstart b) [48]).Reader.Code = 0) (C2 : (r141.1 == [49]) = ((rtakeFS (nam1 (rstart b)) 1).1 == [49])) (C3 : (rtakeFS (nam1 (rstart b)) 1).2.Reader.Code = 0 → r141.1 = (rtakeFS (nam1 (rstart b)) 1).1 ∧ r141.2.1 = r120.2.1 ++ (rtakeFS (nam1 (rstart b)) 1).1 ∧ (rtakeFS (nam1 (rstart b)) 1).1.length = 1 ∧ (nam1 (rstart b)).Reader.Code = 0) (D1 : Rel b (rtakeFS (rtakeFS (nam1 (rstart b)) 1).2 1).2.Reader r164.2.1 r164.2.2.1 r164.2.2.2) (D2 : (r164.1 == [49]) = ((rtakeFS (rtakeFS (nam1 (rstart b)) 1).2 1).1 == [49])) (D3 : (rtakeFS (rtakeFS (nam1 (rstart b)) 1).2 1).2.Reader.Code = 0 → r164.1 = (rtakeFS (rtakeFS (nam1 (rstart b)) 1).2 1).1 ∧ r164.2.1 = r141.2.1 ++ (rtakeFS (rtakeFS (nam1 (rstart b)) 1).2 1).1 ∧ (rtakeFS (rtakeFS (nam1 (rstart b)) 1).2 1).1.length = 1 ∧ (rtakeFS (nam1 (rstart b)) 1).2.Reader.Code = 0) (k : (r164.1 == [49]) = true) {r1119 : Int} (h1119 : rbmS (r141.1 == [49]) 4 r164.2.2.1 = r1119) : rnpre 18 b r164.2.1 ∧ rbpre b (rbnS 18 b r164.2.1 r1119 r164.2.2.2).2.1 ∧ ∀ r1166, rbbS b (rbnS 18 b r164.2.1 r1119 r164.2.2.2).2.1 (rbnS 18 b r164.2.1 r1119 r164.2.2.2).2.2.1 (rbnS 18 b r164.2.1 r1119 r164.2.2.2).2.2.2 = r1166 → NA b r1166.2.1 r1166.2.2.1 r1166.2.2.2 ⟨w64 (bShl .i64 r120.1 18 + (rbnS 18 b r164.2.1 r1119 r164.2.2.2).1), r164.1 == [49], false, r1166.1 == [49], 0, []⟩ := by
 have kd : ((rtakeFS (rtakeFS (nam1 (rstart b)) 1).2 1).1 == [49]) = true := D2 ▸ k
 have hn6 : nam6 (rstart b) = nam5 (rtakeFS (nam4 (nam3 ((rtakeFS (nam1 (rstart b)) 1).1 == [49]) (nam2 (rtakeFS (nam1 (rstart b)) 1) (rtakeFS (rtakeFS (nam1 (rstart b)) 1).2 1)))) 1) := by
  unfold nam6; rw [if_pos kd]
 rw [C2] at h1119
 have hfid : (rtakeFS (rtakeFS (nam1 (rstart b)) 1).2 1).2.f = (nam1 (rstart b)).f := rfl
 generalize rtakeFS (rtakeFS (nam1 (rstart b)) 1).2 1 = d at *
 generalize rtakeFS (nam1 (rstart b)) 1 = c at *
 have E1 : Rel b (nam3 (c.1 == [49]) (nam2 c d)).Reader r164.2.1 r1119 r164.2.2.2 := by
  rw [← h1119]
  unfold nam3
  cases hcc : (c.1 == [49])
  · rw [if_neg (by simp)]
    exact must_fail (R := nam2 c d) D1 (by decide)
  · rw [if_pos rfl, must_true]
    exact D1
 have E2 : (nam3 (c.1 == [49]) (nam2 c d)).Reader.Code = 0 → (c.1 == [49]) = true ∧ d.2.Reader.Code = 0 := by
  unfold nam3
  cases hcc : (c.1 == [49])
  · rw [if_neg (by simp)]
    exact fun e => absurd e (rfail_code (by decide))
  · rw [if_pos rfl]
    exact fun e => ⟨rfl, e⟩
 have E3 : (nam3 (c.1 == [49]) (nam2 c d)).f = (nam2 c d).f := nam3_f _ _
 generalize nam3 (c.1 == [49]) (nam2 c d) = y at *
 refine ⟨⟨E1.pre hr hl, by decide, by decide⟩, ?_⟩
 obtain ⟨F1, F2⟩ := num_k 18 E1 (x := rbnS 18 b r164.2.1 r1119 r164.2.2.2) rfl
 generalize rbnS 18 b r164.2.1 r1119 r164.2.2.2 = x at *
 have F1 : Rel b (nam4 y).Reader x.2.1 x.2.2.1 x.2.2.2 := F1
 refine ⟨F1.pre hr hl, ?_⟩
 intro r1166 h1166
 obtain ⟨G1, G2, G3⟩ := bit_k F1 h1166
 have hgr := (rtakeS_row (n := 1) F1.1).1
 unfold NA
 rw [hn6]
 have hyl : y.f.Long = (d.1 == [49]) := by rw [E3]; rfl
 have hyi : y.f.ID = (nam1 (rstart b)).f.ID := by rw [E3]; show d.2.f.ID = _; rw [hfid]
 refine ⟨G1, ⟨?_, G2, rfl⟩, fun hc => ?_⟩
 · show (r164.1 == [49]) = y.f.Long
   rw [hyl, D2]
 · obtain ⟨g1, g2, g3, g4⟩ := G3 hc
   have g4 : (rnumberS y 18).2.Reader.Code = 0 := g4
   obtain ⟨f1, f2, f3, f4, f5, f6⟩ := F2 g4
   obtain ⟨e1, e2⟩ := E2 f6
   obtain ⟨d1, d2, d3, d4⟩ := D3 e2
   obtain ⟨c1, c2, c3, c4⟩ := C3 d4
   obtain ⟨b1, b2, b3, b4, b5, b6⟩ := B2 c4
   obtain ⟨a1, a2⟩ := A2 b6
   have hvu := val_lt b5
   rw [b4] at hvu
   have hvw := val_lt f5
   rw [f4] at hvw
   have hID : (nam5 (rtakeFS (nam4 y) 1)).f.ID = ((val (rtakeFS (rwantS (rstart b) [48]) 11).1 * 262144 + val (rtakeFS y 18).1 : Nat) : Int) := by
    show bOr .i64 (bShl .i64 y.f.ID 18) (rnumberS y 18).1 = _
    rw [hyi, b3]
    have f3 : (rnumberS y 18).1 = _ := f3
    rw [f3]
    exact id_join _ _ hvu hvw
   refine ⟨?_, ?_⟩
   · show w64 (bShl .i64 r120.1 18 + x.1) = _
     rw [hID, b1, b3, f1, f3]
     exact id_sum hvu hvw
   · rw [g2, f2, d2, c2, b2, a1]
     have hd49 : d.1 = [49] := by simpa using kd
     have hc49 : c.1 = [49] := by simpa using e1
     exact head_longR b4 b5 hc49 hd49 f4 f5 g3 hgr _ hID (by show y.f.Long = true; rw [hyl]; exact kd) rfl
def NB (b : List UInt8) (h : List UInt8) (e p : Int) : Prop :=
 Rel b (rnamesS (rstart b)).Reader h e p ∧ ((rnamesS (rstart b)).Reader.Code = 0 → h = ([48] ++ fnameS (rnamesS (rstart b)).f) ++ fctl (rnamesS (rstart b)).f)
theorem nb_all {b : List UInt8} (hr : isRow b = true) (hl : b.length ≤ 1000) {h : List UInt8} {e p : Int} {f : Frame} (HA : NA b h e p f) {r209 : List UInt8 × List UInt8 × Int × Int} (h209 : rbbS b h e p = r209) : (((r209.1 == ([49] : List UInt8)) = true → (∀ r963, (rbmS (!f.Remote) 4 r209.2.2.1) = r963 → ((rbpre b r209.2.1) ∧ (∀ r981, (rbbS b r209.2.1 r963 r209.2.2.2) = r981 → (∀ r994, (rbmS (r981.1 == ([48] : List UInt8)) 4 r981.2.2.1) = r994 → ((rbpre b r981.2.1) ∧ (∀ r1012, (rbbS b r981.2.1 r994 r981.2.2.2) = r1012 → (∀ r1025, (rbmS (r1012.1 == ([49] : List UInt8)) 4 r1012.2.2.1) = r1025 → ((rbpre b r1012.2.1) ∧ (∀ r1043, (rbbS b r1012.2.1 r1025 r1012.2.2.2) = r1043 → (∀ r1056, (rbmS (r1043.1 == ([48] : List UInt8)) 4 r1043.2.2.1) = r1056 → (NB b r1043.2.1 r1056 r1043.2.2.2)))))))))))) ∧ ((r209.1 == ([49] : List UInt8)) = false → ((f.Long = true → ((rbpre b r209.2.1) ∧ (∀ r1083, (rbbS b r209.2.1 r209.2.2.1 r209.2.2.2) = r1083 → (∀ r1096, (rbmS (r1083.1 == ([48] : List UInt8)) 4 r1083.2.2.1) = r1096 → (NB b r1083.2.1 r1096 r1083.2.2.2))))) ∧ (f.Long = false → (NB b r209.2.1 r209.2.2.1 r209.2.2.2))))) := by
 obtain ⟨HR, ⟨hL, hRm, hS⟩, hI⟩ := HA
 obtain ⟨J1, J2, J3⟩ := bit_k HR h209
 have hrow := (rtakeS_row (n := 1) HR.1).1
 have hNf : (rnamesS (rstart b)).f = (nam7 (rtakeFS (nam6 (rstart b)) 1)).f := nam8_f _
 have hID : (rnamesS (rstart b)).f.ID = (nam6 (rstart b)).f.ID := by rw [hNf]; rfl
 have hLo : (rnamesS (rstart b)).f.Long = (nam6 (rstart b)).f.Long := by rw [hNf]; rfl
 have hRe : (rnamesS (rstart b)).f.Remote = (nam6 (rstart b)).f.Remote := by rw [hNf]; rfl
 have hFa : (rnamesS (rstart b)).f.Fast = ((rtakeFS (nam6 (rstart b)) 1).1 == [49]) := by rw [hNf]; rfl
 have hfn : fnameS (rnamesS (rstart b)).f = fnameS (nam6 (rstart b)).f := fname_congr hID hLo hRe
 have hNdef : rnamesS (rstart b) = nam8 (rtakeFS (nam6 (rstart b)) 1) := rfl
 have hqR : (rtakeFS (nam6 (rstart b)) 1).2.f = (nam6 (rstart b)).f := rfl
 have J1 : Rel b (nam7 (rtakeFS (nam6 (rstart b)) 1)).Reader r209.2.1 r209.2.2.1 r209.2.2.2 := J1
 have J2 : (r209.1 == [49]) = ((rtakeFS (nam6 (rstart b)) 1).1 == [49]) := J2
 have J3 : (nam7 (rtakeFS (nam6 (rstart b)) 1)).Reader.Code = 0 → r209.1 = (rtakeFS (nam6 (rstart b)) 1).1 ∧ r209.2.1 = h ++ (rtakeFS (nam6 (rstart b)) 1).1 ∧ (rtakeFS (nam6 (rstart b)) 1).1.length = 1 ∧ (nam6 (rstart b)).Reader.Code = 0 := J3
 have hrow : isRow (rtakeFS (nam6 (rstart b)) 1).1 = true := hrow
 generalize rtakeFS (nam6 (rstart b)) 1 = q at *
 refine ⟨fun k => ?_, fun k => ⟨fun k2 => ?_, fun k2 => ?_⟩⟩
 · have kq : (q.1 == [49]) = true := J2 ▸ k
   intro r963 h963
   have T1 : Rel b (if q.2.f.Remote = true then rfailS (nam7 q) 4 else nam7 q).Reader r209.2.1 r963 r209.2.2.2 := by
    rw [hRm, ← hqR] at h963
    rw [← h963]
    cases hcc : q.2.f.Remote
    · rw [if_neg (by simp)]
      show Rel b (nam7 q).Reader r209.2.1 (rbmS true 4 r209.2.2.1) r209.2.2.2
      rw [must_true]
      exact J1
    · rw [if_pos rfl]
      exact must_fail (R := nam7 q) J1 (by decide)
   have T2 : (if q.2.f.Remote = true then rfailS (nam7 q) 4 else nam7 q).Reader.Code = 0 → (nam7 q).Reader.Code = 0 := by
    split
    · exact fun e => absurd e (rfail_code (by decide))
    · exact id
   have hN8 : nam8 q = rwantS (rwantS (rwantS (if q.2.f.Remote = true then rfailS (nam7 q) 4 else nam7 q) [48]) [49]) [48] := by
    unfold nam8; rw [if_pos kq]
   generalize (if q.2.f.Remote = true then rfailS (nam7 q) 4 else nam7 q) = T at *
   refine ⟨T1.pre hr hl, ?_⟩
   intro r981 h981 r994 h994
   obtain ⟨W1, V1⟩ := want_k [48] T1 h981 h994
   refine ⟨W1.pre hr hl, ?_⟩
   intro r1012 h1012 r1025 h1025
   obtain ⟨W2, V2⟩ := want_k [49] W1 h1012 h1025
   refine ⟨W2.pre hr hl, ?_⟩
   intro r1043 h1043 r1056 h1056
   obtain ⟨W3, V3⟩ := want_k [48] W2 h1043 h1056
   unfold NB
   rw [← hN8, ← hNdef] at W3 V3
   refine ⟨W3, fun hc => ?_⟩
   obtain ⟨v1, v2⟩ := V3 hc
   obtain ⟨v3, v4⟩ := V2 v2
   obtain ⟨v5, v6⟩ := V1 v4
   obtain ⟨v7, v8, v9, v10⟩ := J3 (T2 v6)
   rw [v1, v3, v5, v8, (hI v10).2, hfn]
   have hq49 : q.1 = [49] := by simpa using kq
   unfold fctl
   rw [hFa, kq, if_pos rfl, hq49]
   simp
 · have kq : (q.1 == [49]) = false := J2 ▸ k
   have hLq : q.2.f.Long = true := by rw [hqR, ← hL]; exact k2
   have hN8 : nam8 q = rwantS (nam7 q) [48] := by unfold nam8; rw [if_neg (by rw [kq]; simp), if_pos hLq]
   refine ⟨J1.pre hr hl, ?_⟩
   intro r1083 h1083 r1096 h1096
   obtain ⟨W1, V1⟩ := want_k [48] J1 h1083 h1096
   unfold NB
   rw [← hN8, ← hNdef] at W1 V1
   refine ⟨W1, fun hc => ?_⟩
   obtain ⟨v1, v2⟩ := V1 hc
   obtain ⟨v7, v8, v9, v10⟩ := J3 v2
   have hq48 : q.1 = [48] := by
    rcases one_bit v9 hrow with g | g
    · exact g
    · rw [g] at kq; cases kq
   rw [v1, v8, (hI v10).2, hfn, hq48]
   unfold fctl
   rw [hFa, kq, if_neg (by simp), hLo, ← hqR, hLq, if_pos rfl]
   simp
 · have kq : (q.1 == [49]) = false := J2 ▸ k
   have hLq : q.2.f.Long = false := by rw [hqR, ← hL]; exact k2
   have hN8 : nam8 q = nam7 q := by unfold nam8; rw [if_neg (by rw [kq]; simp), if_neg (by rw [hLq]; simp)]
   unfold NB
   rw [← hN8, ← hNdef] at J1 J3
   refine ⟨J1, fun hc => ?_⟩
   obtain ⟨v7, v8, v9, v10⟩ := J3 hc
   have hq48 : q.1 = [48] := by
    rcases one_bit v9 hrow with g | g
    · exact g
    · rw [g] at kq; cases kq
   rw [v8, (hI v10).2, hfn, hq48]
   unfold fctl
   rw [hFa, kq, if_neg (by simp), hLo, ← hqR, hLq, if_neg (by simp)]
def rdM (N : FReader) : FReader := if (rnumberS N 4).2.Reader.Code = 0 ∧ (N.f.Fast = false ∧ 8 < (rnumberS N 4).1) then rfailS (rnumberS N 4).2 4 else (rnumberS N 4).2
theorem rdM_code {N : FReader} (h : (rdM N).Reader.Code = 0) : rdM N = (rnumberS N 4).2 ∧ (rnumberS N 4).2.Reader.Code = 0 ∧ ¬ (N.f.Fast = false ∧ 8 < (rnumberS N 4).1) := by
 unfold rdM at h ⊢
 by_cases k : (rnumberS N 4).2.Reader.Code = 0 ∧ (N.f.Fast = false ∧ 8 < (rnumberS N 4).1)
 · rw [if_pos k] at h
   exact absurd h (rfail_code (by decide))
 · rw [if_neg k] at h ⊢
   exact ⟨rfl, h, fun k2 => k ⟨h, k2⟩⟩
theorem rd1_bad {N : FReader} (h : (rdM N).Reader.Code ≠ 0) : rd1 N = rdM N := by
 unfold rd1
 unfold rdM at h ⊢
 by_cases k : (rnumberS N 4).2.Reader.Code = 0
 · rw [if_neg (fun k2 => k2 k)]
   by_cases k2 : N.f.Fast = false ∧ 8 < (rnumberS N 4).1
   · rw [if_pos k2, if_pos ⟨k, k2⟩]
   · rw [if_neg (fun k3 => k2 k3.2)] at h
     exact absurd k h
 · rw [if_pos k, if_neg (fun k3 => k k3.1)]
theorem rd1_rem {N : FReader} (h : (rdM N).Reader.Code = 0) (hr : N.f.Remote = true) : rd1 N = ⟨(rdM N).Reader, ⟨N.f.ID, N.f.Long, N.f.Fast, N.f.Remote, (rnumberS N 4).1, N.f.Data⟩⟩ := by
 obtain ⟨k1, k2, k3⟩ := rdM_code h
 rw [k1]
 unfold rd1
 rw [if_neg (fun k4 => k4 k2), if_neg k3, if_pos hr]
theorem rd1_dat {N : FReader} (h : (rdM N).Reader.Code = 0) (hr : N.f.Remote = false) : rd1 N = ⟨(rtakeS (rdM N).Reader (8 * (fsizes[(rnumberS N 4).1.toNat]?.getD 0))).2, ⟨N.f.ID, N.f.Long, N.f.Fast, N.f.Remote, N.f.Size, (bbytesS (rtakeS (rdM N).Reader (8 * (fsizes[(rnumberS N 4).1.toNat]?.getD 0))).1).1⟩⟩ := by
 obtain ⟨k1, k2, k3⟩ := rdM_code h
 rw [k1]
 unfold rd1
 rw [if_neg (fun k4 => k4 k2), if_neg k3, if_neg (by rw [hr]; simp)]
 rfl
theorem byb_snoc : ∀ (k : Nat) (t u : List UInt8), t.length = 8 * k → u.length = 8 → byb (k + 1) (t ++ u) = byb k t ++ [(val u : Int)] := by
 intro k
 induction k with
 | zero =>
  intro t u ht hu
  have : t = [] := List.length_eq_zero_iff.1 (by omega)
  subst this
  show [(val (u.take 8) : Int)] = [(val u : Int)]
  rw [List.take_of_length_le (by omega)]
 | succ k ih =>
  intro t u ht hu
  rw [byb, List.take_append_of_le_length (by omega), List.drop_append_of_le_length (by omega), ih _ _ (by rw [List.length_drop]; omega) hu]
  rfl
theorem ofb_byb : ∀ (k : Nat) (t : List UInt8), isRow t = true → t.length = 8 * k → ofb (byb k t) = t := by
 intro k
 induction k with
 | zero => intro t _ ht; have : t = [] := List.length_eq_zero_iff.1 (by omega); subst this; rfl
 | succ k ih =>
  intro t hr ht
  rw [byb, ofb, ih _ (isRow_drop hr 8) (by rw [List.length_drop]; omega), Int.toNat_natCast]
  have hl : (t.take 8).length = 8 := by rw [List.length_take]; omega
  have := wr_val (isRow_take hr 8) (val (t.take 8)) (Nat.mod_eq_of_lt (val_lt (isRow_take hr 8)))
  rw [hl] at this
  rw [this, List.take_append_drop]
theorem sidx_sizes : ∀ i : Fin 16, sindexS fsizes (fsizes[i.val]?.getD 0) = (i.val : Int) := by decide
theorem byb_of_take {v : Int} {t : List UInt8} (hv : 0 ≤ v ∧ v ≤ 64) (hr : isRow t = true) (hl : t.length = (8 * v).toNat) : (bbytesS t).1 = byb v.toNat t := by
 unfold bbytesS
 rw [if_neg (by rw [(bcheck_zero t).2 ⟨by omega, hr⟩]; simp), if_neg (by omega)]
 have : t.length / 8 = v.toNat := by omega
 rw [this]
def NC (b : List UInt8) (N : FReader) (e : Int) (h : List UInt8) (p : Int) (f : Frame) : Prop :=
 Rel b (rd1 N).Reader h e p ∧ ((rd1 N).Reader.Code = 0 → f = (rd1 N).f ∧ h = fheadS (rd1 N).f)
theorem wr4_of {t : List UInt8} (hr : isRow t = true) (hl : t.length = 4) : wr 4 (val t) = t := by
 have := wr_val hr (val t) (Nat.mod_eq_of_lt (val_lt hr))
 rw [hl] at this
 exact this
theorem nc_all {b : List UInt8} (hr : isRow b = true) (hl : b.length ≤ 1000) {N : FReader} {h : List UInt8} {e p : Int} {F : Frame} {fa : Bool} (hB : Rel b N.Reader h e p) (hBh : N.Reader.Code = 0 → h = ([48] ++ fnameS N.f) ++ fctl N.f) (hData : N.f.Data = []) (hSize : N.f.Size = 0) (hLong : F.Long = N.f.Long) (hRem : F.Remote = N.f.Remote) (hSz : F.Size = 0) (hID : N.Reader.Code = 0 → F.ID = N.f.ID) (hfa : fa = N.f.Fast) {r255 : Int × List UInt8 × Int × Int} (h255 : rbnS 4 b h e p = r255) {r284 : Int} (h284 : rbmS (fa || (decide (r255.1 ≤ 8))) 4 r255.2.2.1 = r284) : (F.Remote = true → NC b N r284 r255.2.1 r255.2.2.2 ⟨F.ID, F.Long, fa, F.Remote, r255.1, []⟩) ∧ (F.Remote = false → (∃ inv802 : Int → Int → (List UInt8) → Int → Frame → Prop, ∃ mu802 : Int → Int → (List UInt8) → Int → Frame → Nat, inv802 0 r284 r255.2.1 r255.2.2.2 (⟨F.ID, F.Long, fa, F.Remote, F.Size, ([] : List Int)⟩ : Frame) ∧ (∀ (x13 : Int) (yb32c0vvv : Int) (yb41c0vvv : List UInt8) (yb23c0vvv : Int) (yb17vv : Frame), inv802 x13 yb32c0vvv yb41c0vvv yb23c0vvv yb17vv → (((yb32c0vvv == 0) = true → (rsizes.length ≤ 140737488355328 → ((0 ≤ r255.1 ∧ r255.1 < (rsizes.length : Int)) ∧ (∀ q852, rsizes[r255.1.toNat]? = some q852 → (((decide (x13 < q852)) = true → ((rnpre (8 : Int) b yb41c0vvv) ∧ (((yb17vv.Data.length + 1) * 1 ≤ 140737488355328) ∧ (inv802 (w64 (x13 + 1)) (rbnS 8 b yb41c0vvv yb32c0vvv yb23c0vvv).2.2.1 (rbnS 8 b yb41c0vvv yb32c0vvv yb23c0vvv).2.1 (rbnS 8 b yb41c0vvv yb32c0vvv yb23c0vvv).2.2.2 (⟨yb17vv.ID, yb17vv.Long, yb17vv.Fast, yb17vv.Remote, yb17vv.Size, yb17vv.Data ++ [w8 (rbnS 8 b yb41c0vvv yb32c0vvv yb23c0vvv).1]⟩ : Frame) ∧ mu802 (w64 (x13 + 1)) (rbnS 8 b yb41c0vvv yb32c0vvv yb23c0vvv).2.2.1 (rbnS 8 b yb41c0vvv yb32c0vvv yb23c0vvv).2.1 (rbnS 8 b yb41c0vvv yb32c0vvv yb23c0vvv).2.2.2 (⟨yb17vv.ID, yb17vv.Long, yb17vv.Fast, yb17vv.Remote, yb17vv.Size, yb17vv.Data ++ [w8 (rbnS 8 b yb41c0vvv yb32c0vvv yb23c0vvv).1]⟩ : Frame) < mu802 x13 yb32c0vvv yb41c0vvv yb23c0vvv yb17vv)))) ∧ ((decide (x13 < q852)) = false → (NC b N yb32c0vvv yb41c0vvv yb23c0vvv yb17vv))))))) ∧ ((yb32c0vvv == 0) = false → (NC b N yb32c0vvv yb41c0vvv yb23c0vvv yb17vv)))))) := by
 obtain ⟨S1, S2⟩ := num_k 4 hB h255
 have S1 : Rel b (rnumberS N 4).2.Reader r255.2.1 r255.2.2.1 r255.2.2.2 := S1
 have S2 : (rnumberS N 4).2.Reader.Code = 0 → r255.1 = (rnumberS N 4).1 ∧ r255.2.1 = h ++ (rtakeFS N 4).1 ∧ (rnumberS N 4).1 = (val (rtakeFS N 4).1 : Int) ∧ (rtakeFS N 4).1.length = 4 ∧ isRow (rtakeFS N 4).1 = true ∧ N.Reader.Code = 0 := S2
 have hb : 0 ≤ (rnumberS N 4).1 ∧ (rnumberS N 4).1 < 2 ^ 4 := rnumberS_bound (n := 4) hB.1
 have p4 : (2 : Int) ^ 4 = 16 := rfl
 have hM : Rel b (rdM N).Reader r255.2.1 r284 r255.2.2.2 := by
  rw [← h284, hfa]
  unfold rdM
  by_cases k : (rnumberS N 4).2.Reader.Code = 0
  · obtain ⟨s1, _⟩ := S2 k
    rw [s1]
    by_cases k2 : N.f.Fast = false ∧ 8 < (rnumberS N 4).1
    · rw [if_pos ⟨k, k2⟩]
      have : (N.f.Fast || decide ((rnumberS N 4).1 ≤ 8)) = false := by rw [k2.1, decide_eq_false (by omega)]; rfl
      rw [this]
      exact must_fail S1 (by decide)
    · rw [if_neg (fun k3 => k2 k3.2)]
      have : (N.f.Fast || decide ((rnumberS N 4).1 ≤ 8)) = true := by
       cases hf : N.f.Fast
       · have : ¬ 8 < (rnumberS N 4).1 := fun k3 => k2 ⟨hf, k3⟩
         rw [decide_eq_true (by omega)]; rfl
       · rfl
      rw [this, must_true]
      exact S1
  · rw [if_neg (fun k3 => k k3.1), must_bad _ _ (by rw [← S1.2.2.1]; exact k)]
    exact S1
 have hcodeM : (rdM N).Reader.Code = 0 → r255.1 = (rnumberS N 4).1 ∧ r255.2.1 = (([48] ++ fnameS N.f) ++ fctl N.f) ++ (rtakeFS N 4).1 ∧ (rnumberS N 4).1 = (val (rtakeFS N 4).1 : Int) ∧ (rtakeFS N 4).1.length = 4 ∧ isRow (rtakeFS N 4).1 = true ∧ F.ID = N.f.ID := by
  intro k
  obtain ⟨s1, s2, s3, s4, s5, s6⟩ := S2 (rdM_code k).2.1
  exact ⟨s1, by rw [s2, hBh s6], s3, s4, s5, hID s6⟩
 refine ⟨fun hR => ?_, fun hR => ?_⟩
 · rw [hRem] at hR
   unfold NC
   by_cases k : (rdM N).Reader.Code = 0
   · rw [rd1_rem k hR]
     obtain ⟨s1, s2, s3, s4, s5, s6⟩ := hcodeM k
     refine ⟨hM, fun _ => ⟨?_, ?_⟩⟩
     · rw [hLong, hRem, hfa, s6, s1, hData]
     · rw [s2]
       have hc : fcode ⟨N.f.ID, N.f.Long, N.f.Fast, N.f.Remote, (rnumberS N 4).1, N.f.Data⟩ = val (rtakeFS N 4).1 := by
        unfold fcode
        rw [if_neg (by show ¬ N.f.Remote = false; rw [hR]; simp)]
        show (rnumberS N 4).1.toNat = _
        rw [s3, Int.toNat_natCast]
       unfold fheadS
       rw [hc, wr4_of s5 s4, hData]
       show _ = (((([48] ++ fnameS N.f) ++ fctl N.f) ++ (rtakeFS N 4).1) ++ [])
       rw [List.append_nil]
   · rw [rd1_bad k]
     exact ⟨hM, fun k2 => absurd k2 k⟩
 · have hR0 := hR
   rw [hRem] at hR
   obtain ⟨v, hv⟩ : ∃ v, fsizes[(rnumberS N 4).1.toNat]? = some v := ⟨_, List.getElem?_eq_getElem (show (rnumberS N 4).1.toNat < fsizes.length by show (rnumberS N 4).1.toNat < 16; omega)⟩
   obtain ⟨v1, v2, v3⟩ := sizes_at hv
   have hdat := @rd1_dat N
   rw [hv, Option.getD_some] at hdat
   have hvI : (8 * v : Int) = ((8 * v.toNat : Nat) : Int) := by omega
   have hidx : sindexS fsizes v = (rnumberS N 4).1 := by
    have := sidx_sizes ⟨(rnumberS N 4).1.toNat, by omega⟩
    rw [show (fsizes[(⟨(rnumberS N 4).1.toNat, by omega⟩ : Fin 16).val]?.getD 0) = v by show fsizes[(rnumberS N 4).1.toNat]?.getD 0 = v; rw [hv]; rfl] at this
    rw [this]
    show (((rnumberS N 4).1.toNat : Nat) : Int) = _
    omega
   have hz0 : rtakeS (rdM N).Reader ((8 * 0 : Nat) : Int) = ([], (rdM N).Reader) := by
    show (if (rdM N).Reader.Code ≠ 0 then ([], (rdM N).Reader) else ([], (rdM N).Reader)) = _
    split <;> rfl
   refine ⟨fun x e h p f => ∃ k : Nat, x = k ∧ k ≤ v.toNat ∧ Rel b (rtakeS (rdM N).Reader ((8 * k : Nat) : Int)).2 h e p ∧ (f.ID = F.ID ∧ f.Long = F.Long ∧ f.Fast = fa ∧ f.Remote = F.Remote ∧ f.Size = F.Size ∧ f.Data.length = k) ∧
     ((rtakeS (rdM N).Reader ((8 * k : Nat) : Int)).2.Code = 0 → f.Data = byb k (rtakeS (rdM N).Reader ((8 * k : Nat) : Int)).1 ∧ h = r255.2.1 ++ (rtakeS (rdM N).Reader ((8 * k : Nat) : Int)).1),
    fun x _ _ _ _ => 65 - x.toNat, ⟨0, rfl, by omega, by rw [hz0]; exact hM, ⟨rfl, rfl, rfl, rfl, rfl, rfl⟩, by rw [hz0]; exact fun _ => ⟨rfl, by simp⟩⟩, ?_⟩
   rintro x e' h' p' f ⟨k, rfl, hk, HR, ⟨f1, f2, f3, f4, f5, f6⟩, hc⟩
   have hcM : (rtakeS (rdM N).Reader ((8 * k : Nat) : Int)).2.Code = 0 → (rdM N).Reader.Code = 0 := by
    intro k2
    by_cases k3 : (rdM N).Reader.Code = 0
    · exact k3
    · rw [(rtakeS_Rok _ hM.1).2.2.1 k3] at k2
      exact k2
   refine ⟨fun he => ?_, fun he => ?_⟩
   · have he : e' = 0 := by simpa using he
     have hk0 : (rtakeS (rdM N).Reader ((8 * k : Nat) : Int)).2.Code = 0 := HR.2.2.1.trans he
     have hM0 := hcM hk0
     obtain ⟨s1, s2, s3, s4, s5, s6⟩ := hcodeM hM0
     intro _
     refine ⟨⟨by rw [s1]; omega, by rw [s1]; show _ < ((16 : Nat) : Int); omega⟩, ?_⟩
     intro q hq
     have hqv : q = v := by
      rw [s1] at hq
      have h2 : fsizes[(rnumberS N 4).1.toNat]? = some q := hq
      rw [hv] at h2
      exact (Option.some_inj.1 h2).symm
     subst hqv
     obtain ⟨c1, c2⟩ := hc hk0
     have hrow := rtakeS_row (n := ((8 * k : Nat) : Int)) hM.1
     have hlenk : (rtakeS (rdM N).Reader ((8 * k : Nat) : Int)).1.length = 8 * k := by have := hrow.2.2 hk0; omega
     refine ⟨fun hlt => ?_, fun hge => ?_⟩
     · have hlt : (k : Int) < q := by simpa using hlt
       refine ⟨⟨HR.pre hr hl, by decide, by decide⟩, by omega, ?_⟩
       obtain ⟨T1, T2⟩ := num_k (R := ⟨(rtakeS (rdM N).Reader ((8 * k : Nat) : Int)).2, f⟩) 8 HR (x := rbnS 8 b h' e' p') rfl
       generalize rbnS 8 b h' e' p' = x at *
       have hx : (rnumberS ⟨(rtakeS (rdM N).Reader ((8 * k : Nat) : Int)).2, f⟩ ((8 : Nat) : Int)).2.Reader = (rtakeS (rtakeS (rdM N).Reader ((8 * k : Nat) : Int)).2 ((8 : Nat) : Int)).2 := by unfold rnumberS; split <;> rfl
       have hy : (rtakeFS ⟨(rtakeS (rdM N).Reader ((8 * k : Nat) : Int)).2, f⟩ ((8 : Nat) : Int)).1 = (rtakeS (rtakeS (rdM N).Reader ((8 * k : Nat) : Int)).2 ((8 : Nat) : Int)).1 := rfl
       rw [hx] at T1 T2
       rw [hy] at T2
       obtain ⟨sp1, sp2⟩ := rtake_split hM.1 (8 * k) 8
       rw [show 8 * k + 8 = 8 * (k + 1) by omega] at sp1 sp2
       have hRR := rtakeS_Rok ((8 * (k + 1) : Nat) : Int) hM.1
       have ek : w64 ((k : Int) + 1) = ((k + 1 : Nat) : Int) := by rw [w64_eq _ (by omega)]; omega
       rw [ek]
       refine ⟨⟨k + 1, rfl, by omega, T1.of hRR.1 (hRR.2.1.trans hM.2.1) sp1 (fun k2 => by rw [sp2 k2]), ⟨f1, f2, f3, f4, f5, by show (f.Data ++ [_]).length = k + 1; rw [List.length_append, f6]; rfl⟩, fun k2 => ?_⟩, by (try dsimp only); omega⟩
       obtain ⟨t1, t2, t3, t4, t5, t6⟩ := T2 (sp1 ▸ k2)
       rw [sp2 k2]
       have hv8 := val_lt t5
       rw [t4] at hv8
       have p8 : (2 : Nat) ^ 8 = 256 := rfl
       refine ⟨?_, ?_⟩
       · show f.Data ++ [w8 x.1] = byb (k + 1) (_ ++ _)
         rw [byb_snoc k _ _ hlenk t4, c1, t1, t3, w8_eq _ (by omega)]
       · show x.2.1 = _ ++ (_ ++ _)
         rw [t2, c2, List.append_assoc]
     · have hge : ¬ (k : Int) < q := by simpa using hge
       have hkq : k = q.toNat := by omega
       have hkI : ((8 * k : Nat) : Int) = 8 * q := by omega
       rw [hkI] at HR hk0 c1 c2 hrow hlenk
       unfold NC
       rw [hdat hM0 hR]
       refine ⟨HR, fun _ => ?_⟩
       have hby := byb_of_take (v := q) ⟨v1, v2⟩ hrow.1 (by omega)
       have hbl := byb_len q.toNat (rtakeS (rdM N).Reader (8 * q)).1
       refine ⟨?_, ?_⟩
       · rw [hby, ← hkq, ← c1]
         have e1 : f.ID = N.f.ID := f1.trans s6
         have e2 : f.Long = N.f.Long := f2.trans hLong
         have e3 : f.Fast = N.f.Fast := f3.trans hfa
         have e4 : f.Remote = N.f.Remote := f4.trans hRem
         have e5 : f.Size = N.f.Size := f5.trans (hSz.trans hSize.symm)
         rw [← e1, ← e2, ← e3, ← e4, ← e5]
       · rw [c2, s2, hby]
         have hcd : fcode ⟨N.f.ID, N.f.Long, N.f.Fast, N.f.Remote, N.f.Size, byb q.toNat (rtakeS (rdM N).Reader (8 * q)).1⟩ = val (rtakeFS N 4).1 := by
          unfold fcode
          rw [if_pos hR]
          show (sindexS fsizes (((byb q.toNat (rtakeS (rdM N).Reader (8 * q)).1).length : Nat) : Int)).toNat = _
          rw [hbl, show ((q.toNat : Nat) : Int) = q by omega, hidx, s3, Int.toNat_natCast]
         unfold fheadS
         rw [hcd, wr4_of s5 s4]
         show _ = (((([48] ++ fnameS N.f) ++ fctl N.f) ++ (rtakeFS N 4).1) ++ ofb (byb q.toNat (rtakeS (rdM N).Reader (8 * q)).1))
         rw [ofb_byb _ _ hrow.1 (by omega)]
   · have he : e' ≠ 0 := by simpa using he
     have hkb : (rtakeS (rdM N).Reader ((8 * k : Nat) : Int)).2.Code ≠ 0 := by rw [HR.2.2.1]; exact he
     unfold NC
     by_cases hM0 : (rdM N).Reader.Code = 0
     · rw [hdat hM0 hR]
       obtain ⟨sp1, sp2⟩ := rtake_split hM.1 (8 * k) (8 * v.toNat - 8 * k)
       rw [show 8 * k + (8 * v.toNat - 8 * k) = 8 * v.toNat by omega, ← hvI, (rtakeS_Rok _ HR.1).2.2.1 hkb] at sp1
       have hRR := rtakeS_Rok (8 * v) hM.1
       exact ⟨HR.of hRR.1 (hRR.2.1.trans hM.2.1) sp1 (fun k2 => absurd (sp1 ▸ k2) hkb), fun k2 => absurd (sp1 ▸ k2) hkb⟩
     · rw [rd1_bad hM0]
       rw [(rtakeS_Rok _ hM.1).2.2.1 hM0] at HR
       exact ⟨HR, fun k2 => absurd k2 hM0⟩
theorem lastB_bit {p : List UInt8} (hr : isRow p = true) (h : 1 ≤ p.length) : ((lastB p).toNat : Int) = 48 ∨ ((lastB p).toNat : Int) = 49 := by
 obtain ⟨c, hc⟩ : ∃ c, p[p.length - 1]? = some c := ⟨_, List.getElem?_eq_getElem (by omega)⟩
 rw [lastB_at hc]
 rcases isRow_mem hr (List.mem_of_getElem? hc) with rfl | rfl
 · exact .inl rfl
 · exact .inr rfl
theorem fastEnd_eq {h p : List UInt8} {n : Int} {k : Int} (hp : rfpre h p n) (hk : k = rfkind n) : fastEnd p h.length k = rfastendS h p n := by
 obtain ⟨hr, hl, h1, h9⟩ := hp
 obtain ⟨k1, k2⟩ := cnt4_rw (p.length - h.length)
 have hrow : isRow (p ++ cnt4 (p.length - h.length)) = true := by rw [isRow_append, hr, k1]; rfl
 have hkk : rfkind n = 1 ∨ rfkind n = 2 := by unfold rfkind; split <;> simp
 have hk2 : isKind (rfkind n) = true := by rcases hkk with e | e <;> rw [e] <;> rfl
 have hsl : (sumR (rfkind n) (p ++ cnt4 (p.length - h.length))).length ≤ 21 := by
  unfold sumR
  rw [wr_length]
  rcases hkk with e | e <;> rw [e] <;> decide
 have hc : csumS k (p ++ cnt4 (p.length - h.length)) = (sumR (rfkind n) (p ++ cnt4 (p.length - h.length)), 0) := by
  rw [hk]
  exact csumS_row hk2 (by rw [List.length_append]; omega) hrow
 unfold fastEnd rfastendS
 rw [hc]
 dsimp only
 have hb : bcheckS (cnt4 (p.length - h.length) ++ sumR (rfkind n) (p ++ cnt4 (p.length - h.length))) = 0 :=
  (bcheck_zero _).2 ⟨by rw [List.length_append]; omega, by rw [isRow_append, k1]; exact wr_row _ _⟩
 unfold sfixedS fixbitsS
 rw [if_neg (fun hh => hh hb), if_neg (by rcases lastB_bit hr h1 with e | e <;> omega)]
def slowS (y : FReader) : FReader := if y.f.Fast = true then y else if y.Reader.Code = 0 then
  (if (rtakeFS y 15).2.Reader.Code = 0 ∧ (rtakeFS y 15).1 ≠ (csumS 0 (fheadS y.f)).1 then rfailS (rtakeFS y 15).2 6 else (rtakeFS y 15).2) else y
def ND (b : List UInt8) (y : FReader) (e : Int) (h : List UInt8) (p : Int) : Prop :=
 Rel b (slowS y).Reader h e p ∧ (e = 0 → y.Reader.Code = 0 ∧ (y.f.Fast = true → h = fheadS y.f))
theorem nd_all {b : List UInt8} (hr : isRow b = true) (hl : b.length ≤ 1000) {N : FReader} {h : List UInt8} {e p : Int} {f : Frame} (HC : NC b N e h p f) : (((e == 0) && (!f.Fast)) = true → (((0 ≤ (0 : Int) ∧ (0 : Int) < 5) ∧ isRow h = true ∧ h.length ≤ 1000) ∧ (∃ inv708 : (List UInt8) → Int → Int → (List UInt8) → Int → Prop, ∃ mu708 : (List UInt8) → Int → Int → (List UInt8) → Int → Nat, inv708 [] 0 e h p ∧ (∀ (x15 : List UInt8) (x135 : Int) (yb32c0vvvv : Int) (yb41c0vvvv : List UInt8) (yb23c0vvvv : Int), inv708 x15 x135 yb32c0vvvv yb41c0vvvv yb23c0vvvv → (((decide (x135 < 15)) = true → ((rbpre b yb41c0vvvv) ∧ (∀ r745, (rbbS b yb41c0vvvv yb32c0vvvv yb23c0vvvv) = r745 → (((x15.length : Int) + (r745.1.length : Int) ≤ 9223372036854775807) ∧ (inv708 (x15 ++ r745.1) (w64 (x135 + 1)) r745.2.2.1 r745.2.1 r745.2.2.2 ∧ mu708 (x15 ++ r745.1) (w64 (x135 + 1)) r745.2.2.1 r745.2.1 r745.2.2.2 < mu708 x15 x135 yb32c0vvvv yb41c0vvvv yb23c0vvvv))))) ∧ ((decide (x135 < 15)) = false → (∀ r778, (rbmS (x15 == (sumR 0 h)) 6 yb32c0vvvv) = r778 → (ND b (rd1 N) r778 yb41c0vvvv yb23c0vvvv)))))))) ∧ (((e == 0) && (!f.Fast)) = false → (ND b (rd1 N) e h p)) := by
 obtain ⟨HR, HC2⟩ := HC
 generalize rd1 N = y at *
 refine ⟨fun hc => ?_, fun hc => ?_⟩
 · have hc : e = 0 ∧ f.Fast = false := by simpa using hc
   have hy0 : y.Reader.Code = 0 := HR.2.2.1.trans hc.1
   obtain ⟨rfl, rfl⟩ := HC2 hy0
   have hrow := fheadS_row y.f
   have hlen : (fheadS y.f).length ≤ 1000 := by have := HR.2.2.2.1; omega
   have hsum : (csumS 0 (fheadS y.f)).1 = sumR 0 (fheadS y.f) := by rw [csumS_row rfl hlen hrow]
   have hz0 : rtakeS y.Reader ((0 : Nat) : Int) = ([], y.Reader) := by
    show (if y.Reader.Code ≠ 0 then ([], y.Reader) else ([], y.Reader)) = _
    split <;> rfl
   have hS : slowS y = if (rtakeFS y 15).2.Reader.Code = 0 ∧ (rtakeFS y 15).1 ≠ sumR 0 (fheadS y.f) then rfailS (rtakeFS y 15).2 6 else (rtakeFS y 15).2 := by
    unfold slowS
    rw [if_neg (by rw [hc.2]; simp), if_pos hy0, hsum]
   refine ⟨⟨⟨by decide, by decide⟩, hrow, hlen⟩, fun g i e' h' p' => ∃ k : Nat, i = k ∧ k ≤ 15 ∧ Rel b (rtakeS y.Reader (k : Int)).2 h' e' p' ∧ g.length = k ∧ ((rtakeS y.Reader (k : Int)).2.Code = 0 → g = (rtakeS y.Reader (k : Int)).1),
    fun _ i _ _ _ => 15 - i.toNat, ⟨0, rfl, by omega, by rw [hz0]; exact HR, rfl, by rw [hz0]; exact fun _ => rfl⟩, ?_⟩
   rintro g i e' h' p' ⟨k, rfl, hk, HK, hg, hgc⟩
   refine ⟨fun h1 => ?_, fun h1 => ?_⟩
   · have h1 : k < 15 := by have : (k : Int) < 15 := by simpa using h1
                            omega
     refine ⟨HK.pre hr hl, ?_⟩
     intro x hx
     obtain ⟨S1, S2, S3⟩ := bit_k HK hx
     have hx1 : x.1.length = 1 := by
      rw [← hx]
      rcases (rbb_inv (e := e') (p := p') (HK.pre hr hl)).2 with g | g <;> rw [g] <;> rfl
     refine ⟨by omega, ?_⟩
     obtain ⟨sp1, sp2⟩ := rtake_split HR.1 k 1
     have hRR := rtakeS_Rok ((k + 1 : Nat) : Int) HR.1
     have hone : rtakeS (rtakeS y.Reader (k : Int)).2 ((1 : Nat) : Int) = rtakeS (rtakeS y.Reader (k : Int)).2 1 := rfl
     rw [hone] at sp1 sp2
     have ek : w64 ((k : Int) + 1) = ((k + 1 : Nat) : Int) := by rw [w64_eq _ (by omega)]; omega
     rw [ek]
     refine ⟨⟨k + 1, rfl, by omega, S1.of hRR.1 (hRR.2.1.trans HR.2.1) sp1 (fun k2 => by rw [sp2 k2]), by rw [List.length_append, hg, hx1], fun k2 => ?_⟩, by (try dsimp only); omega⟩
     obtain ⟨t1, t2, t3, t4⟩ := S3 (sp1 ▸ k2)
     rw [sp2 k2, hgc t4, t1]
   · have h1 : k = 15 := by have : ¬ (k : Int) < 15 := by simpa using h1
                            omega
     subst h1
     intro m hm
     have HK : Rel b (rtakeFS y 15).2.Reader h' e' p' := HK
     have hgc : (rtakeFS y 15).2.Reader.Code = 0 → g = (rtakeFS y 15).1 := hgc
     refine ⟨?_, fun _ => ⟨hy0, fun k2 => by rw [hc.2] at k2; cases k2⟩⟩
     rw [hS, ← hm]
     by_cases k2 : (rtakeFS y 15).2.Reader.Code = 0
     · rw [hgc k2]
       by_cases k3 : (rtakeFS y 15).1 = sumR 0 (fheadS y.f)
       · rw [if_neg (fun k4 => k4.2 k3), beq_iff_eq.2 k3, must_true]
         exact HK
       · rw [if_pos ⟨k2, k3⟩, beq_eq_false_iff_ne.2 k3]
         exact must_fail HK (by decide)
     · rw [if_neg (fun k4 => k2 k4.1), must_bad _ _ (by rw [← HK.2.2.1]; exact k2)]
       exact HK
 · by_cases he : e = 0
   · have hy0 : y.Reader.Code = 0 := HR.2.2.1.trans he
     obtain ⟨rfl, rfl⟩ := HC2 hy0
     have hF : y.f.Fast = true := by
      rw [he] at hc
      simpa using hc
     have hS : slowS y = y := by unfold slowS; rw [if_pos hF]
     unfold ND
     rw [hS]
     exact ⟨HR, fun _ => ⟨hy0, fun _ => rfl⟩⟩
   · have hy0 : y.Reader.Code ≠ 0 := by rw [HR.2.2.1]; exact he
     have hS : slowS y = y := by
      unfold slowS
      split
      · rfl
      · first | rfl | rw [if_neg hy0]
     unfold ND
     rw [hS]
     exact ⟨HR, fun k => absurd k he⟩
theorem plain_eq {b : List UInt8} {r : Reader} {e p n : Int} (h1 : r.Row = b) (h2 : r.Code = e) (h3 : 0 ≤ p ∧ p ≤ (b.length : Int)) (h4 : e = 0 → r.At = p) (hn : 0 ≤ n) : (rplainS r n).1 = (rbpS n e p b).1 ∧ (rplainS r n).2.Code = (rbpS n e p b).2.1 ∧ (rplainS r n).2.Row = b ∧ ((rbpS n e p b).2.1 = 0 → (rplainS r n).2.At = (rbpS n e p b).2.2 ∧ e = 0) ∧ (0 ≤ (rbpS n e p b).2.2 ∧ (rbpS n e p b).2.2 ≤ (b.length : Int)) ∧ ((rbpS n e p b).1 ≠ [] → (rbpS n e p b).2.1 = 0) := by
 unfold rplainS rbpS
 by_cases he : e = 0
 · rw [if_pos he]
   have h4 := h4 he
   by_cases hn0 : n ≤ 0
   · have : n = 0 := by omega
     subst this
     rw [if_pos hn0, if_neg (by omega)]
     refine ⟨?_, h2.trans he, h1, fun _ => ⟨by rw [h4]; show p = p + 0; omega, he⟩, by (try dsimp only); omega, fun _ => rfl⟩
     rw [List.drop_eq_nil_of_le (by rw [List.length_take]; omega)]
   · rw [if_neg hn0, if_neg (fun k => k (h2.trans he)), h4, h1]
     by_cases hp : p + n ≤ (b.length : Int)
     · rw [if_pos hp, if_neg (by omega)]
       refine ⟨?_, h2.trans he, rfl, fun _ => ⟨rfl, he⟩, by (try dsimp only); omega, fun _ => rfl⟩
       rw [List.drop_take]
       rw [show (p + n).toNat - p.toNat = n.toNat by omega]
     · rw [if_neg hp, if_pos (by omega)]
       exact ⟨rfl, rfl, rfl, (fun k => by cases k), h3, fun k => absurd rfl k⟩
 · rw [if_neg he]
   have hcode : r.Code ≠ 0 := by rw [h2]; exact he
   by_cases hn0 : n ≤ 0
   · rw [if_pos hn0]
     exact ⟨rfl, h2, h1, fun k => absurd k he, h3, fun k => absurd rfl k⟩
   · rw [if_neg hn0, if_pos hcode]
     exact ⟨rfl, h2, h1, fun k => absurd k he, h3, fun k => absurd rfl k⟩
theorem badN_eq {last : UInt8} {s : List UInt8} : ∀ (d m : Nat), (∀ i, m ≤ i → i < m + d → i % 5 ≠ 0) → badN last s (m + d) = badN last s m := by
 intro d
 induction d with
 | zero => intro m _; rfl
 | succ d ih =>
  intro m h
  rw [← Nat.add_assoc, badN_succ, ih m (fun i h1 h2 => h i h1 (by omega))]
  have := h (m + d) (by omega) (by omega)
  unfold stAt
  rw [decide_eq_false this]
  simp
def NE (b : List UInt8) (y : FReader) (e p : Int) : Prop :=
 (rd2 y).Reader.Row = b ∧ (rd2 y).Reader.Code = e ∧ (0 ≤ p ∧ p ≤ (b.length : Int)) ∧ (e = 0 → (rd2 y).Reader.At = p ∧ y.Reader.Code = 0)
theorem ne_all {b : List UInt8} (hr : isRow b = true) (hl : b.length ≤ 1000) {y : FReader} {f : Frame} (HF : y.Reader.Code = 0 → f = y.f) (hgood : fastpre y) {h : List UInt8} {e p : Int} (HD : ND b y e h p) : (((e == 0) && f.Fast) = true → ((0 ≤ p ∧ p ≤ (b.length : Int)) ∧ ((rfpre h (b.take p.toNat) (f.Data.length : Int)) ∧ ((rppre ((rfastendS h (b.take p.toNat) (f.Data.length : Int)).length : Int) p b) ∧ (∀ r526, (rbpS ((rfastendS h (b.take p.toNat) (f.Data.length : Int)).length : Int) e p b) = r526 → (∃ inv539 : Int → Int → Prop, ∃ mu539 : Int → Int → Nat, inv539 0 r526.2.1 ∧ (∀ (x20 : Int) (yb32c0vvvvv : Int), inv539 x20 yb32c0vvvvv → (((decide (x20 < (r526.1.length : Int))) = true → ((0 ≤ w64 (((b.take p.toNat).length : Int) - 1) ∧ w64 (((b.take p.toNat).length : Int) - 1) < ((b.take p.toNat).length : Int)) ∧ (∀ c583, (b.take p.toNat)[(w64 (((b.take p.toNat).length : Int) - 1)).toNat]? = some c583 → (∃ inv596 : Int → Prop, (((decide (x20 > 0)) = true → ((0 ≤ w64 (x20 - 1) ∧ w64 (x20 - 1) < (r526.1.length : Int)) ∧ (∀ c656, r526.1[(w64 (x20 - 1)).toNat]? = some c656 → (inv596 (c656.toNat : Int))))) ∧ ((decide (x20 > 0)) = false → (inv596 (c583.toNat : Int)))) ∧ (∀ (x21 : Int), inv596 x21 → ((0 ≤ x20 ∧ x20 < (r526.1.length : Int)) ∧ (∀ c618, r526.1[x20.toNat]? = some c618 → (∀ r631, (rbmS ((c618.toNat : Int) != x21) 5 yb32c0vvvvv) = r631 → (inv539 (w64 (x20 + 5)) r631 ∧ mu539 (w64 (x20 + 5)) r631 < mu539 x20 yb32c0vvvvv))))))))) ∧ ((decide (x20 < (r526.1.length : Int))) = false → (∀ r678, (rbmS (r526.1 == (rfastendS h (b.take p.toNat) (f.Data.length : Int))) 6 yb32c0vvvvv) = r678 → (NE b y r678 r526.2.2))))))))))) ∧ (((e == 0) && f.Fast) = false → (NE b y e p)) := by
 obtain ⟨HR, HD2⟩ := HD
 refine ⟨fun hc => ?_, fun hc => ?_⟩
 · have hc : e = 0 ∧ f.Fast = true := by simpa using hc
   obtain ⟨rfl, hfast⟩ := hc
   obtain ⟨hy0, hhead⟩ := HD2 rfl
   have := HF hy0
   subst this
   have hhead := hhead hfast
   subst hhead
   have hS : slowS y = y := by unfold slowS; rw [if_pos hfast]
   rw [hS] at HR
   obtain ⟨R1, R2, R3, R4, R5⟩ := HR
   obtain ⟨R5, R6⟩ := R5 rfl
   obtain ⟨gp, gl⟩ := hgood.2 hy0
   have hput : b.take p.toNat = putF ⟨0, 0⟩ (fheadS y.f) := by
    have hi := take_inv _ _ _ _ R6
    have hi : b = putF ⟨0, 0⟩ (fheadS y.f) ++ b.drop p.toNat := hi
    have hlen : (putF ⟨0, 0⟩ (fheadS y.f)).length = p.toNat := by
     have := congrArg List.length hi
     rw [List.length_append, List.length_drop] at this
     omega
    conv => lhs; rw [hi]
    rw [← hlen, List.take_left]
   have hp4 := put_len4 (fheadS y.f) ⟨0, 0⟩ (by decide) (by decide)
   rw [← hput] at hp4
   have hd64 := gp.2.2.2.2.1
   have hlen := fheadS_len y.f
   rw [if_pos hfast] at hlen
   have hl553 : (fheadS y.f).length ≤ 553 := by rw [hlen]; split <;> omega
   have hpl : (b.take p.toNat).length = p.toNat := by rw [List.length_take]; omega
   have hpos := fheadS_pos y.f
   have hpre : rfpre (fheadS y.f) (b.take p.toNat) (y.f.Data.length : Int) := ⟨isRow_take hr _, by omega, by omega, by (try dsimp only at hp4); omega⟩
   have hk : fkind y.f = rfkind (y.f.Data.length : Int) := by
    unfold fkind rfkind
    rw [hfast]
    by_cases hn : (y.f.Data.length : Int) ≤ 16
    · rw [decide_eq_true hn, if_neg (by omega)]; rfl
    · rw [decide_eq_false hn, if_pos (by omega)]; rfl
   have he := fastEnd_eq hpre hk
   have hel := fastEnd_len (b.take p.toNat) (fheadS y.f).length (fkind y.f)
   rw [he] at hel
   have hrd2 : rd2 y = (fun q : List UInt8 × FReader => (fun t : FReader => if t.Reader.Code = 0 ∧ q.1 ≠ rfastendS (fheadS y.f) (b.take p.toNat) (y.f.Data.length : Int) then rfailS t 6 else t) (if badN (lastB (b.take p.toNat)) q.1 q.1.length = true then rfailS q.2 5 else q.2)) (rplainFS y (rfastendS (fheadS y.f) (b.take p.toNat) (y.f.Data.length : Int)).length) := by
    unfold rd2
    rw [if_pos hfast]
    unfold rfastS
    rw [if_neg (fun k => k hy0), R2, R5, he]
   refine ⟨⟨by omega, R4.2⟩, hpre, ⟨hl, by omega, R4.2, by omega, by omega⟩, ?_⟩
   intro r hrp
   obtain ⟨P1, P2, P3, P4, P5, P6⟩ := plain_eq (n := ((rfastendS (fheadS y.f) (b.take p.toNat) (y.f.Data.length : Int)).length : Int)) R2 R3 ⟨by omega, R4.2⟩ (fun _ => R5) (by omega)
   rw [hrp] at P1 P2 P4 P5 P6
   have Q1 : (rplainFS y (rfastendS (fheadS y.f) (b.take p.toNat) (y.f.Data.length : Int)).length).1 = r.1 := P1
   have Q2 : (rplainFS y (rfastendS (fheadS y.f) (b.take p.toNat) (y.f.Data.length : Int)).length).2.Reader.Code = r.2.1 := P2
   have Q3 : (rplainFS y (rfastendS (fheadS y.f) (b.take p.toNat) (y.f.Data.length : Int)).length).2.Reader.Row = b := P3
   have Q4 : r.2.1 = 0 → (rplainFS y (rfastendS (fheadS y.f) (b.take p.toNat) (y.f.Data.length : Int)).length).2.Reader.At = r.2.2 := fun k => (P4 k).1
   generalize rplainFS y (rfastendS (fheadS y.f) (b.take p.toNat) (y.f.Data.length : Int)).length = q at *
   generalize rfastendS (fheadS y.f) (b.take p.toNat) (y.f.Data.length : Int) = W at *
   generalize hput2 : b.take p.toNat = P at *
   dsimp only at hrd2
   rw [Q1] at hrd2
   have hrl : r.1.length ≤ 1000 := by
    rw [← hrp]
    unfold rbpS
    rw [if_pos rfl]
    split
    · simp
    · show ((b.take _).drop _).length ≤ _
      rw [List.length_drop, List.length_take]; omega
   refine ⟨fun i e' => ∃ j : Nat, i = ((5 * j : Nat) : Int) ∧ 5 * j ≤ r.1.length + 4 ∧ e' = (if badN (lastB P) r.1 (min (5 * j) r.1.length) = true then rbmS false 5 r.2.1 else r.2.1), fun i _ => 2000 - i.toNat, ⟨0, rfl, by omega, by rw [show min (5 * 0) r.1.length = 0 by omega]; rfl⟩, ?_⟩
   rintro i e' ⟨j, rfl, hj, rfl⟩
   refine ⟨fun h1 => ?_, fun h1 => ?_⟩
   · have h1 : 5 * j < r.1.length := by have : ((5 * j : Nat) : Int) < (r.1.length : Int) := by simpa using h1
                                        omega
     have hc0 : r.2.1 = 0 := P6 (fun k => by rw [k] at h1; simp at h1)
     have hP1 : 1 ≤ P.length := by omega
     have hPl : P.length ≤ 1000 := by rw [hpl]; omega
     rw [w64_eq ((P.length : Int) - 1) (by omega)]
     refine ⟨by omega, ?_⟩
     intro c583 h583
     rw [show ((P.length : Int) - 1).toNat = P.length - 1 by omega] at h583
     have hlast := lastB_at h583
     refine ⟨fun x => ∃ c : UInt8, x = (c.toNat : Int) ∧ (if 5 * j = 0 then some (lastB P) else r.1[5 * j - 1]?) = some c, ⟨fun h2 => ?_, fun h2 => ?_⟩, ?_⟩
     · have h2 : 0 < 5 * j := by have : (0 : Int) < ((5 * j : Nat) : Int) := by simpa using h2
                                 omega
       rw [w64_eq _ (by omega)]
       refine ⟨by omega, ?_⟩
       intro c hcc
       rw [show (((5 * j : Nat) : Int) - 1).toNat = 5 * j - 1 by omega] at hcc
       exact ⟨c, rfl, by rw [if_neg (by omega)]; exact hcc⟩
     · have h2 : ¬ (0 : Int) < ((5 * j : Nat) : Int) := by simpa using h2
       exact ⟨c583, rfl, by rw [if_pos (by omega), hlast]⟩
     · rintro x ⟨c, rfl, hcx⟩
       refine ⟨by omega, ?_⟩
       intro c618 h618 r631 h631
       rw [Int.toNat_natCast] at h618
       rw [w64_eq _ (by omega)]
       have hmin : min (5 * j) r.1.length = 5 * j := by omega
       rw [hmin, hc0] at h631
       have hst : stAt (lastB P) r.1 (5 * j) = (c618 == c) := by
        unfold stAt
        rw [decide_eq_true (by omega), h618, hcx]
        rfl
       have hnext : badN (lastB P) r.1 (min (5 * (j + 1)) r.1.length) = (badN (lastB P) r.1 (5 * j) || (c618 == c)) := by
        rw [← hst, ← badN_succ]
        rw [show min (5 * (j + 1)) r.1.length = (5 * j + 1) + (min (5 * (j + 1)) r.1.length - (5 * j + 1)) by omega]
        exact badN_eq _ _ (fun i h1 h2 => by omega)
       refine ⟨⟨j + 1, by omega, by omega, ?_⟩, by (try dsimp only); omega⟩
       rw [hnext, hc0, ← h631]
       have hne : ((c618.toNat : Int) != (c.toNat : Int)) = !(c618 == c) := by
        have := u8eq c618 c
        show (!((c618.toNat : Int) == (c.toNat : Int))) = _
        rw [this]
       rw [hne]
       cases hb1 : badN (lastB P) r.1 (5 * j) <;> cases hb2 : (c618 == c) <;> rfl
   · have h1 : ¬ 5 * j < r.1.length := by have : ¬ ((5 * j : Nat) : Int) < (r.1.length : Int) := by simpa using h1
                                          omega
     rw [show min (5 * j) r.1.length = r.1.length by omega]
     intro m hm
     unfold NE
     rw [hrd2, ← hm]
     have hT : (if badN (lastB P) r.1 r.1.length = true then rfailS q.2 5 else q.2).Reader.Code = (if badN (lastB P) r.1 r.1.length = true then rbmS false 5 r.2.1 else r.2.1) ∧ (if badN (lastB P) r.1 r.1.length = true then rfailS q.2 5 else q.2).Reader.Row = b ∧ (if badN (lastB P) r.1 r.1.length = true then rfailS q.2 5 else q.2).Reader.At = q.2.Reader.At := by
      split
      · unfold rfailS rbmS
        by_cases k : q.2.Reader.Code = 0
        · rw [if_pos k, if_pos ⟨Q2 ▸ k, rfl⟩]
          exact ⟨rfl, Q3, rfl⟩
        · rw [if_neg k, if_neg (fun k2 => k (Q2.trans k2.1))]
          exact ⟨Q2, Q3, rfl⟩
      · exact ⟨Q2, Q3, rfl⟩
     have hT0 : (if badN (lastB P) r.1 r.1.length = true then rbmS false 5 r.2.1 else r.2.1) = 0 → r.2.1 = 0 := by
      split
      · intro k
        have := (must_zero (by decide) k).1
        cases this
      · exact id
     generalize (if badN (lastB P) r.1 r.1.length = true then rfailS q.2 5 else q.2) = t at *
     generalize (if badN (lastB P) r.1 r.1.length = true then rbmS false 5 r.2.1 else r.2.1) = c at *
     obtain ⟨T1, T2, T3⟩ := hT
     by_cases k : t.Reader.Code = 0 ∧ r.1 ≠ W
     · rw [if_pos k, beq_eq_false_iff_ne.2 k.2]
       have hc0 : c = 0 := T1.symm.trans k.1
       have e1 : rbmS false 6 c = 6 := by unfold rbmS; rw [if_pos ⟨hc0, rfl⟩]
       have e2 : rfailS t 6 = ⟨⟨t.Reader.Row, t.Reader.At, 6, t.Reader.c⟩, t.f⟩ := by unfold rfailS; rw [if_pos k.1]
       rw [e1, e2]
       exact ⟨T2, rfl, P5, fun k2 => by cases k2⟩
     · rw [if_neg k]
       have e1 : rbmS (r.1 == W) 6 c = c := by
        by_cases hc0 : c = 0
        · have : r.1 = W := by
            by_cases hW : r.1 = W
            · exact hW
            · exact absurd ⟨T1.trans hc0, hW⟩ k
          rw [beq_iff_eq.2 this, must_true]
        · exact must_bad _ _ hc0
       rw [e1]
       exact ⟨T2, T1, P5, fun k2 => ⟨by rw [T3]; exact Q4 (hT0 k2), hy0⟩⟩
 · have of_rel : rd2 y = slowS y → NE b y e p := by
     intro k
     unfold NE
     rw [k]
     exact ⟨HR.2.1, HR.2.2.1, ⟨by have := HR.2.2.2.1; omega, HR.2.2.2.1.2⟩, fun k2 => ⟨(HR.2.2.2.2 k2).1, (HD2 k2).1⟩⟩
   cases hF : y.f.Fast
   · apply of_rel
     unfold rd2 slowS
     simp only [hF, Bool.false_eq_true, if_false]
   · have he : e ≠ 0 := by
       intro he
       have := HF (HD2 he).1
       rw [he, this, hF] at hc
       cases hc
     have hS : slowS y = y := by unfold slowS; rw [if_pos hF]
     apply of_rel
     rw [hS]
     have hy0 : y.Reader.Code ≠ 0 := by
      have := HR.2.2.1
      rw [hS] at this
      rw [this]; exact he
     unfold rd2
     rw [if_pos hF]
     unfold rfastS
     rw [if_pos hy0]
theorem nam8_code {q : List UInt8 × FReader} (h : Rok q.2.Reader) (hc : q.2.Reader.Code ≠ 0) : (nam8 q).Reader.Code ≠ 0 := by
 have hw : ∀ (R : FReader) (v : List UInt8), R.Reader.Code ≠ 0 → Rok R.Reader → (rwantS R v).Reader.Code ≠ 0 := fun R v h1 h2 h3 => h1 (rwant_step h2 h3).1
 have h7 : Rok (nam7 q).Reader := h
 have c7 : (nam7 q).Reader.Code ≠ 0 := hc
 unfold nam8
 split
 · have hT : Rok (if q.2.f.Remote = true then rfailS (nam7 q) 4 else nam7 q).Reader ∧ (if q.2.f.Remote = true then rfailS (nam7 q) 4 else nam7 q).Reader.Code ≠ 0 := by
     split
     · exact ⟨rfailS_Rok h7, rfail_code (by decide)⟩
     · exact ⟨h7, c7⟩
   exact hw _ _ (hw _ _ (hw _ _ hT.2 hT.1) (rwantS_Rok hT.1)) (rwantS_Rok (rwantS_Rok hT.1))
 · split
   · exact hw _ _ c7 h7
   · exact c7
theorem tail_eq {s : List UInt8} (hl : s.length = 10) (hr : isRow s = true) : ((s.take 1 ++ [49]) ++ s.drop 2 = tail10) ↔ ((s == [49, 49, 49, 49, 49, 49, 49, 49, 49, 49]) || (s == [49, 48, 49, 49, 49, 49, 49, 49, 49, 49])) = true := by
 match s, hl with
 | a :: c :: r, hl =>
  have hc := isRow_mem hr (show c ∈ a :: c :: r by simp)
  show ((a :: 49 :: r) = tail10) ↔ _
  unfold tail10
  rw [Bool.or_eq_true, beq_iff_eq, beq_iff_eq]
  rcases hc with rfl | rfl
  · constructor
    · intro h; right
      injection h with h1 h2
      injection h2 with h3 h4
      rw [h1, h4]
    · rintro (h | h)
      · injection h with h1 h2
        injection h2 with h3 h4
        cases h3
      · injection h with h1 h2
        injection h2 with h3 h4
        rw [h1, h4]
  · constructor
    · intro h; left; exact h
    · rintro (h | h)
      · exact h
      · injection h with h1 h2
        injection h2 with h3 h4
        cases h3
theorem rfast_f (y : FReader) : (rd2 y).f = y.f := by
 unfold rd2
 split
 · exact rfastS_f y
 · split
   · split
     · exact rfailS_f _ _
     · rfl
   · rfl
theorem rd3_f (y : FReader) : (rd3 y).f = y.f := by
 unfold rd3
 split
 · exact rfailS_f _ _
 · rfl
def rreadbitsS (b : List UInt8) : Frame × Int × Int := readS b
theorem rreadbits_ok (b : List UInt8) (hb0 : bcheckS b = 0) : rreadbits_vc b (fun r => r = rreadbitsS b) := by
 obtain ⟨hl, hr⟩ := (bcheck_zero b).1 hb0
 have hRok : Rok (rstart b).Reader := ⟨Int.le_refl 0, by show (0 : Int) ≤ (b.length : Int); omega, by show b.length ≤ 1000000; omega, hr, Int.le_refl 0, by show (0 : Int) ≤ 4; omega⟩
 have h00 : Rel b (rstart b).Reader [] 0 0 := ⟨hRok, rfl, rfl, ⟨by simp, by omega⟩, fun _ => ⟨rfl, by cases b <;> rfl⟩⟩
 obtain ⟨n1, n2, n3, n4⟩ := names_step hRok
 have n2 : (rnamesS (rstart b)).f.Size = 0 := n2
 have n3 : (rnamesS (rstart b)).f.Data = [] := n3
 have n4 : (rnamesS (rstart b)).Reader.Code = 0 → _ := n4
 have hgood := rd1_good (rnamesS_Rok hRok) n1 n2 n3 n4
 refine ⟨h00.pre hr hl, ?_⟩
 intro r86 h86 r99 h99
 obtain ⟨A1, A2⟩ := want_k [48] h00 h86 h99
 refine ⟨⟨A1.pre hr hl, by decide, by decide⟩, ?_⟩
 intro r120 h120
 obtain ⟨B1, B2⟩ := num_k 11 A1 h120
 have B1 : Rel b (nam1 (rstart b)).Reader r120.2.1 r120.2.2.1 r120.2.2.2 := B1
 refine ⟨B1.pre hr hl, ?_⟩
 intro r141 h141
 obtain ⟨C1, C2, C3⟩ := bit_k B1 h141
 have C1 : Rel b (rtakeFS (nam1 (rstart b)) 1).2.Reader r141.2.1 r141.2.2.1 r141.2.2.2 := C1
 refine ⟨C1.pre hr hl, ?_⟩
 intro r164 h164
 obtain ⟨D1, D2, D3⟩ := bit_k C1 h164
 refine ⟨NA b, ⟨fun k r1119 h1119 => na_long hr hl A2 B2 C2 C3 D1 D2 D3 k h1119, fun k => ?_⟩, ?_⟩
 · have kd : ((rtakeFS (rtakeFS (nam1 (rstart b)) 1).2 1).1 == [49]) = false := by
     have D2 : (r164.1 == [49]) = ((rtakeFS (rtakeFS (nam1 (rstart b)) 1).2 1).1 == [49]) := D2
     rw [← D2]; exact k
   have hn6 : nam6 (rstart b) = nam2 (rtakeFS (nam1 (rstart b)) 1) (rtakeFS (rtakeFS (nam1 (rstart b)) 1).2 1) := by
    unfold nam6; rw [if_neg (by rw [kd]; simp)]
   have hrow1 := (rtakeS_row (n := 1) B1.1).1
   have hrow2 := (rtakeS_row (n := 1) C1.1).1
   unfold NA
   rw [hn6]
   refine ⟨D1, ⟨D2, C2, rfl⟩, fun hc => ?_⟩
   obtain ⟨d1, d2, d3, d4⟩ := D3 hc
   obtain ⟨c1, c2, c3, c4⟩ := C3 d4
   obtain ⟨b1, b2, b3, b4, b5, b6⟩ := B2 c4
   obtain ⟨a1, a2⟩ := A2 b6
   have hd48 : (rtakeFS (rtakeFS (nam1 (rstart b)) 1).2 1).1 = [48] := by
    rcases one_bit d3 hrow2 with g | g
    · exact g
    · have g : (rtakeFS (rtakeFS (nam1 (rstart b)) 1).2 1).1 = [49] := g
      rw [g] at kd; cases kd
   refine ⟨b1, ?_⟩
   rw [d2, c2, b2, a1]
   exact head_shortR b4 b5 c3 hrow1 hd48 _ b3 kd rfl
 · intro h e p F HA
   have HA0 := HA
   obtain ⟨HR, ⟨hL, hRm, hS⟩, hI⟩ := HA0
   refine ⟨HR.pre hr hl, ?_⟩
   intro r209 h209
   have J2 := (bit_k HR h209).2.1
   have hNf : (rnamesS (rstart b)).f = (nam7 (rtakeFS (nam6 (rstart b)) 1)).f := nam8_f _
   have hcodeN : (rnamesS (rstart b)).Reader.Code = 0 → (nam6 (rstart b)).Reader.Code = 0 := by
    intro k
    by_cases k2 : (nam6 (rstart b)).Reader.Code = 0
    · exact k2
    · have hq : (rtakeFS (nam6 (rstart b)) 1).2.Reader.Code ≠ 0 := by
        show (rtakeS (nam6 (rstart b)).Reader 1).2.Code ≠ 0
        rw [(rtakeS_Rok 1 HR.1).2.2.1 k2]; exact k2
      exact absurd k (nam8_code (rtakeFS_Rok HR.1) hq)
   refine ⟨NB b, nb_all hr hl HA h209, ?_⟩
   intro h2 e2 p2 HB
   refine ⟨⟨HB.1.pre hr hl, by decide, by decide⟩, ?_⟩
   intro r255 h255 r284 h284
   have nc := nc_all hr hl (N := rnamesS (rstart b)) (F := F) (fa := r209.1 == [49]) HB.1 HB.2 n3 n2 (by rw [hNf]; exact hL) (by rw [hNf]; exact hRm) hS (fun k => by rw [hNf]; exact (hI (hcodeN k)).1) (by rw [hNf]; exact J2) h255 h284
   refine ⟨NC b (rnamesS (rstart b)), nc, ?_⟩
   intro e3 h3 p3 f HC
   refine ⟨ND b (rd1 (rnamesS (rstart b))), nd_all hr hl HC, ?_⟩
   intro e4 h4 p4 HD
   refine ⟨NE b (rd1 (rnamesS (rstart b))), ne_all hr hl (fun k => (HC.2 k).1) hgood HD, ?_⟩
   intro e5 p5 HE
   have hfin : readS b = if (rd3 (rd2 (rd1 (rnamesS (rstart b))))).Reader.Code ≠ 0 then (f0, 0, (rd3 (rd2 (rd1 (rnamesS (rstart b))))).Reader.Code) else ((rd3 (rd2 (rd1 (rnamesS (rstart b))))).f, (rd3 (rd2 (rd1 (rnamesS (rstart b))))).Reader.At, 0) := by
    unfold readS
    rw [if_neg (fun k => k hb0)]
    rfl
   have hff : (rd3 (rd2 (rd1 (rnamesS (rstart b))))).f = (rd1 (rnamesS (rstart b))).f := by rw [rd3_f, rfast_f]
   have hHC := HC.2
   unfold NE at HE
   generalize rd1 (rnamesS (rstart b)) = y at *
   obtain ⟨E1, E2, E3, E4⟩ := HE
   refine ⟨⟨hl, E3.1, E3.2, by decide, by decide⟩, ?_⟩
   intro r402 h402
   obtain ⟨P1, P2, P3, P4, P5, P6⟩ := plain_eq (n := 10) E1 E2 E3 (fun k => (E4 k).1) (by decide)
   rw [h402] at P1 P2 P4 P5 P6
   have Q1 : (rplainFS (rd2 y) 10).1 = r402.1 := P1
   have Q2 : (rplainFS (rd2 y) 10).2.Reader.Code = r402.2.1 := P2
   have Q4 : r402.2.1 = 0 → (rplainFS (rd2 y) 10).2.Reader.At = r402.2.2 ∧ e5 = 0 := P4
   have hten : r402.2.1 = 0 → r402.1.length = 10 ∧ isRow r402.1 = true := by
    intro k
    rw [← h402] at k ⊢
    unfold rbpS at k ⊢
    by_cases k2 : e5 = 0
    · rw [if_pos k2] at k ⊢
      by_cases k3 : p5 + 10 > (b.length : Int)
      · rw [if_pos k3] at k; cases k
      · rw [if_neg k3]
        refine ⟨?_, isRow_drop (isRow_take hr _) _⟩
        show ((b.take _).drop _).length = 10
        rw [List.length_drop, List.length_take]; omega
    · rw [if_neg k2] at k; exact absurd k k2
   have h3 : rd3 (rd2 y) = if (rplainFS (rd2 y) 10).2.Reader.Code = 0 ∧ ((rplainFS (rd2 y) 10).1.take 1 ++ [49]) ++ (rplainFS (rd2 y) 10).1.drop 2 ≠ tail10 then rfailS (rplainFS (rd2 y) 10).2 4 else (rplainFS (rd2 y) 10).2 := rfl
   generalize rplainFS (rd2 y) 10 = t at *
   rw [Q1] at h3
   intro r431 h431
   have hcode : (rd3 (rd2 y)).Reader.Code = r431 ∧ (r431 = 0 → (rd3 (rd2 y)).Reader.At = r402.2.2 ∧ e5 = 0) := by
    rw [h3, ← h431]
    by_cases k : t.2.Reader.Code = 0
    · have k0 : r402.2.1 = 0 := Q2 ▸ k
      obtain ⟨l1, l2⟩ := hten k0
      have hte := tail_eq l1 l2
      by_cases k2 : (r402.1.take 1 ++ [49]) ++ r402.1.drop 2 = tail10
      · rw [if_neg (fun k3 => k3.2 k2), hte.1 k2, must_true]
        exact ⟨Q2, fun k3 => Q4 k3⟩
      · rw [if_pos ⟨k, k2⟩]
        have hf : ((r402.1 == [49, 49, 49, 49, 49, 49, 49, 49, 49, 49]) || (r402.1 == [49, 48, 49, 49, 49, 49, 49, 49, 49, 49])) = false := by
         cases hcc : ((r402.1 == [49, 49, 49, 49, 49, 49, 49, 49, 49, 49]) || (r402.1 == [49, 48, 49, 49, 49, 49, 49, 49, 49, 49]))
         · rfl
         · exact absurd (hte.2 hcc) k2
        rw [hf, k0]
        have e1 : rfailS t.2 4 = ⟨⟨t.2.Reader.Row, t.2.Reader.At, 4, t.2.Reader.c⟩, t.2.f⟩ := by unfold rfailS; rw [if_pos k]
        rw [e1]
        exact ⟨rfl, fun k3 => by cases k3⟩
    · have k0 : r402.2.1 ≠ 0 := by rw [← Q2]; exact k
      rw [if_neg (fun k3 => k k3.1), must_bad _ _ k0]
      exact ⟨Q2, fun k3 => absurd k3 k0⟩
   unfold rreadbitsS
   rw [hfin]
   refine ⟨fun k => ?_, fun k => ?_⟩
   · have k : r431 ≠ 0 := by simpa using k
     rw [if_pos (by rw [hcode.1]; exact k), hcode.1]
     rfl
   · have k : r431 = 0 := by simpa using k
     obtain ⟨c1, c2⟩ := hcode.2 k
     rw [if_neg (by rw [hcode.1]; exact fun k2 => k2 k), hff, c1, (hHC (E4 c2).2).1]
end Go.Proofs.YtmnlahbngbigdaaGreatDoor
set_option linter.unusedVariables false
set_option linter.unusedSimpArgs false
namespace Go.Proofs.YtmnlahbngbigdaaGreatDoor
open Go.Sy Go.RowKit
def rbitsof_vc (u0 : Frame) (K : (List UInt8) → Prop) : Prop := (u0.Data.length ≤ 140737488355328 → ((fcheckfr u0 = 0 ∧ ∀ x ∈ u0.Data, 0 ≤ x ∧ x ≤ 255) ∧ (((!u0.Fast) = true → (((0 ≤ (0 : Int) ∧ (0 : Int) < 5) ∧ isRow (fheadS u0) = true ∧ (fheadS u0).length ≤ 1000) ∧ ((((fheadS u0).length : Int) + ((sumR 0 (fheadS u0)).length : Int) ≤ 9223372036854775807) ∧ ((isRow ((fheadS u0) ++ (sumR 0 (fheadS u0))) = true ∧ ((fheadS u0) ++ (sumR 0 (fheadS u0))).length ≤ 1000) ∧ ((((putbitsS ((fheadS u0) ++ (sumR 0 (fheadS u0)))).length : Int) + (([49, 49, 49, 49, 49, 49, 49, 49, 49, 49] : List UInt8).length : Int) ≤ 9223372036854775807) ∧ (K ((putbitsS ((fheadS u0) ++ (sumR 0 (fheadS u0)))) ++ ([49, 49, 49, 49, 49, 49, 49, 49, 49, 49] : List UInt8)))))))) ∧ ((!u0.Fast) = false → ((isRow (fheadS u0) = true ∧ (fheadS u0).length ≤ 1000) ∧ ((rfpre (fheadS u0) (putbitsS (fheadS u0)) (u0.Data.length : Int)) ∧ ((((putbitsS (fheadS u0)).length : Int) + ((rfastendS (fheadS u0) (putbitsS (fheadS u0)) (u0.Data.length : Int)).length : Int) ≤ 9223372036854775807) ∧ (((((putbitsS (fheadS u0)) ++ (rfastendS (fheadS u0) (putbitsS (fheadS u0)) (u0.Data.length : Int))).length : Int) + (([49, 49, 49, 49, 49, 49, 49, 49, 49, 49] : List UInt8).length : Int) ≤ 9223372036854775807) ∧ (K (((putbitsS (fheadS u0)) ++ (rfastendS (fheadS u0) (putbitsS (fheadS u0)) (u0.Data.length : Int))) ++ ([49, 49, 49, 49, 49, 49, 49, 49, 49, 49] : List UInt8)))))))))))
def wnoise_vc (u0 : Frame) (u1 : List Int) (K : (Frame × Int) → Prop) : Prop := (u0.Data.length ≤ 140737488355328 → (u1.length ≤ 140737488355328 → ((∀ x ∈ u0.Data, 0 ≤ x ∧ x ≤ 255) ∧ ((((BitsS u0).2 != 0) = true → (K ((⟨0, false, false, false, 0, []⟩ : Frame), (BitsS u0).2))) ∧ (((BitsS u0).2 != 0) = false → (((decide ((u1.length : Int) > 1000)) = true → (K ((⟨0, false, false, false, 0, []⟩ : Frame), 2))) ∧ ((decide ((u1.length : Int) > 1000)) = false → (((BitsS u0).1.length ≤ 140737488355328) ∧ (∃ inv99 : Int → (List Int) → Prop, ∃ mu99 : Int → (List Int) → Nat, inv99 0 (istr (BitsS u0).1) ∧ (∀ (x30 : Int) (zao82 : List Int), inv99 x30 zao82 → (((decide (x30 < (u1.length : Int))) = true → ((0 ≤ x30 ∧ x30 < (u1.length : Int)) ∧ (∀ q123, u1[x30.toNat]? = some q123 → ((((decide (q123 < 0)) || (decide (q123 ≥ (zao82.length : Int)))) = true → (K ((⟨0, false, false, false, 0, []⟩ : Frame), 3))) ∧ (((decide (q123 < 0)) || (decide (q123 ≥ (zao82.length : Int)))) = false → ((0 ≤ q123 ∧ q123 < (zao82.length : Int)) ∧ (∀ q174, zao82[q123.toNat]? = some q174 → ((0 ≤ q123 ∧ q123 < (zao82.length : Int)) ∧ (inv99 (w64 (x30 + 1)) (zao82.set q123.toNat (bXor .u8 q174 1)) ∧ mu99 (w64 (x30 + 1)) (zao82.set q123.toNat (bXor .u8 q174 1)) < mu99 x30 zao82))))))))) ∧ ((decide (x30 < (u1.length : Int))) = false → ((readS (bstr zao82)).1.Data.length ≤ 140737488355328 → (K ((readS (bstr zao82)).1, (readS (bstr zao82)).2.2)))))))))))))))
theorem wnoise_mono {u0 : Frame} {u1 : List Int} {K K1 : (Frame × Int) → Prop} (hK : ∀ r, K r → K1 r) (h : wnoise_vc u0 u1 K) : wnoise_vc u0 u1 K1 :=
 fun z0 => fun z1 => ⟨((h z0) z1).1, ⟨fun c3 => hK _ (((h z0) z1).2.1 c3), fun c3 => ⟨fun c4 => hK _ ((((h z0) z1).2.2 c3).1 c4), fun c4 => ⟨((((h z0) z1).2.2 c3).2 c4).1, (Exists.elim ((((h z0) z1).2.2 c3).2 c4).2 fun i6 e6 => Exists.elim e6 fun m6 g6 => ⟨i6, m6, g6.1, fun x30 zao82 z6 => ⟨fun c7 => ⟨((g6.2 x30 zao82 z6).1 c7).1, fun y9 z9 => ⟨fun c10 => hK _ ((((g6.2 x30 zao82 z6).1 c7).2 y9 z9).1 c10), fun c10 => ⟨((((g6.2 x30 zao82 z6).1 c7).2 y9 z9).2 c10).1, fun y12 z12 => ⟨(((((g6.2 x30 zao82 z6).1 c7).2 y9 z9).2 c10).2 y12 z12).1, (((((g6.2 x30 zao82 z6).1 c7).2 y9 z9).2 c10).2 y12 z12).2⟩⟩⟩⟩, fun c7 => fun z8 => hK _ (((g6.2 x30 zao82 z6).2 c7) z8)⟩⟩)⟩⟩⟩⟩
theorem lastB_bitF {p : List UInt8} (h : isRow p = true) : isBit (lastB p) = true := by
 unfold lastB
 rw [List.getLastD_eq_getLast?]
 cases e : p.getLast? with
 | none => rfl
 | some c => exact List.all_eq_true.1 h c (List.mem_of_getLast? e)
theorem fkind_is (f : Frame) : isKind (fkind f) = true := by
 unfold fkind
 cases f.Fast
 · rfl
 · cases h : decide ((f.Data.length : Int) ≤ 16) <;> simp [isKind]
theorem fastEnd_eqF {p : List UInt8} (hp : isRow p = true) (hl : p.length ≤ 900) (n : Nat) {kind : Int} (hk : isKind kind = true) : fastEnd p n kind = fixF 0 (lastB p) (cnt4 (p.length - n) ++ sumR kind (p ++ cnt4 (p.length - n))) := by
 obtain ⟨h1, h2⟩ := cnt4_ok (p.length - n)
 have h3 : csumS kind (p ++ cnt4 (p.length - n)) = (sumR kind (p ++ cnt4 (p.length - n)), 0) := csumS_row hk (by rw [List.length_append]; omega) (by rw [isRow_append, hp, h2]; rfl)
 have h4 := csumS_bound kind (p ++ cnt4 (p.length - n))
 rw [h3] at h4
 unfold fastEnd sfixedS
 rw [h3]
 dsimp only
 have hb := isBit_or (lastB_bitF hp)
 rw [if_neg (by rw [(bcheck_zero _).2 ⟨by rw [List.length_append]; have := h4.1; (try dsimp only at this); omega, by rw [isRow_append, h2]; exact h4.2⟩]; simp), if_neg (by rcases hb with e | e <;> rw [e] <;> decide)]
 dsimp only
 have : UInt8.ofNat ((lastB p).toNat : Int).toNat = lastB p := by rcases hb with e | e <;> rw [e] <;> rfl
 rw [this]
def coreF (f : Frame) : List UInt8 := if f.Fast = false then putF ⟨0, 0⟩ (fheadS f ++ sumR 0 (fheadS f)) else putF ⟨0, 0⟩ (fheadS f) ++ fastEnd (putF ⟨0, 0⟩ (fheadS f)) (fheadS f).length (fkind f)
theorem bits_core {f : Frame} (hc : fcheckfr f = 0) : BitsS f = (coreF f ++ tail10, 0) := by
 obtain ⟨h1, h2⟩ := fhead_short hc
 have hrow := fheadS_row f
 have hsr : isRow (sumR 0 (fheadS f)) = true := wr_row _ _
 have hsl : (sumR 0 (fheadS f)).length = 15 := wr_length _ _
 unfold BitsS coreF
 rw [if_neg (fun h => h hc)]
 cases hF : f.Fast with
 | false =>
  rw [if_pos rfl, if_pos rfl, sputS_row (by rw [isRow_append, hrow, hsr]; rfl) (by rw [List.length_append]; omega)]
 | true =>
  rw [if_neg (by simp), if_neg (by simp), sputS_row hrow (by omega)]
theorem core_short {f : Frame} (hc : fcheckfr f = 0) : (coreF f).length ≤ 750 ∧ isRow (coreF f) = true := by
 obtain ⟨h1, h2⟩ := fhead_short hc
 have hrow := fheadS_row f
 have hsr : isRow (sumR 0 (fheadS f)) = true := wr_row _ _
 have hsl : (sumR 0 (fheadS f)).length = 15 := wr_length _ _
 obtain ⟨p1, p2⟩ := head_put hc
 unfold coreF
 cases hF : f.Fast with
 | false =>
  rw [if_pos rfl]
  have := (put_len2 (fheadS f ++ sumR 0 (fheadS f)) ⟨0, 0⟩).1
  rw [List.length_append] at this
  have := h2 hF
  exact ⟨by omega, put_row _ (by rw [isRow_append, hrow, hsr]; rfl) _⟩
 | true =>
  rw [if_neg (by simp)]
  have hl := fastEnd_len (putF ⟨0, 0⟩ (fheadS f)) (fheadS f).length (fkind f)
  refine ⟨by rw [List.length_append]; omega, ?_⟩
  rw [isRow_append, p2, fastEnd_eqF p2 (by omega) _ (fkind_is f)]
  have hs := (cnt4_ok ((putF ⟨0, 0⟩ (fheadS f)).length - (fheadS f).length)).2
  have hs2 : ∀ (i : Int) (b : List UInt8), isRow (sumR i b) = true := fun i b => wr_row _ _
  have hfr : ∀ (b : List UInt8) (k : Nat) (a : UInt8), isRow b = true → isRow (fixF k a b) = true := by
   intro b
   induction b with
   | nil => intro k a _; rfl
   | cons c r ih =>
    intro k a h
    rw [isRow_cons, Bool.and_eq_true] at h
    rw [fixF]
    split
    · rw [isRow_cons, isRow_cons, isBit_flip, h.1, ih _ _ h.2]; rfl
    · rw [isRow_cons, h.1, ih _ _ h.2]; rfl
  rw [hfr _ _ _ (by rw [isRow_append, hs, hs2]; rfl)]
  rfl
theorem bits_ok {f : Frame} (h : (BitsS f).2 = 0) : fcheckfr f = 0 := by
 unfold BitsS at h
 by_cases e : fcheckfr f = 0
 · exact e
 · rw [if_pos e] at h
   exact absurd h e
theorem bits_row0 {f : Frame} (hc : fcheckfr f = 0) : (BitsS f).1.length ≤ 760 ∧ isRow (BitsS f).1 = true := by
 obtain ⟨c1, c2⟩ := core_short hc
 have e : (BitsS f).1 = coreF f ++ tail10 := by rw [bits_core hc]
 have : tail10.length = 10 := rfl
 rw [e, isRow_append, c2]
 exact ⟨by rw [List.length_append]; omega, rfl⟩
def rbitsofS (f : Frame) : List UInt8 := (BitsS f).1
theorem rbitsof_ok (f : Frame) (h : fcheckfr f = 0 ∧ ∀ x ∈ f.Data, 0 ≤ x ∧ x ≤ 255) : rbitsof_vc f (fun r => r = rbitsofS f) := by
 obtain ⟨h0, hd⟩ := h
 intro _
 obtain ⟨s1, s2⟩ := fhead_short h0
 have hrow := fheadS_row f
 have hsl : (sumR 0 (fheadS f)).length = 15 := wr_length _ _
 have hsr : isRow (sumR 0 (fheadS f)) = true := wr_row _ _
 refine ⟨⟨h0, hd⟩, fun h1 => ?_, fun h1 => ?_⟩
 · have hf : f.Fast = false := by simpa using h1
   have hrr : isRow (fheadS f ++ sumR 0 (fheadS f)) = true := by rw [isRow_append, hrow, hsr]; rfl
   have hpr : sputS (fheadS f ++ sumR 0 (fheadS f)) = (putF ⟨0, 0⟩ (fheadS f ++ sumR 0 (fheadS f)), 0) := sputS_row hrr (by simp; omega)
   have hS : BitsS f = ((sputS (fheadS f ++ sumR 0 (fheadS f))).1 ++ tail10, 0) := by unfold BitsS; rw [if_neg (fun hc => hc h0), if_pos hf]
   have hp3 := put_len2 (fheadS f ++ sumR 0 (fheadS f)) ⟨0, 0⟩
   rw [List.length_append] at hp3
   refine ⟨⟨by decide, hrow, by omega⟩, by omega, ⟨hrr, by rw [List.length_append]; omega⟩, ?_, ?_⟩
   · unfold putbitsS
     simp only [List.length_cons, List.length_nil]
     omega
   · unfold rbitsofS
     rw [hS, hpr]
     rfl
 · have hf : f.Fast = true := by simpa using h1
   obtain ⟨p1, p2⟩ := head_put h0
   have hp2 := put_len2 (fheadS f) ⟨0, 0⟩
   have hpos := fheadS_pos f
   have hpre : rfpre (fheadS f) (putbitsS (fheadS f)) (f.Data.length : Int) := ⟨p2, hp2.2, Nat.le_trans hpos hp2.2, by show (putF ⟨0, 0⟩ (fheadS f)).length ≤ 900; omega⟩
   have hpr : sputS (fheadS f) = (putF ⟨0, 0⟩ (fheadS f), 0) := sputS_row hrow (by omega)
   have hS : BitsS f = (((sputS (fheadS f)).1 ++ fastEnd (sputS (fheadS f)).1 (fheadS f).length (fkind f)) ++ tail10, 0) := by unfold BitsS; rw [if_neg (fun hc => hc h0), if_neg (by rw [hf]; simp)]
   have hk : fkind f = rfkind (f.Data.length : Int) := by
    unfold fkind rfkind
    rw [hf]
    by_cases hn : (f.Data.length : Int) ≤ 16
    · rw [decide_eq_true hn, if_neg (by omega)]; rfl
    · rw [decide_eq_false hn, if_pos (by omega)]; rfl
   have he := fastEnd_eq hpre hk
   have hel := fastEnd_len (putbitsS (fheadS f)) (fheadS f).length (fkind f)
   rw [he] at hel
   have hpl : (putbitsS (fheadS f)).length ≤ 700 := p1
   refine ⟨⟨hrow, by omega⟩, hpre, by omega, by simp only [List.length_append, List.length_cons, List.length_nil]; omega, ?_⟩
   unfold rbitsofS
   rw [hS, hpr]
   dsimp only
   have he2 : fastEnd (putF ⟨0, 0⟩ (fheadS f)) (fheadS f).length (fkind f) = rfastendS (fheadS f) (putbitsS (fheadS f)) (f.Data.length : Int) := he
   rw [he2]
   rfl
theorem bits_code (f : Frame) : (BitsS f).2 = fcheckfr f := by
 unfold BitsS
 by_cases h : fcheckfr f = 0
 · rw [if_neg (fun k => k h), h]; split <;> rfl
 · rw [if_pos h]
def fl (row : List UInt8) (i : Nat) : List UInt8 := row.set i (flip (row[i]?.getD 48))
def flips : List Int → List UInt8 → Option (List UInt8)
 | [], row => some row
 | i :: r, row => if 0 ≤ i ∧ i < (row.length : Int) then flips r (fl row i.toNat) else none
def noiseS (f : Frame) (l : List Int) : Frame × Int :=
 if fcheckfr f ≠ 0 then (f0, fcheckfr f) else if 1000 < l.length then (f0, 2) else
 match flips l (BitsS f).1 with
 | none => (f0, 3)
 | some row => ((readS row).1, (readS row).2.2)
theorem fl_row {row : List UInt8} (h : isRow row = true) (i : Nat) : isRow (fl row i) = true :=
 List.all_eq_true.2 fun c hc => by
  rcases List.mem_or_eq_of_mem_set hc with h1 | h1
  · exact List.all_eq_true.1 h c h1
  · rw [h1]; exact isBit_flip _
theorem fl_len (row : List UInt8) (i : Nat) : (fl row i).length = row.length := List.length_set
theorem drop_at {l : List Int} {k : Nat} {q : Int} (h : l[k]? = some q) : l.drop k = q :: l.drop (k + 1) := by
 obtain ⟨h1, h2⟩ := List.getElem?_eq_some_iff.1 h
 rw [List.drop_eq_getElem_cons h1, h2]
theorem flip_xor (c : UInt8) (h : isBit c = true) : bXor .u8 (c.toNat : Int) 1 = ((flip c).toNat : Int) := by
 have h2 : c = 48 ∨ c = 49 := by simpa [isBit] using h
 rcases h2 with rfl | rfl <;> decide
theorem wnoise_ok (f : Frame) (l : List Int) (hd : ∀ x ∈ f.Data, 0 ≤ x ∧ x ≤ 255) : wnoise_vc f l (fun r => r = noiseS f l) := by
 intro _ _
 refine ⟨hd, fun h => ?_, fun h => ⟨fun h2 => ?_, fun h2 => ⟨?_, ?_⟩⟩⟩
 · have h : (BitsS f).2 ≠ 0 := by simpa using h
   rw [bits_code] at h
   rw [bits_code]
   unfold noiseS
   rw [if_pos h]
   rfl
 · have h : (BitsS f).2 = 0 := by simpa using h
   rw [bits_code] at h
   have h2 : 1000 < l.length := by have : (1000 : Int) < (l.length : Int) := by simpa using h2
                                   omega
   unfold noiseS
   rw [if_neg (fun k => k h), if_pos h2]
   rfl
 · have h : (BitsS f).2 = 0 := by simpa using h
   rw [bits_code] at h
   have := (bits_row0 h).1
   omega
 · have h : (BitsS f).2 = 0 := by simpa using h
   rw [bits_code] at h
   obtain ⟨r1, r2⟩ := bits_row0 h
   have h2 : ¬ 1000 < l.length := by have : ¬ (1000 : Int) < (l.length : Int) := by simpa using h2
                                     omega
   have hN : noiseS f l = match flips l (BitsS f).1 with
     | none => (f0, 3)
     | some row => ((readS row).1, (readS row).2.2) := by
    unfold noiseS
    rw [if_neg (fun k => k h), if_neg h2]
    try (cases flips l (BitsS f).1 <;> rfl)
   refine ⟨fun x z => ∃ (k : Nat) (row : List UInt8), x = k ∧ k ≤ l.length ∧ z = istr row ∧ isRow row = true ∧ row.length ≤ 760 ∧ flips l (BitsS f).1 = flips (l.drop k) row, fun x _ => l.length - x.toNat, ⟨0, _, rfl, by omega, rfl, r2, r1, rfl⟩, ?_⟩
   rintro x z ⟨k, row, rfl, hk, rfl, hr, hrl, hfl⟩
   have hzl : (istr row).length = row.length := List.length_map ..
   refine ⟨fun h3 => ?_, fun h3 => ?_⟩
   · have h3 : k < l.length := by have : (k : Int) < (l.length : Int) := by simpa using h3
                                  omega
     refine ⟨by omega, fun q hq => ?_⟩
     rw [Int.toNat_natCast] at hq
     rw [drop_at hq, flips] at hfl
     refine ⟨fun h4 => ?_, fun h4 => ?_⟩
     · have h4 : q < 0 ∨ (row.length : Int) ≤ q := by rw [hzl] at h4; simpa using h4
       rw [if_neg (by omega)] at hfl
       rw [hN, hfl]
       rfl
     · have h4 : 0 ≤ q ∧ q < (row.length : Int) := by rw [hzl] at h4; simpa using h4
       rw [if_pos h4] at hfl
       refine ⟨by omega, fun c hc => ⟨by omega, ⟨k + 1, fl row q.toNat, by rw [w64_eq _ (by omega)]; omega, by omega, ?_, fl_row hr _, by rw [fl_len]; exact hrl, hfl⟩, ?_⟩⟩
       · obtain ⟨d, hdd⟩ : ∃ d, row[q.toNat]? = some d := ⟨_, List.getElem?_eq_getElem (by omega)⟩
         have : c = (d.toNat : Int) := by
          unfold istr at hc
          rw [List.getElem?_map, hdd] at hc
          exact (Option.some_inj.1 hc).symm
         subst this
         rw [flip_xor d (List.all_eq_true.1 hr d (List.mem_of_getElem? hdd))]
         unfold istr fl
         rw [hdd, List.map_set]
         rfl
       · dsimp only
         rw [w64_eq _ (by omega)]; omega
   · have h3 : k = l.length := by have : ¬ (k : Int) < (l.length : Int) := by simpa using h3
                                  omega
     intro _
     rw [h3, List.drop_length, flips] at hfl
     have hb : bstr (istr row) = row := bstr_ints row
     rw [hb, hN, hfl]
end Go.Proofs.YtmnlahbngbigdaaGreatDoor
