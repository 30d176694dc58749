/- What must hold so that each function ends well: pure predicates, made by program. -/
import Derived.Test.YtmbdcehmeiiaoaaDoorPR
set_option linter.unusedVariables false
set_option linter.unusedSimpArgs false
namespace Go.Proofs.YtmbdcehmeiiaoaaDoor
open Go.Sy Go.RowKit
def rname_vc (u0 : Frame) (K : (List UInt8) → Prop) : Prop :=
  (u0.Data.length ≤ 140737488355328 →
    ((u0.Remote = true →
      ((u0.Long = true →
        ((u0.ID ≤ 9223372036854775807 ∧ (29 : Int) ≤ 1000000) ∧
        ((0 ≤ (11 : Int) ∧ (11 : Int) ≤ (((rrowS u0.ID 29).1).length : Int)) ∧
        ((((((rrowS u0.ID 29).1).take (11 : Int).toNat).length : Int) + (([49, 49] : List UInt8).length : Int) ≤ 9223372036854775807) ∧
        ((0 ≤ (11 : Int) ∧ (11 : Int) ≤ (((rrowS u0.ID 29).1).length : Int)) ∧
        (((((((rrowS u0.ID 29).1).take (11 : Int).toNat) ++ ([49, 49] : List UInt8)).length : Int) + ((((rrowS u0.ID 29).1).drop (11 : Int).toNat).length : Int) ≤ 9223372036854775807) ∧
        ((((((((rrowS u0.ID 29).1).take (11 : Int).toNat) ++ ([49, 49] : List UInt8)) ++ (((rrowS u0.ID 29).1).drop (11 : Int).toNat)).length : Int) + (([49] : List UInt8).length : Int) ≤ 9223372036854775807) ∧
        (K ((((((rrowS u0.ID 29).1).take (11 : Int).toNat) ++ ([49, 49] : List UInt8)) ++ (((rrowS u0.ID 29).1).drop (11 : Int).toNat)) ++ ([49] : List UInt8)))))))))) ∧
      (u0.Long = false →
        ((u0.ID ≤ 9223372036854775807 ∧ (11 : Int) ≤ 1000000) ∧
        (((((rrowS u0.ID 11).1).length : Int) + (([49] : List UInt8).length : Int) ≤ 9223372036854775807) ∧
        ((((((rrowS u0.ID 11).1) ++ ([49] : List UInt8)).length : Int) + (([48] : List UInt8).length : Int) ≤ 9223372036854775807) ∧
        (K ((((rrowS u0.ID 11).1) ++ ([49] : List UInt8)) ++ ([48] : List UInt8))))))))) ∧
    (u0.Remote = false →
      ((u0.Long = true →
        ((u0.ID ≤ 9223372036854775807 ∧ (29 : Int) ≤ 1000000) ∧
        ((0 ≤ (11 : Int) ∧ (11 : Int) ≤ (((rrowS u0.ID 29).1).length : Int)) ∧
        ((((((rrowS u0.ID 29).1).take (11 : Int).toNat).length : Int) + (([49, 49] : List UInt8).length : Int) ≤ 9223372036854775807) ∧
        ((0 ≤ (11 : Int) ∧ (11 : Int) ≤ (((rrowS u0.ID 29).1).length : Int)) ∧
        (((((((rrowS u0.ID 29).1).take (11 : Int).toNat) ++ ([49, 49] : List UInt8)).length : Int) + ((((rrowS u0.ID 29).1).drop (11 : Int).toNat).length : Int) ≤ 9223372036854775807) ∧
        ((((((((rrowS u0.ID 29).1).take (11 : Int).toNat) ++ ([49, 49] : List UInt8)) ++ (((rrowS u0.ID 29).1).drop (11 : Int).toNat)).length : Int) + (([48] : List UInt8).length : Int) ≤ 9223372036854775807) ∧
        (K ((((((rrowS u0.ID 29).1).take (11 : Int).toNat) ++ ([49, 49] : List UInt8)) ++ (((rrowS u0.ID 29).1).drop (11 : Int).toNat)) ++ ([48] : List UInt8)))))))))) ∧
      (u0.Long = false →
        ((u0.ID ≤ 9223372036854775807 ∧ (11 : Int) ≤ 1000000) ∧
        (((((rrowS u0.ID 11).1).length : Int) + (([48] : List UInt8).length : Int) ≤ 9223372036854775807) ∧
        ((((((rrowS u0.ID 11).1) ++ ([48] : List UInt8)).length : Int) + (([48] : List UInt8).length : Int) ≤ 9223372036854775807) ∧
        (K ((((rrowS u0.ID 11).1) ++ ([48] : List UInt8)) ++ ([48] : List UInt8)))))))))))

def rsizes_vc  (K : (List Int) → Prop) : Prop :=
  (K ([0, 1, 2, 3, 4, 5, 6, 7, 8, 12, 16, 20, 24, 32, 48, 64] : List Int))
def rsizes  : (List Int) :=
  ([0, 1, 2, 3, 4, 5, 6, 7, 8, 12, 16, 20, 24, 32, 48, 64] : List Int)
theorem rsizes_ok  : rsizes_vc  (fun r => r = rsizes ) := (by rfl)

def rcheckfr_vc (u0 : Frame) (K : Int → Prop) : Prop :=
  (u0.Data.length ≤ 140737488355328 →
    ((u0.Long = true →
      ((((decide (u0.ID < 0)) || (decide (u0.ID > 536870911))) = true →
        (K 3)) ∧
      (((decide (u0.ID < 0)) || (decide (u0.ID > 536870911))) = false →
        (((u0.Remote && (u0.Fast || ((u0.Data.length : Int) != 0))) = true →
          (K 4)) ∧
        ((u0.Remote && (u0.Fast || ((u0.Data.length : Int) != 0))) = false →
          (((((decide (u0.Size < 0)) || (decide (u0.Size > 8))) || ((decide (u0.Size > 0)) && (!u0.Remote))) = true →
            (K 3)) ∧
          ((((decide (u0.Size < 0)) || (decide (u0.Size > 8))) || ((decide (u0.Size > 0)) && (!u0.Remote))) = false →
            ((((decide ((u0.Data.length : Int) > 64)) || ((decide ((u0.Data.length : Int) > 8)) && (!u0.Fast))) = true →
              (K 2)) ∧
            (((decide ((u0.Data.length : Int) > 64)) || ((decide ((u0.Data.length : Int) > 8)) && (!u0.Fast))) = false →
              (((!(scontainsS rsizes (u0.Data.length : Int))) = true →
                (K 4)) ∧
              ((!(scontainsS rsizes (u0.Data.length : Int))) = false →
                (K 0)))))))))))) ∧
    (u0.Long = false →
      ((((decide (u0.ID < 0)) || (decide (u0.ID > 2047))) = true →
        (K 3)) ∧
      (((decide (u0.ID < 0)) || (decide (u0.ID > 2047))) = false →
        (((u0.Remote && (u0.Fast || ((u0.Data.length : Int) != 0))) = true →
          (K 4)) ∧
        ((u0.Remote && (u0.Fast || ((u0.Data.length : Int) != 0))) = false →
          (((((decide (u0.Size < 0)) || (decide (u0.Size > 8))) || ((decide (u0.Size > 0)) && (!u0.Remote))) = true →
            (K 3)) ∧
          ((((decide (u0.Size < 0)) || (decide (u0.Size > 8))) || ((decide (u0.Size > 0)) && (!u0.Remote))) = false →
            ((((decide ((u0.Data.length : Int) > 64)) || ((decide ((u0.Data.length : Int) > 8)) && (!u0.Fast))) = true →
              (K 2)) ∧
            (((decide ((u0.Data.length : Int) > 64)) || ((decide ((u0.Data.length : Int) > 8)) && (!u0.Fast))) = false →
              (((!(scontainsS rsizes (u0.Data.length : Int))) = true →
                (K 4)) ∧
              ((!(scontainsS rsizes (u0.Data.length : Int))) = false →
                (K 0))))))))))))))

def smin_vc (u0 : List (List UInt8)) (K : (List UInt8) → Prop) : Prop :=
  (u0.length ≤ 140737488355328 →
    (((decide ((u0.length : Int) < 1)) = true →
      False) ∧
    ((decide ((u0.length : Int) < 1)) = false →
      ((0 ≤ (0 : Int) ∧ (0 : Int) < (u0.length : Int)) ∧
      (∀ q26, u0[(0 : Int).toNat]? = some q26 →
      (∃ inv41 : (List UInt8) → Int → Prop, ∃ mu41 : (List UInt8) → Int → Nat, inv41 q26 1 ∧
      (∀ (x3 : List UInt8) (x4 : Int), inv41 x3 x4 →
      (((decide (x4 < (u0.length : Int))) = true →
        ((0 ≤ x4 ∧ x4 < (u0.length : Int)) ∧
        (∀ q77, u0[x4.toNat]? = some q77 →
        (inv41 (smin2 x3 q77) (w64 (x4 + 1)) ∧ mu41 (smin2 x3 q77) (w64 (x4 + 1)) < mu41 x3 x4)))) ∧
      ((decide (x4 < (u0.length : Int))) = false →
        (K x3))))))))))

def ssindex_vc (u0 : List (List UInt8)) (u1 : List UInt8) (K : Int → Prop) : Prop :=
  (u0.length ≤ 140737488355328 →
    (∃ inv16 : Int → Prop, ∃ mu16 : Int → Nat, inv16 0 ∧
    (∀ (x8 : Int), inv16 x8 →
    (((decide (x8 < (u0.length : Int))) = true →
      ((0 ≤ x8 ∧ x8 < (u0.length : Int)) ∧
      (∀ q51, u0[x8.toNat]? = some q51 →
      (((u1 == q51) = true →
        (K x8)) ∧
      ((u1 == q51) = false →
        (inv16 (w64 (x8 + 1)) ∧ mu16 (w64 (x8 + 1)) < mu16 x8)))))) ∧
    ((decide (x8 < (u0.length : Int))) = false →
      (K (-1)))))))

/-! Pure proofs: no program in sight. -/
theorem rname_ok (f : Frame) (h : fcheckfr f = 0) : rname_vc f (fun r => r = fnameS f) := by
  obtain ⟨c1, c2, c3, c4, c5, c6, c7, c8, c9, c10⟩ := fcheckfr_zero h
  intro _
  have p29 : (2 : Nat) ^ 29 = 536870912 := rfl
  have p11 : (2 : Nat) ^ 11 = 2048 := rfl
  have hl : rrowS f.ID 29 = (wr 29 f.ID.toNat, true) := rrow_wr c1 (by decide) (by show _ < 2 ^ 29; omega)
  have hs : f.Long = false → rrowS f.ID 11 = (wr 11 f.ID.toNat, true) := fun e => rrow_wr c1 (by decide) (by have := c3 e; show _ < 2 ^ 11; omega)
  have hsp : wr 29 f.ID.toNat = wr 11 (f.ID.toNat / 2 ^ 18) ++ wr 18 f.ID.toNat := wr_split f.ID.toNat 18 11
  have e11 : (11 : Int).toNat = 11 := rfl
  have ht : (wr 29 f.ID.toNat).take 11 = wr 11 (f.ID.toNat / 2 ^ 18) := by rw [hsp]; exact List.take_left' (wr_length _ _)
  have hdr : (wr 29 f.ID.toNat).drop 11 = wr 18 f.ID.toNat := by rw [hsp]; exact List.drop_left' (wr_length _ _)
  rw [hl]
  dsimp only
  rw [e11, ht, hdr]
  refine ⟨fun hR => ⟨fun hL => ?_, fun hL => ?_⟩, fun hR => ⟨fun hL => ?_, fun hL => ?_⟩⟩
  · refine ⟨by omega, by rw [wr_length]; omega, by rw [wr_length]; simp, by rw [wr_length]; omega, by simp [wr_length], by simp [wr_length], ?_⟩
    unfold fnameS
    rw [if_neg (by rw [hL]; simp), hR]
    rfl
  · rw [hs hL]
    refine ⟨by omega, by simp [wr_length], by simp [wr_length], ?_⟩
    unfold fnameS
    rw [if_pos hL, hR]
    rfl
  · refine ⟨by omega, by rw [wr_length]; omega, by rw [wr_length]; simp, by rw [wr_length]; omega, by simp [wr_length], by simp [wr_length], ?_⟩
    unfold fnameS
    rw [if_neg (by rw [hL]; simp), hR]
    rfl
  · rw [hs hL]
    refine ⟨by omega, by simp [wr_length], by simp [wr_length], ?_⟩
    unfold fnameS
    rw [if_pos hL, hR]
    rfl
theorem fcheck_eq (f : Frame) (c1 c2 c3 c4 : Bool) (h1 : c1 = (((decide (f.ID < 0)) || ((!f.Long) && (decide (f.ID > 2047)))) || (decide (f.ID > 536870911)))) (h2 : c2 = (f.Remote && (f.Fast || (decide ((f.Data.length : Int) > 0)))))
    (h3 : c3 = (((decide (f.Size < 0)) || (decide (f.Size > 8))) || ((!f.Remote) && (f.Size != 0)))) (h4 : c4 = ((decide ((f.Data.length : Int) > 64)) || ((!f.Fast) && (decide ((f.Data.length : Int) > 8))))) :
    fcheckfr f = bif c1 then 3 else bif c2 then 4 else bif c3 then 3 else bif c4 then 2 else bif !(scontainsS rsizes (f.Data.length : Int)) then 4 else 0 := by
  subst h1 h2 h3 h4
  rfl
theorem rcheckfr_ok (f : Frame) : rcheckfr_vc f (fun r => r = fcheckfr f) := by
  intro _
  have e2 : (f.Remote && (f.Fast || ((f.Data.length : Int) != 0))) = (f.Remote && (f.Fast || (decide ((f.Data.length : Int) > 0)))) := by
    congr 2
    rw [Bool.eq_iff_iff, bne_iff_ne, decide_eq_true_eq]
    omega
  have e3 : (((decide (f.Size < 0)) || (decide (f.Size > 8))) || ((decide (f.Size > 0)) && (!f.Remote))) = (((decide (f.Size < 0)) || (decide (f.Size > 8))) || ((!f.Remote) && (f.Size != 0))) := by
    cases f.Remote
    · rw [Bool.eq_iff_iff]
      simp
      omega
    · simp
  have e4 : ((decide ((f.Data.length : Int) > 64)) || ((decide ((f.Data.length : Int) > 8)) && (!f.Fast))) = ((decide ((f.Data.length : Int) > 64)) || ((!f.Fast) && (decide ((f.Data.length : Int) > 8)))) := by
    rw [Bool.and_comm (decide ((f.Data.length : Int) > 8))]
  refine ⟨fun hL => ?_, fun hL => ?_⟩
  · have e1 : ((decide (f.ID < 0)) || (decide (f.ID > 536870911))) = (((decide (f.ID < 0)) || ((!f.Long) && (decide (f.ID > 2047)))) || (decide (f.ID > 536870911))) := by rw [hL]; simp
    have e := fcheck_eq f _ _ _ _ e1 e2 e3 e4
    rw [e]
    refine ⟨fun g1 => by rw [g1]; rfl, fun g1 => ⟨fun g2 => by rw [g1, g2]; rfl, fun g2 => ⟨fun g3 => by rw [g1, g2, g3]; rfl, fun g3 => ⟨fun g4 => by rw [g1, g2, g3, g4]; rfl, fun g4 => ⟨fun g5 => by rw [g1, g2, g3, g4, g5]; rfl, fun g5 => by rw [g1, g2, g3, g4, g5]; rfl⟩⟩⟩⟩⟩
  · have e1 : ((decide (f.ID < 0)) || (decide (f.ID > 2047))) = (((decide (f.ID < 0)) || ((!f.Long) && (decide (f.ID > 2047)))) || (decide (f.ID > 536870911))) := by
      rw [hL, Bool.eq_iff_iff]
      simp
      omega
    have e := fcheck_eq f _ _ _ _ e1 e2 e3 e4
    rw [e]
    refine ⟨fun g1 => by rw [g1]; rfl, fun g1 => ⟨fun g2 => by rw [g1, g2]; rfl, fun g2 => ⟨fun g3 => by rw [g1, g2, g3]; rfl, fun g3 => ⟨fun g4 => by rw [g1, g2, g3, g4]; rfl, fun g4 => ⟨fun g5 => by rw [g1, g2, g3, g4, g5]; rfl, fun g5 => by rw [g1, g2, g3, g4, g5]; rfl⟩⟩⟩⟩⟩
theorem smin2_lex (x y : List UInt8) : smin2 x y = if lexle x y = true then x else y := by
  have e : strc .leq x y = lexle x y := by
    show (Op.bytesLess x y || x == y) = lexle x y
    rw [bless_lexle]
    cases h : lexle y x
    · rw [(lexle_total x y).resolve_right (by rw [h]; simp)]; rfl
    · cases h2 : lexle x y
      · have : (x == y) = false := by
          rw [beq_eq_false_iff_ne]
          rintro rfl
          rw [lexle_refl] at h2
          cases h2
        rw [this]; rfl
      · rw [lexle_antisymm _ _ h2 h]
        simp
  unfold smin2
  rw [e]
theorem smin_ok (l : List (List UInt8)) (h : 0 < l.length) : smin_vc l (fun r => r = minR l) := by
  intro hlen
  refine ⟨fun h1 => by have := of_decide_eq_true h1; omega, fun _ => ⟨by omega, fun q hq => ?_⟩⟩
  have hq : l[0]? = some q := hq
  refine ⟨fun x i => ∃ k : Nat, i = k ∧ 1 ≤ k ∧ k ≤ l.length ∧ x ∈ l.take k ∧ ∀ r ∈ l.take k, lexle x r = true, fun _ i => l.length - i.toNat, ⟨1, rfl, by omega, by omega, ?_, ?_⟩, ?_⟩
  · have := take_next l 0 q hq
    rw [this]; simp
  · have := take_next l 0 q hq
    rw [this]
    intro r hr
    have : r = q := by simpa using hr
    rw [this]; exact lexle_refl q
  · rintro x _ ⟨k, rfl, h1, hk, hm, hx⟩
    refine ⟨fun h2 => ?_, fun h2 => ?_⟩
    · have hkl : k < l.length := by have := of_decide_eq_true h2; omega
      refine ⟨by omega, fun p hp => ?_⟩
      rw [Int.toNat_natCast] at hp
      rw [w64_succ k (by omega), smin2_lex, ]
      refine ⟨⟨k + 1, rfl, by omega, by omega, ?_, ?_⟩, by (try dsimp only); omega⟩
      · rw [take_next l k p hp]
        split
        · exact List.mem_append_left _ hm
        · simp
      · rw [take_next l k p hp]
        intro r hr
        split
        · rename_i h3
          rcases List.mem_append.1 hr with hr | hr
          · exact hx r hr
          · rw [List.mem_singleton.1 hr]; exact h3
        · rename_i h3
          have h4 := (lexle_total x p).resolve_left h3
          rcases List.mem_append.1 hr with hr | hr
          · exact lexle_trans _ _ _ h4 (hx r hr)
          · rw [List.mem_singleton.1 hr]; exact lexle_refl p
    · have hkl : k = l.length := by have := of_decide_eq_false h2; omega
      subst hkl
      rw [List.take_length] at hm hx
      exact (minR_unique hm hx).symm
theorem ssindex_ok (l : List (List UInt8)) (x : List UInt8) : ssindex_vc l x (fun r => r = sidx (fun q => x == q) l) := by
  intro hl
  refine ⟨fun i => ∃ k : Nat, i = k ∧ k ≤ l.length ∧ ∀ j y, j < k → l[j]? = some y → (x == y) = false, fun i => l.length - i.toNat, ⟨0, rfl, by omega, fun j _ hj => absurd hj (Nat.not_lt_zero _)⟩, ?_⟩
  rintro _ ⟨k, rfl, hk, hj⟩
  refine ⟨fun h => ?_, fun h => ?_⟩
  · have hkl : k < l.length := by have := of_decide_eq_true h; omega
    refine ⟨by omega, fun q hq => ?_⟩
    rw [Int.toNat_natCast] at hq
    refine ⟨fun h1 => (sidx_at _ l k q hq h1 hj).symm, fun h1 => ?_⟩
    rw [w64_succ k (by omega)]
    refine ⟨⟨k + 1, rfl, by omega, fun j y hj1 hy => ?_⟩, by (try dsimp only); omega⟩
    rcases Nat.lt_or_ge j k with h2 | h2
    · exact hj j y h2 hy
    · have : j = k := by omega
      subst this
      rw [hq] at hy
      cases hy
      exact h1
  · have hkl : k = l.length := by have := of_decide_eq_false h; omega
    exact (sidx_none _ l fun j y hy => hj j y (by have := (List.getElem?_eq_some_iff.1 hy).1; omega) hy).symm
def ssidxS (l : List (List UInt8)) (x : List UInt8) : Int := sidx (fun q => x == q) l
theorem ssindex_ok2 (l : List (List UInt8)) (x : List UInt8) : ssindex_vc l x (fun r => r = ssidxS l x) := ssindex_ok l x

end Go.Proofs.YtmbdcehmeiiaoaaDoor
