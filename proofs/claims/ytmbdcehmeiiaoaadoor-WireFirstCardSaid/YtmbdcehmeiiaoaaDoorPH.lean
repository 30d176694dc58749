/- What must hold so that each function ends well: pure predicates, made by program. -/
import Derived.Test.YtmbdcehmeiiaoaaDoorPG
set_option linter.unusedVariables false
set_option linter.unusedSimpArgs false
namespace Go.Proofs.YtmbdcehmeiiaoaaDoor
open Go.Sy Go.RowKit
def LNames_vc (u0 : Frame) (u1 : Frame) (K : Bool → Prop) : Prop :=
  (u0.Data.length ≤ 140737488355328 →
    (u1.Data.length ≤ 140737488355328 →
    ((((((fNameS u0).2) != 0) || (((fNameS u1).2) != 0)) = true →
      (K true)) ∧
    (((((fNameS u0).2) != 0) || (((fNameS u1).2) != 0)) = false →
      (((u0.Long == u1.Long) = true →
        (K (((((fNameS u0).1) == ((fNameS u1).1)) == ((u0.ID == u1.ID) && (u0.Remote == u1.Remote))) && ((strc .gtr ((fNameS u0).1) ((fNameS u1).1)) || (decide (u0.ID ≤ u1.ID)))))) ∧
      ((u0.Long == u1.Long) = false →
        (K (((((fNameS u0).1) != ((fNameS u1).1)) && (!(hasprefix ((fNameS u0).1) ((fNameS u1).1)))) && (!(hasprefix ((fNameS u1).1) ((fNameS u0).1)))))))))))

def LApart_vc (u0 : Frame) (u1 : Frame) (K : Bool → Prop) : Prop :=
  (u0.Data.length ≤ 140737488355328 →
    (u1.Data.length ≤ 140737488355328 →
    ((∀ x ∈ u0.Data, 0 ≤ x ∧ x ≤ 255) ∧
    ((∀ x ∈ u1.Data, 0 ≤ x ∧ x ≤ 255) ∧
    ((((((BitsS u0).2) != 0) || (((BitsS u1).2) != 0)) = true →
      (K true)) ∧
    (((((BitsS u0).2) != 0) || (((BitsS u1).2) != 0)) = false →
      (K (((hasprefix ((BitsS u0).1) ((BitsS u1).1)) == (sameS u0 u1)) && ((((BitsS u0).1) == ((BitsS u1).1)) == (sameS u0 u1))))))))))

def LHeard_vc (u0 : Frame) (K : Bool → Prop) : Prop :=
  (u0.Data.length ≤ 140737488355328 →
    ((∀ x ∈ u0.Data, 0 ≤ x ∧ x ≤ 255) ∧
    ((((((BitsS u0).2) != 0) || (decide ((((BitsS u0).1).length : Int) < 10))) = true →
      (K true)) ∧
    (((((BitsS u0).2) != 0) || (decide ((((BitsS u0).1).length : Int) < 10))) = false →
      ((0 ≤ w64 ((((BitsS u0).1).length : Int) - 9) ∧ w64 ((((BitsS u0).1).length : Int) - 9) ≤ (((BitsS u0).1).length : Int)) ∧
      ((((((BitsS u0).1).take (w64 ((((BitsS u0).1).length : Int) - 9)).toNat).length : Int) + (([48] : List UInt8).length : Int) ≤ 9223372036854775807) ∧
      ((0 ≤ w64 ((w64 ((((BitsS u0).1).length : Int) - 9)) + 1) ∧ w64 ((w64 ((((BitsS u0).1).length : Int) - 9)) + 1) ≤ (((BitsS u0).1).length : Int)) ∧
      (((((((BitsS u0).1).take (w64 ((((BitsS u0).1).length : Int) - 9)).toNat) ++ ([48] : List UInt8)).length : Int) + ((((BitsS u0).1).drop (w64 ((w64 ((((BitsS u0).1).length : Int) - 9)) + 1)).toNat).length : Int) ≤ 9223372036854775807) ∧
      (K (((((readS (((((BitsS u0).1).take (w64 ((((BitsS u0).1).length : Int) - 9)).toNat) ++ ([48] : List UInt8)) ++ (((BitsS u0).1).drop (w64 ((w64 ((((BitsS u0).1).length : Int) - 9)) + 1)).toNat))).2.2) == 0) && (((readS (((((BitsS u0).1).take (w64 ((((BitsS u0).1).length : Int) - 9)).toNat) ++ ([48] : List UInt8)) ++ (((BitsS u0).1).drop (w64 ((w64 ((((BitsS u0).1).length : Int) - 9)) + 1)).toNat))).2.1) == (((BitsS u0).1).length : Int))) && (sameS u0 ((readS (((((BitsS u0).1).take (w64 ((((BitsS u0).1).length : Int) - 9)).toNat) ++ ([48] : List UInt8)) ++ (((BitsS u0).1).drop (w64 ((w64 ((((BitsS u0).1).length : Int) - 9)) + 1)).toNat))).1))))))))))))

def LBack_vc (u0 : Frame) (u1 : List UInt8) (K : Bool → Prop) : Prop :=
  (u0.Data.length ≤ 140737488355328 →
    ((∀ x ∈ u0.Data, 0 ≤ x ∧ x ≤ 255) ∧
    (((((((BitsS u0).2) != 0) || ((bcheckS u1) != 0)) || (decide ((w64 ((((BitsS u0).1).length : Int) + (u1.length : Int))) > 1000))) = true →
      (K true)) ∧
    ((((((BitsS u0).2) != 0) || ((bcheckS u1) != 0)) || (decide ((w64 ((((BitsS u0).1).length : Int) + (u1.length : Int))) > 1000))) = false →
      (((((BitsS u0).1).length : Int) + (u1.length : Int) ≤ 9223372036854775807) ∧
      ((((readS (((BitsS u0).1) ++ u1)).1).Data).length ≤ 140737488355328 →
      (K (((((((readS (((BitsS u0).1) ++ u1)).2.2) == 0) && (((flongestS u0.Long u0.Fast (u0.Data.length : Int)).2) == 0)) && (((readS (((BitsS u0).1) ++ u1)).2.1) == (((BitsS u0).1).length : Int))) && (sameS u0 ((readS (((BitsS u0).1) ++ u1)).1))) && (decide ((((BitsS u0).1).length : Int) ≤ ((flongestS u0.Long u0.Fast (u0.Data.length : Int)).1)))))))))))

/-! Pure proofs: no program in sight. -/
/-- Rows as long as one another are as their numbers. -/
theorem bless_val : ∀ (a b : List UInt8), a.length = b.length → isRow a = true → isRow b = true → (Op.bytesLess a b = true ↔ val a < val b) := by
  intro a
  induction a with
  | nil =>
    intro b hl _ _
    cases b with
    | nil => simp [Op.bytesLess, val]
    | cons y b => simp at hl
  | cons x a ih =>
    intro b hl ha hb
    cases b with
    | nil => simp at hl
    | cons y b =>
      have hl : a.length = b.length := by simpa using hl
      rw [isRow_cons, Bool.and_eq_true] at ha hb
      have h1 := ih b hl ha.2 hb.2
      have h2 := val_lt ha.2
      have h3 := val_lt hb.2
      rw [← hl] at h3
      have p := Nat.two_pow_pos a.length
      rw [Op.bytesLess, val, val, ← hl]
      rcases isBit_or ha.1 with rfl | rfl <;> rcases isBit_or hb.1 with rfl | rfl
      · simpa using h1
      · have e : ((48 : UInt8).toNat - 48) = 0 := rfl
        have e2 : ((49 : UInt8).toNat - 48) = 1 := rfl
        rw [e, e2]
        simp
        omega
      · have e : ((48 : UInt8).toNat - 48) = 0 := rfl
        have e2 : ((49 : UInt8).toNat - 48) = 1 := rfl
        rw [e, e2]
        simp
        omega
      · simpa using h1
theorem row_inj {a b : List UInt8} (hl : a.length = b.length) (ha : isRow a = true) (hb : isRow b = true) : a = b ↔ val a = val b := by
  refine ⟨fun h => by rw [h], fun h => ?_⟩
  have h1 := wr_val ha (val a) (by rw [Nat.mod_eq_of_lt (val_lt ha)])
  have h2 := wr_val hb (val b) (by rw [Nat.mod_eq_of_lt (val_lt hb)])
  rw [← h1, ← h2, hl, h]
def b2n (b : Bool) : Nat := if b = true then 1 else 0
theorem val_fbit (b : Bool) : val (fbit b) = b2n b := by cases b <;> rfl
theorem name_short {f : Frame} (h : fcheckfr f = 0) (hl : f.Long = false) : val (fnameS f) = 4 * f.ID.toNat + 2 * b2n f.Remote := by
  obtain ⟨c1, c2, c3, c4, c5, c6, c7, c8, c9, c10⟩ := fcheckfr_zero h
  have := c3 hl
  unfold fnameS
  rw [if_pos hl, val_append, val_append, val_wr, val_fbit]
  have e1 : (fbit f.Remote).length = 1 := fbit_len _
  rw [e1]
  have e2 : f.ID.toNat % 2 ^ 11 = f.ID.toNat := Nat.mod_eq_of_lt (by omega)
  rw [e2]
  show _ * 2 ^ 1 + 0 = _
  omega
theorem name_long {f : Frame} (h : fcheckfr f = 0) (hl : f.Long = true) : val (fnameS f) = (f.ID.toNat / 262144 * 4 + 3) * 524288 + 2 * (f.ID.toNat % 262144) + b2n f.Remote := by
  obtain ⟨c1, c2, c3, c4, c5, c6, c7, c8, c9, c10⟩ := fcheckfr_zero h
  unfold fnameS
  rw [if_neg (by rw [hl]; simp), val_append, val_append, val_append, val_wr, val_wr, val_fbit, fbit_len, wr_length]
  have e2 : f.ID.toNat / 2 ^ 18 % 2 ^ 11 = f.ID.toNat / 2 ^ 18 := Nat.mod_eq_of_lt (by omega)
  rw [e2]
  have e3 : val [49, 49] = 3 := rfl
  have e4 : ([49, 49] : List UInt8).length = 2 := rfl
  rw [e3, e4]
  have p1 : (2 : Nat) ^ 18 = 262144 := rfl
  rw [p1]
  omega
theorem b2n_inj {a b : Bool} (h : b2n a = b2n b) : a = b := by cases a <;> cases b <;> simp_all [b2n]
theorem b2n_le (a : Bool) : b2n a ≤ 1 := by cases a <;> simp [b2n]
theorem hasprefix_iff {t s : List UInt8} : hasprefix t s = true ↔ s <+: t := by
  unfold hasprefix hasprefix0
  by_cases h : s.length ≤ t.length
  · have e : decide ((t.length : Int) ≥ (s.length : Int)) = true := by simp; omega
    rw [e]
    show (t.take (s.length : Int).toNat == s) = true ↔ _
    rw [Int.toNat_natCast, List.prefix_iff_eq_take, beq_iff_eq]
    exact eq_comm
  · have e : decide ((t.length : Int) ≥ (s.length : Int)) = false := by simp; omega
    rw [e]
    refine ⟨fun h => (by cases h), fun h2 => absurd h2.length_le h⟩
theorem names_apart {f g : Frame} (hf : f.Long = false) (hg : g.Long = true) : ((((fnameS f) != (fnameS g)) && (!(hasprefix (fnameS f) (fnameS g)))) && (!(hasprefix (fnameS g) (fnameS f)))) = true := by
  have l1 := fnameS_len f
  have l2 := fnameS_len g
  rw [hf, if_pos rfl] at l1
  rw [hg, if_neg (by simp)] at l2
  have e1 : ∃ r, fnameS f = wr 11 f.ID.toNat ++ r ∧ r[1]? = some 48 := by
    unfold fnameS
    rw [if_pos hf]
    refine ⟨fbit f.Remote ++ [48], by simp, ?_⟩
    cases f.Remote <;> rfl
  have e2 : ∃ r, fnameS g = wr 11 (g.ID.toNat / 2 ^ 18) ++ r ∧ r[1]? = some 49 := by
    unfold fnameS
    rw [if_neg (by rw [hg]; simp)]
    exact ⟨[49, 49] ++ (wr 18 g.ID.toNat ++ fbit g.Remote), by simp, rfl⟩
  obtain ⟨r1, a1, a2⟩ := e1
  obtain ⟨r2, b1, b2⟩ := e2
  have x1 : (fnameS f)[12]? = some 48 := by
    rw [a1, List.getElem?_append_right (by rw [wr_length]; omega), wr_length]; exact a2
  have x2 : (fnameS g)[12]? = some 49 := by
    rw [b1, List.getElem?_append_right (by rw [wr_length]; omega), wr_length]; exact b2
  have y1 : hasprefix (fnameS f) (fnameS g) = false := by
    cases h : hasprefix (fnameS f) (fnameS g)
    · rfl
    · have := (hasprefix_iff.1 h).length_le
      omega
  have y2 : hasprefix (fnameS g) (fnameS f) = false := by
    cases h : hasprefix (fnameS g) (fnameS f)
    · rfl
    · obtain ⟨z, hz⟩ := hasprefix_iff.1 h
      rw [← hz, List.getElem?_append_left (by omega), x1] at x2
      cases x2
  have y3 : (fnameS f != fnameS g) = true := by
    rw [bne_iff_ne]
    intro e
    rw [e] at l1
    omega
  rw [y1, y2, y3]
  rfl
theorem LNames_ok (f g : Frame) (kf : okFrame f) (kg : okFrame g) : LNames_vc f g (fun r => r = true) := by
  intro _ _
  refine ⟨fun _ => rfl, fun h => ?_⟩
  have h : (fNameS f).2 = 0 ∧ (fNameS g).2 = 0 := by simpa using h
  have nz : ∀ x : Frame, (fNameS x).2 = 0 → fcheckfr x = 0 ∧ (fNameS x).1 = fnameS x := by
    intro x hx
    unfold fNameS at hx ⊢
    by_cases e : fcheckfr x = 0
    · rw [if_neg (fun hc => hc e)]; exact ⟨e, rfl⟩
    · rw [if_pos e] at hx; exact absurd hx e
  obtain ⟨cf, nf⟩ := nz f h.1
  obtain ⟨cg, ng⟩ := nz g h.2
  rw [nf, ng]
  have zf := fcheckfr_zero cf
  have zg := fcheckfr_zero cg
  refine ⟨fun h1 => ?_, fun h1 => ?_⟩
  · have h1 : f.Long = g.Long := by simpa using h1
    have hl : (fnameS f).length = (fnameS g).length := by rw [fnameS_len, fnameS_len, h1]
    have i1 := row_inj hl (fnameS_row f) (fnameS_row g)
    have i2 := bless_val _ _ hl (fnameS_row f) (fnameS_row g)
    have b1 := b2n_le f.Remote
    have b2 := b2n_le g.Remote
    have key : (val (fnameS f) = val (fnameS g) ↔ f.ID = g.ID ∧ f.Remote = g.Remote) ∧ (val (fnameS f) ≤ val (fnameS g) → f.ID ≤ g.ID) := by
      cases hL : g.Long with
      | false =>
        rw [hL] at h1
        rw [name_short cf h1, name_short cg hL]
        refine ⟨⟨fun e => ⟨by omega, b2n_inj (by omega)⟩, fun e => by rw [e.1, e.2]⟩, fun e => by omega⟩
      | true =>
        rw [hL] at h1
        rw [name_long cf h1, name_long cg hL]
        refine ⟨⟨fun e => ⟨by omega, b2n_inj (by omega)⟩, fun e => by rw [e.1, e.2]⟩, fun e => by omega⟩
    have k1 : (fnameS f == fnameS g) = ((f.ID == g.ID) && (f.Remote == g.Remote)) := by
      rw [Bool.eq_iff_iff, Bool.and_eq_true, beq_iff_eq, beq_iff_eq, beq_iff_eq, i1]
      exact key.1
    show (_ && (!(Op.bytesLess (fnameS f) (fnameS g) || fnameS f == fnameS g) || decide (f.ID ≤ g.ID))) = true
    rw [k1]
    have : ∀ a : Bool, (a == a) = true := by decide
    rw [this, Bool.true_and]
    rw [← k1]
    by_cases e : val (fnameS f) ≤ val (fnameS g)
    · rw [decide_eq_true (key.2 e), Bool.or_true]
    · have e1 : Op.bytesLess (fnameS f) (fnameS g) = false := by
        cases hh : Op.bytesLess (fnameS f) (fnameS g)
        · rfl
        · have := i2.1 hh; omega
      have e2 : (fnameS f == fnameS g) = false := by
        rw [beq_eq_false_iff_ne]
        intro hh
        rw [hh] at e; omega
      rw [e1, e2]
      rfl
  · have h1 : f.Long ≠ g.Long := by simpa using h1
    cases hF : f.Long with
    | false =>
      have hG : g.Long = true := by
        cases e : g.Long
        · rw [hF, e] at h1; exact absurd rfl h1
        · rfl
      exact names_apart hF hG
    | true =>
      have hG : g.Long = false := by
        cases e : g.Long
        · rfl
        · rw [hF, e] at h1; exact absurd rfl h1
      have := names_apart hG hF
      rw [Bool.and_eq_true, Bool.and_eq_true] at this
      rw [this.2, Bool.and_true, this.1.2, Bool.and_true]
      exact bne_iff_ne.2 fun e => (bne_iff_ne.1 this.1.1) e.symm
/-- What was put in is taken out, part by part. -/
theorem take_put2 (u : List UInt8) : ∀ (c : Counter) (v z : List UInt8), ∃ c', takeF c (putF c (u ++ v) ++ z) u.length = .ok (u, putF c' v ++ z, c') := by
  induction u with
  | nil => intro c v z; exact ⟨c, by simp [takeF]⟩
  | cons x b ih =>
    intro c v z
    rw [List.cons_append, putF]
    by_cases h5 : (nx c x).n = 5
    · obtain ⟨c', hc⟩ := ih (nx (nx c x) (flip x)) v z
      rw [if_pos h5]
      refine ⟨c', ?_⟩
      rw [List.cons_append, List.cons_append, List.length_cons, takeF_cons, if_pos h5]
      dsimp only
      rw [if_pos rfl, hc]
      rfl
    · obtain ⟨c', hc⟩ := ih (nx c x) v z
      rw [if_neg h5]
      refine ⟨c', ?_⟩
      rw [List.cons_append, List.length_cons, takeF_cons, if_neg h5, hc]
      rfl
/-- A reader of which so much of a row in which bits were put is still ahead. -/
def Ah (r : Reader) (row v z : List UInt8) : Prop := Rok r ∧ r.Code = 0 ∧ r.Row = row ∧ r.Row.drop r.At.toNat = putF r.c v ++ z
theorem ah_take {r : Reader} {row u v z : List UInt8} (h : Ah r row (u ++ v) z) : (rtakeS r (u.length : Int)).1 = u ∧ Ah (rtakeS r (u.length : Int)).2 row v z := by
  obtain ⟨hR, hc, hrow, hd⟩ := h
  obtain ⟨c', hT⟩ := take_put2 u r.c v z
  have := rtakeS_take (n := u.length) hR hc
  rw [hd, hT] at this
  obtain ⟨g1, g2, g3, g4, g5, g6, g7⟩ := this
  have hR2 := (rtakeS_Rok (u.length : Int) hR).1
  rw [g1] at hR2 ⊢
  refine ⟨rfl, hR2, rfl, hrow, ?_⟩
  have e : (((r.Row.length : Int) - ((putF c' v ++ z).length : Int))).toNat = r.Row.length - (putF c' v ++ z).length := by (try dsimp only at g2); omega
  show r.Row.drop (((r.Row.length : Int) - ((putF c' v ++ z).length : Int))).toNat = _
  rw [e]
  exact g3.symm
def AhF (r : FReader) (row v z : List UInt8) (f : Frame) : Prop := Ah r.Reader row v z ∧ r.f = f
theorem ahf_take {r : FReader} {row u v z : List UInt8} {f : Frame} {n : Int} (h : AhF r row (u ++ v) z f) (hn : n = (u.length : Int)) : (rtakeFS r n).1 = u ∧ AhF (rtakeFS r n).2 row v z f := by
  subst hn
  exact ⟨(ah_take h.1).1, (ah_take h.1).2, h.2⟩
theorem ahf_want {r : FReader} {row v z : List UInt8} {f : Frame} {b : UInt8} (h : AhF r row (b :: v) z f) : AhF (rwantS r [b]) row v z f := by
  obtain ⟨e, k⟩ := ahf_take (u := [b]) (n := 1) h rfl
  unfold rwantS
  rw [e, if_neg (fun e => e.2 rfl)]
  exact k
theorem ahf_number {r : FReader} {row u v z : List UInt8} {f : Frame} {n : Int} (h : AhF r row (u ++ v) z f) (hn : n = (u.length : Int)) : (rnumberS r n).1 = (val u : Int) ∧ AhF (rnumberS r n).2 row v z f := by
  obtain ⟨e, k⟩ := ahf_take h hn
  have hc : (rtakeFS r n).2.Reader.Code = 0 := k.1.2.1
  unfold rnumberS
  rw [if_neg (by rw [hc]; simp), e]
  exact ⟨rfl, k⟩
theorem nam1_fwd {r : FReader} {row u v z : List UInt8} {g : Frame} (h : AhF r row (48 :: (u ++ v)) z g) (hu : u.length = 11) : AhF (nam1 r) row v z ⟨(val u : Int), g.Long, g.Fast, g.Remote, g.Size, g.Data⟩ := by
  have h1 := ahf_want h
  obtain ⟨e, k⟩ := ahf_number (n := 11) h1 (by rw [hu]; rfl)
  refine ⟨k.1, ?_⟩
  have hf : (rnumberS (rwantS r [48]) 11).2.f = g := k.2
  unfold nam1
  rw [e, hf]
theorem fbit_eq (b : Bool) : (fbit b == [49]) = b := by cases b <;> rfl
theorem ahf_flag {r : FReader} {row v z : List UInt8} {g : Frame} {b : Bool} (h : AhF r row (fbit b ++ v) z g) : ((rtakeFS r 1).1 == [49]) = b ∧ AhF (rtakeFS r 1).2 row v z g := by
  obtain ⟨e, k⟩ := ahf_take (n := 1) h (by rw [fbit_len]; rfl)
  rw [e, fbit_eq]
  exact ⟨rfl, k⟩
theorem nam6_short {r : FReader} {row v z : List UInt8} {g : Frame} {id : Nat} {R : Bool} (h : AhF r row (48 :: (wr 11 id ++ (fbit R ++ (fbit false ++ v)))) z g) : AhF (nam6 r) row v z ⟨((id % 2 ^ 11 : Nat) : Int), false, g.Fast, R, g.Size, g.Data⟩ := by
  have h1 := nam1_fwd h (wr_length _ _)
  obtain ⟨e1, h2⟩ := ahf_flag h1
  obtain ⟨e2, h3⟩ := ahf_flag h2
  unfold nam6
  rw [if_neg (by rw [e2]; simp)]
  refine ⟨h3.1, ?_⟩
  have hf := h3.2
  unfold nam2
  rw [e1, e2, hf, val_wr]
theorem nam6_long {r : FReader} {row v z : List UInt8} {g : Frame} {hi lo : Nat} {R : Bool} (h : AhF r row (48 :: (wr 11 hi ++ (fbit true ++ (fbit true ++ (wr 18 lo ++ (fbit R ++ v)))))) z g) : AhF (nam6 r) row v z ⟨((hi % 2 ^ 11 * 262144 + lo % 2 ^ 18 : Nat) : Int), true, g.Fast, R, g.Size, g.Data⟩ := by
  have h1 := nam1_fwd h (wr_length _ _)
  obtain ⟨e1, h2⟩ := ahf_flag h1
  obtain ⟨e2, h3⟩ := ahf_flag h2
  have hf := h3.2
  have h4 : AhF (nam3 ((rtakeFS (nam1 r) 1).1 == [49]) (nam2 (rtakeFS (nam1 r) 1) (rtakeFS (rtakeFS (nam1 r) 1).2 1))) row (wr 18 lo ++ (fbit R ++ v)) z ⟨((hi % 2 ^ 11 : Nat) : Int), true, g.Fast, true, g.Size, g.Data⟩ := by
    unfold nam3
    rw [if_pos e1]
    refine ⟨h3.1, ?_⟩
    unfold nam2
    rw [e1, e2, hf, val_wr]
  unfold nam6
  rw [if_pos e2]
  generalize nam3 ((rtakeFS (nam1 r) 1).1 == [49]) (nam2 (rtakeFS (nam1 r) 1) (rtakeFS (rtakeFS (nam1 r) 1).2 1)) = y at *
  obtain ⟨e3, h5⟩ := ahf_number (n := 18) h4 (by rw [wr_length]; rfl)
  have h6 : AhF (nam4 y) row (fbit R ++ v) z ⟨((hi % 2 ^ 11 * 262144 + lo % 2 ^ 18 : Nat) : Int), true, g.Fast, true, g.Size, g.Data⟩ := by
    refine ⟨h5.1, ?_⟩
    have hy := h4.2
    unfold nam4
    rw [e3, hy, val_wr]
    have p11 : (2 : Nat) ^ 11 = 2048 := rfl
    have p18 : (2 : Nat) ^ 18 = 262144 := rfl
    have := id_join (hi % 2 ^ 11) (lo % 2 ^ 18) (by omega) (by omega)
    show (⟨bOr .i64 (bShl .i64 ((hi % 2 ^ 11 : Nat) : Int) 18) ((lo % 2 ^ 18 : Nat) : Int), _, _, _, _, _⟩ : Frame) = _
    rw [this]
  obtain ⟨e4, h7⟩ := ahf_flag h6
  refine ⟨h7.1, ?_⟩
  have hg := h7.2
  unfold nam5
  rw [e4, hg]
theorem names_fwd {r : FReader} {row v z : List UInt8} {g f : Frame} (hc : fcheckfr f = 0) (h : AhF r row ((([48] ++ fnameS f) ++ fctl f) ++ v) z g) : AhF (rnamesS r) row v z ⟨f.ID, f.Long, f.Fast, f.Remote, g.Size, g.Data⟩ := by
  obtain ⟨c1, c2, c3, c4, c5, c6, c7, c8, c9, c10⟩ := fcheckfr_zero hc
  have h6 : AhF (nam6 r) row (fctl f ++ v) z ⟨f.ID, f.Long, g.Fast, f.Remote, g.Size, g.Data⟩ := by
    cases hL : f.Long with
    | false =>
      have hid := c3 hL
      have e : (([48] ++ fnameS f) ++ fctl f) ++ v = 48 :: (wr 11 f.ID.toNat ++ (fbit f.Remote ++ (fbit false ++ (fctl f ++ v)))) := by
        unfold fnameS
        rw [if_pos hL]
        simp [show fbit false = [48] from rfl]
      rw [e] at h
      have := nam6_short h
      have e2 : ((f.ID.toNat % 2 ^ 11 : Nat) : Int) = f.ID := by
        rw [Nat.mod_eq_of_lt (by have : (2 : Nat) ^ 11 = 2048 := rfl
                                 omega)]
        omega
      rw [e2] at this
      exact this
    | true =>
      have e : (([48] ++ fnameS f) ++ fctl f) ++ v = 48 :: (wr 11 (f.ID.toNat / 2 ^ 18) ++ (fbit true ++ (fbit true ++ (wr 18 f.ID.toNat ++ (fbit f.Remote ++ (fctl f ++ v)))))) := by
        unfold fnameS
        rw [if_neg (by rw [hL]; simp)]
        simp [show fbit true = [49] from rfl]
      rw [e] at h
      have := nam6_long h
      have e2 : ((f.ID.toNat / 2 ^ 18 % 2 ^ 11 * 262144 + f.ID.toNat % 2 ^ 18 : Nat) : Int) = f.ID := by
        have p11 : (2 : Nat) ^ 11 = 2048 := rfl
        have p18 : (2 : Nat) ^ 18 = 262144 := rfl
        rw [p11, p18]
        omega
      rw [e2] at this
      exact this
  unfold rnamesS
  generalize nam6 r = y at *
  have e : fctl f ++ v = fbit f.Fast ++ ((if f.Fast = true then [48, 49, 48] else if f.Long = true then [48] else []) ++ v) := by
    unfold fctl
    cases f.Fast <;> cases f.Long <;> rfl
  rw [e] at h6
  obtain ⟨e1, h7⟩ := ahf_flag h6
  have hf := h7.2
  have h8 : AhF (nam7 (rtakeFS y 1)) row ((if f.Fast = true then [48, 49, 48] else if f.Long = true then [48] else []) ++ v) z ⟨f.ID, f.Long, f.Fast, f.Remote, g.Size, g.Data⟩ := by
    refine ⟨h7.1, ?_⟩
    unfold nam7
    rw [e1, hf]
  unfold nam8
  have hR : (rtakeFS y 1).2.f.Remote = f.Remote := by rw [hf]
  have hL : (rtakeFS y 1).2.f.Long = f.Long := by rw [hf]
  rw [e1, hR, hL]
  cases hF : f.Fast with
  | true =>
    rw [hF] at h8
    have hr : f.Remote = false := by
      cases hh : f.Remote
      · rfl
      · rw [(c4 hh).1] at hF; cases hF
    rw [if_pos rfl] at h8 ⊢
    rw [if_neg (by rw [hr]; simp)]
    exact ahf_want (ahf_want (ahf_want h8))
  | false =>
    rw [hF] at h8
    rw [if_neg (by simp)] at h8 ⊢
    cases hL2 : f.Long with
    | true =>
      rw [hL2] at h8
      rw [if_pos rfl] at h8 ⊢
      exact ahf_want h8
    | false =>
      rw [hL2] at h8
      rw [if_neg (by simp)] at h8 ⊢
      exact h8
theorem size_code {n : Nat} (hn : n ≤ 64) (hs : scontainsS fsizes (n : Int) = true) : 0 ≤ sindexS fsizes (n : Int) ∧ sindexS fsizes (n : Int) < 16 ∧ fsizes[(sindexS fsizes (n : Int)).toNat]? = some (n : Int) ∧ (n ≤ 8 → sindexS fsizes (n : Int) ≤ 8) := by
  have key : ∀ m : Fin 65, scontainsS fsizes ((m.val : Nat) : Int) = true → 0 ≤ sindexS fsizes ((m.val : Nat) : Int) ∧ sindexS fsizes ((m.val : Nat) : Int) < 16 ∧ fsizes[(sindexS fsizes ((m.val : Nat) : Int)).toNat]? = some ((m.val : Nat) : Int) ∧ (m.val ≤ 8 → sindexS fsizes ((m.val : Nat) : Int) ≤ 8) := by decide +kernel
  exact key ⟨n, by omega⟩ hs
theorem byb_ofb : ∀ d : List Int, (∀ x ∈ d, 0 ≤ x ∧ x ≤ 255) → byb d.length (ofb d) = d := by
  intro d
  induction d with
  | nil => intro _; rfl
  | cons x d ih =>
    intro h
    have hx := h x (List.mem_cons_self ..)
    rw [List.length_cons, byb, ofb, List.take_left' (wr_length _ _), List.drop_left' (wr_length _ _), ih (fun y hy => h y (List.mem_cons_of_mem _ hy)), val_wr]
    have : ((x.toNat % 2 ^ 8 : Nat) : Int) = x := by
      have : (2 : Nat) ^ 8 = 256 := rfl
      omega
    rw [this]
theorem bbytes_ofb {d : List Int} (h : ∀ x ∈ d, 0 ≤ x ∧ x ≤ 255) (hl : d.length ≤ 64) : bbytesS (ofb d) = (d, 0) := by
  have h1 := ofb_length d
  unfold bbytesS
  rw [if_neg (by rw [(bcheck_zero _).2 ⟨by omega, ofb_row d⟩]; simp), if_neg (by omega)]
  have : (ofb d).length / 8 = d.length := by omega
  rw [this, byb_ofb d h]
theorem rd1_fwd {r : FReader} {row v z : List UInt8} {f : Frame} (hc : fcheckfr f = 0) (hd : ∀ x ∈ f.Data, 0 ≤ x ∧ x ≤ 255) (h : AhF r row (wr 4 (fcode f) ++ (ofb f.Data ++ v)) z ⟨f.ID, f.Long, f.Fast, f.Remote, 0, []⟩) : AhF (rd1 r) row v z f := by
  obtain ⟨c1, c2, c3, c4, c5, c6, c7, c8, c9, c10⟩ := fcheckfr_zero hc
  obtain ⟨e1, h1⟩ := ahf_number (n := 4) h (by rw [wr_length]; rfl)
  have hcode : (rnumberS r 4).2.Reader.Code = 0 := h1.1.2.1
  have hrf := h.2
  obtain ⟨s1, s2, s3, s4⟩ := size_code c8 c10
  have hfc : fcode f = (if f.Remote = false then sindexS fsizes (f.Data.length : Int) else f.Size).toNat := rfl
  have h16 : fcode f < 16 := by rw [hfc]; split <;> omega
  rw [val_wr, Nat.mod_eq_of_lt (show fcode f < 2 ^ 4 from h16)] at e1
  have hFf : r.f.Fast = f.Fast := by rw [hrf]
  have hRf : r.f.Remote = f.Remote := by rw [hrf]
  unfold rd1
  rw [if_neg (by rw [hcode]; simp), e1, hFf, hRf]
  have h8 : ¬ (f.Fast = false ∧ 8 < ((fcode f : Nat) : Int)) := by
    rintro ⟨a, b⟩
    have := s4 (c9 a)
    rw [hfc] at b
    split at b <;> omega
  rw [if_neg h8]
  cases hR : f.Remote with
  | true =>
    rw [if_pos rfl]
    obtain ⟨_, d0⟩ := c4 hR
    have hdn : f.Data = [] := List.eq_nil_of_length_eq_zero d0
    rw [hdn] at h1
    refine ⟨h1.1, ?_⟩
    show (⟨r.f.ID, r.f.Long, f.Fast, true, ((fcode f : Nat) : Int), r.f.Data⟩ : Frame) = f
    rw [hrf]
    have : ((fcode f : Nat) : Int) = f.Size := by rw [hfc, hR, if_neg (by simp)]; omega
    rw [this, ← hR]
    obtain ⟨f1, f2, f3, f4, f5, f6⟩ := f
    show (⟨f1, f2, f3, f4, f5, []⟩ : Frame) = _
    rw [show f6 = [] from hdn]
  | false =>
    rw [if_neg (by simp)]
    have hcx : (fcode f) = (sindexS fsizes (f.Data.length : Int)).toNat := by rw [hfc, if_pos hR]
    rw [Int.toNat_natCast, hcx, s3, Option.getD_some]
    obtain ⟨e2, h2⟩ := ahf_take (n := 8 * (f.Data.length : Int)) h1 (by rw [ofb_length]; omega)
    rw [e2, bbytes_ofb hd c8]
    refine ⟨h2.1, ?_⟩
    show (⟨r.f.ID, r.f.Long, f.Fast, false, r.f.Size, f.Data⟩ : Frame) = f
    rw [hrf, ← hR]
    have := c7 hR
    obtain ⟨f1, f2, f3, f4, f5, f6⟩ := f
    show (⟨f1, f2, f3, f4, 0, f6⟩ : Frame) = _
    rw [show f5 = 0 from this]
theorem ah_at {r : Reader} {row z : List UInt8} {p : List UInt8} (h : Ah r row [] z) (hrow : row = p ++ z) : r.At = (p.length : Int) ∧ r.Row.take r.At.toNat = p := by
  obtain ⟨hR, _, hr, hd⟩ := h
  have hd : r.Row.drop r.At.toNat = z := hd
  have e : r.At = (p.length : Int) := by
    have := congrArg List.length hd
    rw [List.length_drop, hr, hrow, List.length_append] at this
    have h1 := hR.1
    have h2 := hR.2.1
    rw [hr, hrow, List.length_append] at h2
    omega
  refine ⟨e, ?_⟩
  rw [e, hr, hrow, Int.toNat_natCast, List.take_left' rfl]
theorem plain_fwd {r : FReader} {row t z : List UInt8} {f : Frame} (h : AhF r row [] (t ++ z) f) (ht : 0 < t.length) : (rplainFS r t.length).1 = t ∧ AhF (rplainFS r t.length).2 row [] z f := by
  obtain ⟨⟨hR, hc, hr, hd⟩, hf⟩ := h
  have hd : r.Reader.Row.drop r.Reader.At.toNat = t ++ z := hd
  have hl := congrArg List.length hd
  rw [List.length_drop, List.length_append] at hl
  obtain ⟨a0, a1, a2, a3, a4, a5⟩ := hR
  have e : rplainS r.Reader t.length = (t, ⟨r.Reader.Row, r.Reader.At + t.length, r.Reader.Code, r.Reader.c⟩) := by
    unfold rplainS
    rw [if_neg (by omega), if_neg (by rw [hc]; simp), if_pos (by omega), hd, Int.toNat_natCast, List.take_left' rfl]
  unfold rplainFS
  rw [e]
  refine ⟨rfl, ⟨⟨by (try dsimp only); omega, by (try dsimp only); omega, a2, a3, a4, a5⟩, hc, hr, ?_⟩, hf⟩
  show r.Reader.Row.drop (r.Reader.At + t.length).toNat = z
  have e2 : (r.Reader.At + (t.length : Int)).toNat = r.Reader.At.toNat + t.length := by omega
  rw [e2, ← List.drop_drop, hd, List.drop_left' rfl]
theorem rd3_fwd {r : FReader} {row t z : List UInt8} {f : Frame} (h : AhF r row [] (t ++ z) f) (ht : t.length = 10) (h1 : (t.take 1 ++ [49]) ++ t.drop 2 = tail10) : AhF (rd3 r) row [] z f := by
  obtain ⟨e, k⟩ := plain_fwd h (by omega)
  rw [ht] at e k
  have e : (rplainFS r 10).1 = t := e
  have k : AhF (rplainFS r 10).2 row [] z f := k
  unfold rd3
  rw [e, if_neg (fun hc => hc.2 h1)]
  exact k
theorem flip_ne8 (b : UInt8) : flip b ≠ b := fun e => flip_ne b (by rw [e])
/-- In a fixed row no bit at a fixed place is the one ahead of it. -/
theorem fixF_alt : ∀ (b : List UInt8) (k : Nat) (a : UInt8) (i : Nat), i < (fixF k a b).length → ((if k % 4 = 0 then 0 else k % 4 + 1) + i) % 5 = 0 → (fixF k a b)[i]? ≠ (if i = 0 then some a else (fixF k a b)[i - 1]?) := by
  intro b
  induction b with
  | nil => intro k a i h; simp [fixF] at h
  | cons c r ih =>
    intro k a i h h5
    rw [fixF] at h ⊢
    by_cases hk : k % 4 = 0
    · rw [if_pos hk] at h5 h ⊢
      match i with
      | 0 =>
        show some (flip a) ≠ some a
        intro e
        exact flip_ne8 a (Option.some.inj e)
      | 1 => omega
      | j + 2 =>
        have := ih (k + 1) c j (by simp at h; omega) (by rw [if_neg (by omega)]; omega)
        rw [if_neg (by omega)]
        show (fixF (k + 1) c r)[j]? ≠ (flip a :: c :: fixF (k + 1) c r)[j + 1]?
        cases j with
        | zero => rw [if_pos rfl] at this; exact this
        | succ j => rw [if_neg (by omega)] at this; exact this
    · rw [if_neg hk] at h5 h ⊢
      cases i with
      | zero => omega
      | succ j =>
        have := ih (k + 1) c j (by simp at h; omega) (by split <;> omega)
        rw [if_neg (by omega)]
        show (fixF (k + 1) c r)[j]? ≠ (c :: fixF (k + 1) c r)[j]?
        cases j with
        | zero => rw [if_pos rfl] at this; exact this
        | succ j => rw [if_neg (by omega)] at this; exact this
theorem fixF_good (b : List UInt8) (a : UInt8) : badN a (fixF 0 a b) (fixF 0 a b).length = false := by
  unfold badN
  rw [List.any_eq_false]
  intro i hi
  rw [List.mem_range] at hi
  unfold stAt
  by_cases h5 : i % 5 = 0
  · have := fixF_alt b 0 a i hi (by rw [if_pos rfl]; omega)
    rw [decide_eq_true h5, Bool.true_and]
    intro e
    exact this (eq_of_beq e)
  · rw [decide_eq_false h5]
    simp
theorem fixF_length : ∀ (b : List UInt8) (k : Nat) (a : UInt8), (fixF k a b).length + (k % 4 + 3) / 4 = b.length + (b.length + k % 4 + 3) / 4 := by
  intro b
  induction b with
  | nil => intro k a; simp [fixF]
  | cons c r ih =>
    intro k a
    rw [fixF]
    have := ih (k + 1) c
    split <;> simp only [List.length_cons] <;> omega
theorem lastB_bit {p : List UInt8} (h : isRow p = true) : isBit (lastB p) = true := by
  unfold lastB
  rw [List.getLastD_eq_getLast?]
  cases e : p.getLast? with
  | none => rfl
  | some c => exact List.all_eq_true.1 h c (List.mem_of_getLast? e)
theorem fkind_is (f : Frame) : isKind (fkind f) = true := by
  unfold fkind
  cases f.Fast
  · rfl
  · cases h : decide ((f.Data.length : Int) ≤ 16) <;> simp [isKind]
theorem fastEnd_eq {p : List UInt8} (hp : isRow p = true) (hl : p.length ≤ 900) (n : Nat) {kind : Int} (hk : isKind kind = true) : fastEnd p n kind = fixF 0 (lastB p) (cnt4 (p.length - n) ++ sumR kind (p ++ cnt4 (p.length - n))) := by
  obtain ⟨h1, h2⟩ := cnt4_ok (p.length - n)
  have h3 : csumS kind (p ++ cnt4 (p.length - n)) = (sumR kind (p ++ cnt4 (p.length - n)), 0) := csumS_row hk (by rw [List.length_append]; omega) (by rw [isRow_append, hp, h2]; rfl)
  have h4 := csumS_bound kind (p ++ cnt4 (p.length - n))
  rw [h3] at h4
  unfold fastEnd sfixedS
  rw [h3]
  dsimp only
  have hb := isBit_or (lastB_bit hp)
  rw [if_neg (by rw [(bcheck_zero _).2 ⟨by rw [List.length_append]; have := h4.1; (try dsimp only at this); omega, by rw [isRow_append, h2]; exact h4.2⟩]; simp), if_neg (by rcases hb with e | e <;> rw [e] <;> decide)]
  dsimp only
  have : UInt8.ofNat ((lastB p).toNat : Int).toNat = lastB p := by rcases hb with e | e <;> rw [e] <;> rfl
  rw [this]
theorem rd2_slow {r : FReader} {row z : List UInt8} {f : Frame} (hf : f.Fast = false) (hl : (fheadS f).length ≤ 1000) (h : AhF r row (sumR 0 (fheadS f) ++ []) z f) : AhF (rd2 r) row [] z f := by
  have hrf := h.2
  obtain ⟨e, k⟩ := ahf_take (n := 15) h (by show (15 : Int) = ((wr _ _).length : Int); rw [wr_length]; rfl)
  unfold rd2
  rw [hrf, if_neg (by rw [hf]; simp), if_pos h.1.2.1, e, csumS_row rfl hl (fheadS_row f), if_neg (fun hc => hc.2 rfl)]
  exact k
theorem rd2_fast {r : FReader} {row p z : List UInt8} {f : Frame} (hf : f.Fast = true) (hp : isRow p = true) (hl : p.length ≤ 900) (hrow : row = p ++ (fastEnd p (fheadS f).length (fkind f) ++ z)) (h : AhF r row [] (fastEnd p (fheadS f).length (fkind f) ++ z) f) : AhF (rd2 r) row [] z f := by
  have hrf := h.2
  obtain ⟨a1, a2⟩ := ah_at h.1 hrow
  have he := fastEnd_eq hp hl (fheadS f).length (fkind_is f)
  have hpos : 0 < (fastEnd p (fheadS f).length (fkind f)).length := by
    have := fixF_length (cnt4 (p.length - (fheadS f).length) ++ sumR (fkind f) (p ++ cnt4 (p.length - (fheadS f).length))) 0 (lastB p)
    rw [← he, List.length_append, (cnt4_ok _).1] at this
    omega
  obtain ⟨e, k⟩ := plain_fwd h hpos
  unfold rd2 rfastS
  rw [hrf, if_pos hf, if_neg (by rw [h.1.2.1]; simp), a2]
  dsimp only
  rw [e]
  have hb : badN (lastB p) (fastEnd p (fheadS f).length (fkind f)) (fastEnd p (fheadS f).length (fkind f)).length = false := by
    rw [he]
    exact fixF_good _ _
  rw [hb]
  rw [if_neg (show ¬ (false = true) by simp)]
  rw [if_neg (fun hc => hc.2 rfl)]
  exact k
/-- A frame's bits ahead of the tail. -/
def coreF (f : Frame) : List UInt8 := if f.Fast = false then putF ⟨0, 0⟩ (fheadS f ++ sumR 0 (fheadS f)) else putF ⟨0, 0⟩ (fheadS f) ++ fastEnd (putF ⟨0, 0⟩ (fheadS f)) (fheadS f).length (fkind f)
theorem fhead_short {f : Frame} (hc : fcheckfr f = 0) : (fheadS f).length ≤ 553 ∧ (f.Fast = false → (fheadS f).length ≤ 105) := by
  obtain ⟨c1, c2, c3, c4, c5, c6, c7, c8, c9, c10⟩ := fcheckfr_zero hc
  rw [fheadS_len]
  refine ⟨by split <;> split <;> (try split) <;> omega, fun h => ?_⟩
  have := c9 h
  split <;> split <;> (try split) <;> omega
theorem smost_le {n : Nat} (h : n ≤ 900) : (smost (n : Int)).1 ≤ n + n / 4 := by
  rw [smost_eq _ ⟨by omega, by omega⟩]
  show w64 ((n : Int) + w64 ((max (w64 ((n : Int) - 1)) 0).tdiv 4)) ≤ _
  rw [w64_eq ((n : Int) - 1) (by omega), Int.tdiv_eq_ediv_of_nonneg (by omega), w64_eq (max ((n : Int) - 1) 0 / 4) (by omega), w64_eq _ (by omega)]
  omega
theorem head_put {f : Frame} (hc : fcheckfr f = 0) : (putF ⟨0, 0⟩ (fheadS f)).length ≤ 700 ∧ isRow (putF ⟨0, 0⟩ (fheadS f)) = true := by
  obtain ⟨h1, _⟩ := fhead_short hc
  have h2 := put_length0 (fheadS f) (fheadS_row f)
  have h3 := smost_le (n := (fheadS f).length) (by omega)
  exact ⟨by rcases h2 with h2 | h2 <;> omega, put_row _ (fheadS_row f) _⟩
theorem bits_core {f : Frame} (hc : fcheckfr f = 0) : BitsS f = (coreF f ++ tail10, 0) := by
  obtain ⟨h1, h2⟩ := fhead_short hc
  have hrow := fheadS_row f
  have hsr : isRow (sumR 0 (fheadS f)) = true := wr_row _ _
  have hsl : (sumR 0 (fheadS f)).length = 15 := wr_length _ _
  unfold BitsS coreF
  rw [if_neg (fun h => h hc)]
  cases hF : f.Fast with
  | false =>
    rw [if_pos rfl, if_pos rfl, sputS_row (by rw [isRow_append, hrow, hsr]; rfl) (by rw [List.length_append]; omega)]
  | true =>
    rw [if_neg (by simp), if_neg (by simp), sputS_row hrow (by omega)]
theorem core_short {f : Frame} (hc : fcheckfr f = 0) : (coreF f).length ≤ 750 ∧ isRow (coreF f) = true := by
  obtain ⟨h1, h2⟩ := fhead_short hc
  have hrow := fheadS_row f
  have hsr : isRow (sumR 0 (fheadS f)) = true := wr_row _ _
  have hsl : (sumR 0 (fheadS f)).length = 15 := wr_length _ _
  obtain ⟨p1, p2⟩ := head_put hc
  unfold coreF
  cases hF : f.Fast with
  | false =>
    rw [if_pos rfl]
    have := (put_len2 (fheadS f ++ sumR 0 (fheadS f)) ⟨0, 0⟩).1
    rw [List.length_append] at this
    have := h2 hF
    exact ⟨by omega, put_row _ (by rw [isRow_append, hrow, hsr]; rfl) _⟩
  | true =>
    rw [if_neg (by simp)]
    have hl := fastEnd_len (putF ⟨0, 0⟩ (fheadS f)) (fheadS f).length (fkind f)
    refine ⟨by rw [List.length_append]; omega, ?_⟩
    rw [isRow_append, p2, fastEnd_eq p2 (by omega) _ (fkind_is f)]
    have hs := (cnt4_ok ((putF ⟨0, 0⟩ (fheadS f)).length - (fheadS f).length)).2
    have hs2 : ∀ (i : Int) (b : List UInt8), isRow (sumR i b) = true := fun i b => wr_row _ _
    have hfr : ∀ (b : List UInt8) (k : Nat) (a : UInt8), isRow b = true → isRow (fixF k a b) = true := by
      intro b
      induction b with
      | nil => intro k a _; rfl
      | cons c r ih =>
        intro k a h
        rw [isRow_cons, Bool.and_eq_true] at h
        rw [fixF]
        split
        · rw [isRow_cons, isRow_cons, isBit_flip, h.1, ih _ _ h.2]; rfl
        · rw [isRow_cons, h.1, ih _ _ h.2]; rfl
    rw [hfr _ _ _ (by rw [isRow_append, hs, hs2]; rfl)]
    rfl
/-- What was written is read, with any bits behind it, heard or not. -/
theorem read_fwd {f : Frame} {t z : List UInt8} (hc : fcheckfr f = 0) (hd : ∀ x ∈ f.Data, 0 ≤ x ∧ x ≤ 255) (ht : t.length = 10) (h1 : (t.take 1 ++ [49]) ++ t.drop 2 = tail10) (hb : bcheckS (coreF f ++ (t ++ z)) = 0) : readS (coreF f ++ (t ++ z)) = (f, (((coreF f).length + 10 : Nat) : Int), 0) := by
  obtain ⟨hbl, hbr⟩ := (bcheck_zero _).1 hb
  obtain ⟨l1, l2⟩ := fhead_short hc
  obtain ⟨p1, p2⟩ := head_put hc
  have h0 : ∀ b : List UInt8, bcheckS b = 0 → Rok (rstart b).Reader := fun b h => by
    obtain ⟨hl, hr⟩ := (bcheck_zero b).1 h
    exact ⟨Int.le_refl 0, by show (0 : Int) ≤ (b.length : Int); omega, by show b.length ≤ 1000000; omega, hr, Int.le_refl 0, by show (0 : Int) ≤ 4; omega⟩
  have hR := h0 _ hb
  have key : AhF (rd2 (rd1 (rnamesS (rstart (coreF f ++ (t ++ z)))))) (coreF f ++ (t ++ z)) [] (t ++ z) f := by
    cases hF : f.Fast with
    | false =>
      have hco : coreF f = putF ⟨0, 0⟩ (fheadS f ++ sumR 0 (fheadS f)) := by unfold coreF; rw [if_pos hF]
      generalize hrow : coreF f ++ (t ++ z) = row at *
      have hs : AhF (rstart row) row ((([48] ++ fnameS f) ++ fctl f) ++ (wr 4 (fcode f) ++ (ofb f.Data ++ (sumR 0 (fheadS f) ++ [])))) (t ++ z) f0 := by
        refine ⟨⟨hR, rfl, rfl, ?_⟩, rfl⟩
        show row = putF ⟨0, 0⟩ _ ++ (t ++ z)
        rw [← hrow, hco]
        congr 2
        show (((([48] ++ fnameS f) ++ fctl f) ++ wr 4 (fcode f)) ++ ofb f.Data) ++ _ = _
        simp
      exact rd2_slow hF (by omega) (rd1_fwd hc hd (names_fwd hc hs))
    | true =>
      have hco : coreF f = putF ⟨0, 0⟩ (fheadS f) ++ fastEnd (putF ⟨0, 0⟩ (fheadS f)) (fheadS f).length (fkind f) := by unfold coreF; rw [if_neg (by rw [hF]; simp)]
      have hrow2 : coreF f ++ (t ++ z) = putF ⟨0, 0⟩ (fheadS f) ++ (fastEnd (putF ⟨0, 0⟩ (fheadS f)) (fheadS f).length (fkind f) ++ (t ++ z)) := by rw [hco, List.append_assoc]
      generalize hrow : coreF f ++ (t ++ z) = row at *
      have hs : AhF (rstart row) row ((([48] ++ fnameS f) ++ fctl f) ++ (wr 4 (fcode f) ++ (ofb f.Data ++ []))) (fastEnd (putF ⟨0, 0⟩ (fheadS f)) (fheadS f).length (fkind f) ++ (t ++ z)) f0 := by
        refine ⟨⟨hR, rfl, rfl, ?_⟩, rfl⟩
        show row = putF ⟨0, 0⟩ _ ++ _
        have e : fheadS f = (([48] ++ fnameS f) ++ fctl f) ++ (wr 4 (fcode f) ++ (ofb f.Data ++ [])) := by
          show (((([48] ++ fnameS f) ++ fctl f) ++ wr 4 (fcode f)) ++ ofb f.Data) = _
          simp
        rw [← e]
        exact hrow2
      exact rd2_fast hF p2 (by omega) hrow2 (rd1_fwd hc hd (names_fwd hc hs))
  have k3 := rd3_fwd key ht h1
  have hA := ah_at (p := coreF f ++ t) k3.1 (by rw [List.append_assoc])
  have hk : (readR (coreF f ++ (t ++ z))).Reader.Code = 0 := k3.1.2.1
  have hk2 : (readR (coreF f ++ (t ++ z))).f = f := k3.2
  have hk3 : (readR (coreF f ++ (t ++ z))).Reader.At = (((coreF f ++ t).length : Nat) : Int) := hA.1
  unfold readS
  rw [if_neg (by rw [hb]; simp), if_neg (by rw [hk]; simp), hk2, hk3, List.length_append, ht]
theorem tail_ok : (tail10.take 1 ++ [49]) ++ tail10.drop 2 = tail10 := rfl
theorem read_bits {f : Frame} {z : List UInt8} (hc : fcheckfr f = 0) (hd : ∀ x ∈ f.Data, 0 ≤ x ∧ x ≤ 255) (hz : isRow z = true) (hl : (BitsS f).1.length + z.length ≤ 1000) : readS ((BitsS f).1 ++ z) = (f, (((BitsS f).1.length : Nat) : Int), 0) := by
  rw [bits_core hc] at hl ⊢
  dsimp only at hl ⊢
  have hr := (core_short hc).2
  have e : coreF f ++ tail10 ++ z = coreF f ++ (tail10 ++ z) := List.append_assoc ..
  rw [e, read_fwd hc hd rfl tail_ok]
  · rw [List.length_append]; rfl
  · rw [bcheck_zero, ← e]
    exact ⟨by rw [List.length_append]; exact hl, by rw [isRow_append, isRow_append, hr, hz]; rfl⟩
theorem bits_ok {f : Frame} (h : (BitsS f).2 = 0) : fcheckfr f = 0 := by
  unfold BitsS at h
  by_cases e : fcheckfr f = 0
  · exact e
  · rw [if_pos e] at h
    exact absurd h e
theorem read_bits0 {f : Frame} (hc : fcheckfr f = 0) (hd : ∀ x ∈ f.Data, 0 ≤ x ∧ x ≤ 255) : (BitsS f).1.length ≤ 760 ∧ isRow (BitsS f).1 = true ∧ readS (BitsS f).1 = (f, (((BitsS f).1.length : Nat) : Int), 0) := by
  have h1 := core_short hc
  have e : (BitsS f).1 = coreF f ++ tail10 := by rw [bits_core hc]
  have hl : (BitsS f).1.length ≤ 760 := by rw [e, List.length_append]; have : tail10.length = 10 := rfl; omega
  refine ⟨hl, by rw [e, isRow_append, h1.2]; rfl, ?_⟩
  have := read_bits (z := []) hc hd rfl (by rw [List.length_nil]; omega)
  rw [List.append_nil] at this
  exact this
theorem byteRange {d : List Int} (h : ∀ x ∈ d, IntKind.u8.min ≤ x ∧ x ≤ IntKind.u8.max) : ∀ x ∈ d, 0 ≤ x ∧ x ≤ 255 := fun x hx => h x hx
/-- Where a's row begins with b's, the frames are the same. -/
theorem bits_prefix {f g : Frame} (hf : fcheckfr f = 0) (df : ∀ x ∈ f.Data, 0 ≤ x ∧ x ≤ 255) (hg : fcheckfr g = 0) (dg : ∀ x ∈ g.Data, 0 ≤ x ∧ x ≤ 255) (h : (BitsS g).1 <+: (BitsS f).1) : f = g := by
  obtain ⟨z, hz⟩ := h
  obtain ⟨l1, r1, e1⟩ := read_bits0 hf df
  have hzr : isRow z = true := by rw [← hz, isRow_append, Bool.and_eq_true] at r1; exact r1.2
  have hl : (BitsS g).1.length + z.length ≤ 1000 := by rw [← List.length_append, hz]; omega
  have e2 := read_bits hg dg hzr hl
  rw [hz, e1] at e2
  exact congrArg Prod.fst e2
theorem LApart_ok (f g : Frame) (kf : okFrame f) (kg : okFrame g) : LApart_vc f g (fun r => r = true) := by
  intro _ _
  have df := byteRange kf.2.2.2.2.2.1
  have dg := byteRange kg.2.2.2.2.2.1
  refine ⟨df, dg, fun _ => rfl, fun h => ?_⟩
  have h : (BitsS f).2 = 0 ∧ (BitsS g).2 = 0 := by simpa using h
  have cf := bits_ok h.1
  have cg := bits_ok h.2
  by_cases e : f = g
  · subst e
    have e1 : hasprefix (BitsS f).1 (BitsS f).1 = true := hasprefix_iff.2 (List.prefix_refl _)
    have e2 : sameS f f = true := by simp [sameS]
    rw [e1, e2]
    simp
  · have e1 : hasprefix (BitsS f).1 (BitsS g).1 = false := by
      cases hh : hasprefix (BitsS f).1 (BitsS g).1
      · rfl
      · exact absurd (bits_prefix cf df cg dg (hasprefix_iff.1 hh)) e
    have e2 : sameS f g = false := by simp [sameS, e]
    have e3 : ((BitsS f).1 == (BitsS g).1) = false := by
      rw [beq_eq_false_iff_ne]
      intro hh
      exact e (bits_prefix cf df cg dg (by rw [hh]; exact List.prefix_refl _))
    rw [e1, e2, e3]
    rfl
theorem LHeard_ok (f : Frame) (kf : okFrame f) : LHeard_vc f (fun r => r = true) := by
  intro _
  have df := byteRange kf.2.2.2.2.2.1
  refine ⟨df, fun _ => rfl, fun h => ?_⟩
  have h : (BitsS f).2 = 0 ∧ ¬ (((BitsS f).1.length : Int) < 10) := by simpa using h
  have cf := bits_ok h.1
  obtain ⟨l1, r1, _⟩ := read_bits0 cf df
  have h1 := core_short cf
  have e : (BitsS f).1 = coreF f ++ tail10 := by rw [bits_core cf]
  have el : (BitsS f).1.length = (coreF f).length + 10 := by rw [e, List.length_append]; rfl
  have ek : w64 (((BitsS f).1.length : Int) - 9) = (((coreF f).length + 1 : Nat) : Int) := by rw [w64_eq _ (by omega)]; omega
  have ek1 : w64 ((((coreF f).length + 1 : Nat) : Int) + 1) = (((coreF f).length + 2 : Nat) : Int) := by rw [w64_eq _ (by omega)]; omega
  rw [ek, ek1, Int.toNat_natCast, Int.toNat_natCast]
  refine ⟨by omega, ?_, by omega, ?_, ?_⟩
  · rw [List.length_take]; simp; omega
  · rw [List.length_append, List.length_take, List.length_drop]; simp; omega
  · have er : ((BitsS f).1.take ((coreF f).length + 1) ++ [48]) ++ (BitsS f).1.drop ((coreF f).length + 2) = coreF f ++ ([49, 48, 49, 49, 49, 49, 49, 49, 49, 49] ++ []) := by
      rw [e, List.take_append, List.drop_append, List.take_of_length_le (by omega), List.drop_eq_nil_of_le (by omega)]
      have e1 : (coreF f).length + 1 - (coreF f).length = 1 := by omega
      have e2 : (coreF f).length + 2 - (coreF f).length = 2 := by omega
      rw [e1, e2]
      simp [tail10]
    rw [er, read_fwd cf df rfl rfl]
    · have e2 : sameS f f = true := by simp [sameS]
      dsimp only
      rw [e2, el]
      simp
    · rw [bcheck_zero]
      refine ⟨by rw [List.length_append]; simp; omega, by rw [isRow_append, h1.2]; rfl⟩
theorem fcheckfr_one {f : Frame} (h1 : 0 ≤ f.ID) (h2 : f.ID ≤ 2047) (hr : f.Remote = false) (hs : f.Size = 0) (hl : f.Data.length ≤ 64) (h8 : f.Fast = false → f.Data.length ≤ 8) (hsz : scontainsS fsizes (f.Data.length : Int) = true) : fcheckfr f = 0 := by
  unfold fcheckfr
  have a1 : (((decide (f.ID < 0)) || ((!f.Long) && (decide (f.ID > 2047)))) || (decide (f.ID > 536870911))) = false := by
    rw [decide_eq_false (by omega), decide_eq_false (by omega), decide_eq_false (by omega)]; simp
  have a2 : (f.Remote && (f.Fast || (decide ((f.Data.length : Int) > 0)))) = false := by rw [hr]; rfl
  have a3 : (((decide (f.Size < 0)) || (decide (f.Size > 8))) || ((!f.Remote) && (f.Size != 0))) = false := by rw [hr, hs]; rfl
  have a4 : ((decide ((f.Data.length : Int) > 64)) || ((!f.Fast) && (decide ((f.Data.length : Int) > 8)))) = false := by
    rw [decide_eq_false (by omega), Bool.false_or]
    cases hF : f.Fast
    · have := h8 hF; rw [decide_eq_false (by omega)]; rfl
    · rfl
  rw [a1, cond_false, a2, cond_false, a3, cond_false, a4, cond_false, hsz]
  rfl
theorem longest_ok {f : Frame} (hc : fcheckfr f = 0) : (flongestS f.Long f.Fast (f.Data.length : Int)).2 = 0 ∧ (((BitsS f).1.length : Nat) : Int) ≤ (flongestS f.Long f.Fast (f.Data.length : Int)).1 := by
  obtain ⟨c1, c2, c3, c4, c5, c6, c7, c8, c9, c10⟩ := fcheckfr_zero hc
  obtain ⟨s1, s2⟩ := fhead_short hc
  have hl : (lframe f.Long f.Fast (f.Data.length : Int)).Data.length = f.Data.length := by
    show (List.replicate (f.Data.length : Int).toNat (0 : Int)).length = _
    simp
  have hck : fcheckfr (lframe f.Long f.Fast (f.Data.length : Int)) = 0 := fcheckfr_one (by show (0 : Int) ≤ 0; omega) (by show (0 : Int) ≤ 2047; omega) rfl rfl (by rw [hl]; exact c8) (fun e => by rw [hl]; exact c9 e) (by rw [hl]; exact c10)
  have hh : (fheadS (lframe f.Long f.Fast (f.Data.length : Int))).length = (fheadS f).length := by rw [fheadS_len, fheadS_len, hl]
  have hk : fkind (lframe f.Long f.Fast (f.Data.length : Int)) = fkind f := by unfold fkind; rw [hl]
  have e : (BitsS f).1 = coreF f ++ tail10 := by rw [bits_core hc]
  have el : (BitsS f).1.length = (coreF f).length + 10 := by rw [e, List.length_append]; rfl
  unfold flongestS
  rw [if_neg (by omega), if_neg (by rw [hck]; simp), hh, hk, el]
  have hrow := fheadS_row f
  have hsl : (sumR 0 (fheadS f)).length = 15 := wr_length _ _
  have hsr : isRow (sumR 0 (fheadS f)) = true := wr_row _ _
  cases hF : f.Fast with
  | false =>
    rw [if_pos rfl]
    have s2 := s2 hF
    refine ⟨rfl, ?_⟩
    have hco : coreF f = putF ⟨0, 0⟩ (fheadS f ++ sumR 0 (fheadS f)) := by unfold coreF; rw [if_pos hF]
    have hp := put_length0 (fheadS f ++ sumR 0 (fheadS f)) (by rw [isRow_append, hrow, hsr]; rfl)
    rw [List.length_append, hsl] at hp
    have ew : w64 (((fheadS f).length : Int) + 15) = (((fheadS f).length + 15 : Nat) : Int) := by rw [w64_eq _ (by omega)]; omega
    have hsm := smost_le (n := (fheadS f).length + 15) (by omega)
    rw [ew]
    dsimp only
    rw [w64_eq _ (by omega)]
    rw [← hco] at hp
    omega
  | true =>
    rw [if_neg (by simp)]
    refine ⟨rfl, ?_⟩
    obtain ⟨p1, p2⟩ := head_put hc
    have hco : coreF f = putF ⟨0, 0⟩ (fheadS f) ++ fastEnd (putF ⟨0, 0⟩ (fheadS f)) (fheadS f).length (fkind f) := by unfold coreF; rw [if_neg (by rw [hF]; simp)]
    have hp := put_length0 (fheadS f) hrow
    have hsm := smost_le (n := (fheadS f).length) (by omega)
    have he := fastEnd_eq p2 (by omega) (fheadS f).length (fkind_is f)
    have hfl := fixF_length (cnt4 ((putF ⟨0, 0⟩ (fheadS f)).length - (fheadS f).length) ++ sumR (fkind f) (putF ⟨0, 0⟩ (fheadS f) ++ cnt4 ((putF ⟨0, 0⟩ (fheadS f)).length - (fheadS f).length))) 0 (lastB (putF ⟨0, 0⟩ (fheadS f)))
    rw [← he, List.length_append, (cnt4_ok _).1] at hfl
    have hsr2 : (sumR (fkind f) (putF ⟨0, 0⟩ (fheadS f) ++ cnt4 ((putF ⟨0, 0⟩ (fheadS f)).length - (fheadS f).length))).length = sizeN (fkind f) := wr_length _ _
    rw [hsr2] at hfl
    have hki := isKind_iff.1 (fkind_is f)
    have hsz : (csize (fkind f)).1 = (sizeN (fkind f) : Int) ∧ sizeN (fkind f) ≤ 21 := by
      rcases kind_cases hki with e | e | e | e | e <;> rw [e] <;> exact ⟨by decide, by decide⟩
    have hcl : (coreF f).length = (putF ⟨0, 0⟩ (fheadS f)).length + (fastEnd (putF ⟨0, 0⟩ (fheadS f)) (fheadS f).length (fkind f)).length := by rw [hco, List.length_append]
    rw [hsz.1]
    obtain ⟨z1, z2⟩ := hsz
    generalize sizeN (fkind f) = s at *
    have w1 : w64 (4 + (s : Int)) = ((4 + s : Nat) : Int) := by rw [w64_eq _ (by omega)]; omega
    have w2 : w64 (((4 + s : Nat) : Int) + 3) = ((4 + s + 3 : Nat) : Int) := by rw [w64_eq _ (by omega)]; omega
    have w3 : (((4 + s + 3 : Nat) : Int)).tdiv 4 = (((4 + s + 3) / 4 : Nat) : Int) := by rw [Int.tdiv_eq_ediv_of_nonneg (by omega)]; omega
    have w4 : w64 (((4 + s : Nat) : Int) + (((4 + s + 3) / 4 : Nat) : Int)) = ((4 + s + (4 + s + 3) / 4 : Nat) : Int) := by rw [w64_eq _ (by omega)]; omega
    have w5 : w64 (((4 + s + 3) / 4 : Nat) : Int) = (((4 + s + 3) / 4 : Nat) : Int) := w64_eq _ (by omega)
    rw [w1, w2, w3, w5, w4]
    dsimp only
    rcases hp with hp | hp
    · rw [w64_eq ((smost ((fheadS f).length : Int)).1 + _) (by omega), w64_eq _ (by omega)]
      omega
    · omega
theorem LBack_ok (f : Frame) (rest : List UInt8) (kf : okFrame f) (_ : rest.length ≤ lim) : LBack_vc f rest (fun r => r = true) := by
  intro _
  have df := byteRange kf.2.2.2.2.2.1
  refine ⟨df, fun _ => rfl, fun h => ?_⟩
  have h : ((BitsS f).2 = 0 ∧ bcheckS rest = 0) ∧ ¬ (w64 (((BitsS f).1.length : Int) + (rest.length : Int)) > 1000) := by simpa using h
  obtain ⟨⟨h1, h2⟩, h3⟩ := h
  have cf := bits_ok h1
  obtain ⟨l1, r1, _⟩ := read_bits0 cf df
  obtain ⟨rl, rr⟩ := (bcheck_zero rest).1 h2
  rw [w64_eq _ (by omega)] at h3
  have hr := read_bits cf df rr (by omega)
  obtain ⟨g1, g2⟩ := longest_ok cf
  rw [hr]
  refine ⟨by omega, fun _ => ?_⟩
  dsimp only
  have e2 : sameS f f = true := by simp [sameS]
  rw [e2, g1, decide_eq_true g2]
  simp

end Go.Proofs.YtmbdcehmeiiaoaaDoor
