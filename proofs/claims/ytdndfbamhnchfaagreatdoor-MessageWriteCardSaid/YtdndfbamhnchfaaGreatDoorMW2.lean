/- Texts put together (pure ones, or walks made by program). -/
import Derived.Test.YtdndfbamhnchfaaGreatDoorMW0
import Derived.Test.YtdndfbamhnchfaaGreatDoorMW1
set_option linter.unusedVariables false
set_option linter.unusedSimpArgs false
namespace Go.Proofs.YtdndfbamhnchfaaGreatDoor
open Go.Sy Go.RowKit
def gtwin_vc (u0 : List Int) (K : (List Int) → Prop) : Prop := (u0.length ≤ 140737488355328 → (((([] : List Int).length + u0.length) * 4 ≤ 140737488355328) ∧ (K (([] : List Int) ++ u0))))
def gwords_vc (u0 : Int) (K : (List Int) → Prop) : Prop := ((gtrimS ([wu32 u0, wu32 (bShr .u64 u0 32)] : List Int)).length ≤ 140737488355328 → (K (gtrimS ([wu32 u0, wu32 (bShr .u64 u0 32)] : List Int))))
def gmul_vc (u0 : List Int) (u1 : List Int) (K : (List Int) → Prop) : Prop := (u0.length ≤ 140737488355328 → (u1.length ≤ 140737488355328 → (((((u0.length : Int) == 0) || ((u1.length : Int) == 0)) = true → (K [])) ∧ ((((u0.length : Int) == 0) || ((u1.length : Int) == 0)) = false → ((0 ≤ (w64 ((u0.length : Int) + (u1.length : Int))) ∧ (w64 ((u0.length : Int) + (u1.length : Int))) ≤ (w64 ((u0.length : Int) + (u1.length : Int))) ∧ (w64 ((u0.length : Int) + (u1.length : Int))) * 4 ≤ 140737488355328) ∧ (∃ inv61 : Int → (List Int) → Prop, ∃ mu61 : Int → (List Int) → Nat, inv61 0 (List.replicate (w64 ((u0.length : Int) + (u1.length : Int))).toNat (0 : Int)) ∧ (∀ (x6 : Int) (zg490 : List Int), inv61 x6 zg490 → (((decide (x6 < (u0.length : Int))) = true → (∃ inv92 : Int → Int → (List Int) → Prop, ∃ mu92 : Int → Int → (List Int) → Nat, inv92 0 0 zg490 ∧ (∀ (x7 : Int) (x8 : Int) (zg490v : List Int), inv92 x7 x8 zg490v → (((decide (x8 < (u1.length : Int))) = true → ((0 ≤ x6 ∧ x6 < (u0.length : Int)) ∧ (∀ q145, u0[x6.toNat]? = some q145 → ((0 ≤ x8 ∧ x8 < (u1.length : Int)) ∧ (∀ q163, u1[x8.toNat]? = some q163 → ((0 ≤ w64 (x6 + x8) ∧ w64 (x6 + x8) < (zg490v.length : Int)) ∧ (∀ q183, zg490v[(w64 (x6 + x8)).toNat]? = some q183 → ((0 ≤ w64 (x6 + x8) ∧ w64 (x6 + x8) < (zg490v.length : Int)) ∧ (inv92 (bShr .u64 (wu64 (x7 + (wu64 ((wu64 ((wu64 q145) * (wu64 q163))) + (wu64 q183))))) 32) (w64 (x8 + 1)) (zg490v.set (w64 (x6 + x8)).toNat (wu32 (wu64 (x7 + (wu64 ((wu64 ((wu64 q145) * (wu64 q163))) + (wu64 q183))))))) ∧ mu92 (bShr .u64 (wu64 (x7 + (wu64 ((wu64 ((wu64 q145) * (wu64 q163))) + (wu64 q183))))) 32) (w64 (x8 + 1)) (zg490v.set (w64 (x6 + x8)).toNat (wu32 (wu64 (x7 + (wu64 ((wu64 ((wu64 q145) * (wu64 q163))) + (wu64 q183))))))) < mu92 x7 x8 zg490v))))))))) ∧ ((decide (x8 < (u1.length : Int))) = false → ((0 ≤ w64 (x6 + (u1.length : Int)) ∧ w64 (x6 + (u1.length : Int)) < (zg490v.length : Int)) ∧ (inv61 (w64 (x6 + 1)) (zg490v.set (w64 (x6 + (u1.length : Int))).toNat (wu32 x7)) ∧ mu61 (w64 (x6 + 1)) (zg490v.set (w64 (x6 + (u1.length : Int))).toNat (wu32 x7)) < mu61 x6 zg490))))))) ∧ ((decide (x6 < (u0.length : Int))) = false → ((gtrimS zg490).length ≤ 140737488355328 → (K (gtrimS zg490))))))))))))
def gadd_vc (u0 : List Int) (u1 : List Int) (K : (List Int) → Prop) : Prop := (u0.length ≤ 140737488355328 → (u1.length ≤ 140737488355328 → (((decide ((u0.length : Int) < (u1.length : Int))) = true → ((0 ≤ (w64 ((u1.length : Int) + 1)) ∧ (w64 ((u1.length : Int) + 1)) ≤ (w64 ((u1.length : Int) + 1)) ∧ (w64 ((u1.length : Int) + 1)) * 4 ≤ 140737488355328) ∧ (∃ inv58 : Int → Int → (List Int) → Prop, ∃ mu58 : Int → Int → (List Int) → Nat, inv58 0 0 (List.replicate (w64 ((u1.length : Int) + 1)).toNat (0 : Int)) ∧ (∀ (x6 : Int) (x7 : Int) (zg430 : List Int), inv58 x6 x7 zg430 → (((decide (x7 < (u1.length : Int))) = true → ((0 ≤ x7 ∧ x7 < (u1.length : Int)) ∧ (∀ q94, u1[x7.toNat]? = some q94 → (((decide (x7 < (u0.length : Int))) = true → ((0 ≤ x7 ∧ x7 < (u0.length : Int)) ∧ (∀ q132, u0[x7.toNat]? = some q132 → ((0 ≤ x7 ∧ x7 < (zg430.length : Int)) ∧ (inv58 (bShr .u64 (wu64 ((wu64 (x6 + (wu64 q94))) + (wu64 q132))) 32) (w64 (x7 + 1)) (zg430.set x7.toNat (wu32 (wu64 ((wu64 (x6 + (wu64 q94))) + (wu64 q132))))) ∧ mu58 (bShr .u64 (wu64 ((wu64 (x6 + (wu64 q94))) + (wu64 q132))) 32) (w64 (x7 + 1)) (zg430.set x7.toNat (wu32 (wu64 ((wu64 (x6 + (wu64 q94))) + (wu64 q132))))) < mu58 x6 x7 zg430))))) ∧ ((decide (x7 < (u0.length : Int))) = false → ((0 ≤ x7 ∧ x7 < (zg430.length : Int)) ∧ (inv58 (bShr .u64 (wu64 (x6 + (wu64 q94))) 32) (w64 (x7 + 1)) (zg430.set x7.toNat (wu32 (wu64 (x6 + (wu64 q94))))) ∧ mu58 (bShr .u64 (wu64 (x6 + (wu64 q94))) 32) (w64 (x7 + 1)) (zg430.set x7.toNat (wu32 (wu64 (x6 + (wu64 q94))))) < mu58 x6 x7 zg430))))))) ∧ ((decide (x7 < (u1.length : Int))) = false → ((0 ≤ (u1.length : Int) ∧ (u1.length : Int) < (zg430.length : Int)) ∧ ((gtrimS (zg430.set (u1.length : Int).toNat (wu32 x6))).length ≤ 140737488355328 → (K (gtrimS (zg430.set (u1.length : Int).toNat (wu32 x6)))))))))))) ∧ ((decide ((u0.length : Int) < (u1.length : Int))) = false → ((0 ≤ (w64 ((u0.length : Int) + 1)) ∧ (w64 ((u0.length : Int) + 1)) ≤ (w64 ((u0.length : Int) + 1)) ∧ (w64 ((u0.length : Int) + 1)) * 4 ≤ 140737488355328) ∧ (∃ inv282 : Int → Int → (List Int) → Prop, ∃ mu282 : Int → Int → (List Int) → Nat, inv282 0 0 (List.replicate (w64 ((u0.length : Int) + 1)).toNat (0 : Int)) ∧ (∀ (x6 : Int) (x7 : Int) (zg2670 : List Int), inv282 x6 x7 zg2670 → (((decide (x7 < (u0.length : Int))) = true → ((0 ≤ x7 ∧ x7 < (u0.length : Int)) ∧ (∀ q318, u0[x7.toNat]? = some q318 → (((decide (x7 < (u1.length : Int))) = true → ((0 ≤ x7 ∧ x7 < (u1.length : Int)) ∧ (∀ q356, u1[x7.toNat]? = some q356 → ((0 ≤ x7 ∧ x7 < (zg2670.length : Int)) ∧ (inv282 (bShr .u64 (wu64 ((wu64 (x6 + (wu64 q318))) + (wu64 q356))) 32) (w64 (x7 + 1)) (zg2670.set x7.toNat (wu32 (wu64 ((wu64 (x6 + (wu64 q318))) + (wu64 q356))))) ∧ mu282 (bShr .u64 (wu64 ((wu64 (x6 + (wu64 q318))) + (wu64 q356))) 32) (w64 (x7 + 1)) (zg2670.set x7.toNat (wu32 (wu64 ((wu64 (x6 + (wu64 q318))) + (wu64 q356))))) < mu282 x6 x7 zg2670))))) ∧ ((decide (x7 < (u1.length : Int))) = false → ((0 ≤ x7 ∧ x7 < (zg2670.length : Int)) ∧ (inv282 (bShr .u64 (wu64 (x6 + (wu64 q318))) 32) (w64 (x7 + 1)) (zg2670.set x7.toNat (wu32 (wu64 (x6 + (wu64 q318))))) ∧ mu282 (bShr .u64 (wu64 (x6 + (wu64 q318))) 32) (w64 (x7 + 1)) (zg2670.set x7.toNat (wu32 (wu64 (x6 + (wu64 q318))))) < mu282 x6 x7 zg2670))))))) ∧ ((decide (x7 < (u0.length : Int))) = false → ((0 ≤ (u0.length : Int) ∧ (u0.length : Int) < (zg2670.length : Int)) ∧ ((gtrimS (zg2670.set (u0.length : Int).toNat (wu32 x6))).length ≤ 140737488355328 → (K (gtrimS (zg2670.set (u0.length : Int).toNat (wu32 x6)))))))))))))))
def gsub_vc (u0 : List Int) (u1 : List Int) (K : (List Int) → Prop) : Prop := (u0.length ≤ 140737488355328 → (u1.length ≤ 140737488355328 → ((0 ≤ (u0.length : Int) ∧ (u0.length : Int) ≤ (u0.length : Int) ∧ (u0.length : Int) * 4 ≤ 140737488355328) ∧ (∃ inv34 : Int → Int → (List Int) → Prop, ∃ mu34 : Int → Int → (List Int) → Nat, inv34 0 0 (List.replicate (u0.length : Int).toNat (0 : Int)) ∧ (∀ (x6 : Int) (x7 : Int) (zg190 : List Int), inv34 x6 x7 zg190 → (((decide (x7 < (u0.length : Int))) = true → ((0 ≤ x7 ∧ x7 < (u0.length : Int)) ∧ (∀ q68, u0[x7.toNat]? = some q68 → (((decide (x7 < (u1.length : Int))) = true → ((0 ≤ x7 ∧ x7 < (u1.length : Int)) ∧ (∀ q108, u1[x7.toNat]? = some q108 → ((0 ≤ x7 ∧ x7 < (zg190.length : Int)) ∧ (inv34 (bShr .u64 (wu64 ((wu64 ((wu64 q68) - x6)) - (wu64 q108))) 63) (w64 (x7 + 1)) (zg190.set x7.toNat (wu32 (wu64 ((wu64 ((wu64 q68) - x6)) - (wu64 q108))))) ∧ mu34 (bShr .u64 (wu64 ((wu64 ((wu64 q68) - x6)) - (wu64 q108))) 63) (w64 (x7 + 1)) (zg190.set x7.toNat (wu32 (wu64 ((wu64 ((wu64 q68) - x6)) - (wu64 q108))))) < mu34 x6 x7 zg190))))) ∧ ((decide (x7 < (u1.length : Int))) = false → ((0 ≤ x7 ∧ x7 < (zg190.length : Int)) ∧ (inv34 (bShr .u64 (wu64 ((wu64 q68) - x6)) 63) (w64 (x7 + 1)) (zg190.set x7.toNat (wu32 (wu64 ((wu64 q68) - x6)))) ∧ mu34 (bShr .u64 (wu64 ((wu64 q68) - x6)) 63) (w64 (x7 + 1)) (zg190.set x7.toNat (wu32 (wu64 ((wu64 q68) - x6)))) < mu34 x6 x7 zg190))))))) ∧ ((decide (x7 < (u0.length : Int))) = false → ((gtrimS zg190).length ≤ 140737488355328 → (K (gtrimS zg190))))))))))
def gleft_vc (u0 : List Int) (u1 : Int) (K : (List Int) → Prop) : Prop := (u0.length ≤ 140737488355328 → ((((u0.length : Int) == 0) = true → (K [])) ∧ (((u0.length : Int) == 0) = false → ((0 ≤ (w64 ((w64 ((u0.length : Int) + (w64 (wu64 (u1.tdiv 32))))) + 1)) ∧ (w64 ((w64 ((u0.length : Int) + (w64 (wu64 (u1.tdiv 32))))) + 1)) ≤ (w64 ((w64 ((u0.length : Int) + (w64 (wu64 (u1.tdiv 32))))) + 1)) ∧ (w64 ((w64 ((u0.length : Int) + (w64 (wu64 (u1.tdiv 32))))) + 1)) * 4 ≤ 140737488355328) ∧ (∃ inv61 : Int → (List Int) → Prop, ∃ mu61 : Int → (List Int) → Nat, inv61 0 (List.replicate (w64 ((w64 ((u0.length : Int) + (w64 (wu64 (u1.tdiv 32))))) + 1)).toNat (0 : Int)) ∧ (∀ (x8 : Int) (zg490 : List Int), inv61 x8 zg490 → (((decide (x8 < (u0.length : Int))) = true → ((0 ≤ x8 ∧ x8 < (u0.length : Int)) ∧ (∀ q95, u0[x8.toNat]? = some q95 → ((0 ≤ u1.tmod 32) ∧ ((0 ≤ w64 (x8 + (w64 (wu64 (u1.tdiv 32)))) ∧ w64 (x8 + (w64 (wu64 (u1.tdiv 32)))) < (zg490.length : Int)) ∧ (∀ q129, zg490[(w64 (x8 + (w64 (wu64 (u1.tdiv 32))))).toNat]? = some q129 → ((0 ≤ w64 (x8 + (w64 (wu64 (u1.tdiv 32)))) ∧ w64 (x8 + (w64 (wu64 (u1.tdiv 32)))) < (zg490.length : Int)) ∧ ((0 ≤ w64 ((w64 (x8 + (w64 (wu64 (u1.tdiv 32))))) + 1) ∧ w64 ((w64 (x8 + (w64 (wu64 (u1.tdiv 32))))) + 1) < ((zg490.set (w64 (x8 + (w64 (wu64 (u1.tdiv 32))))).toNat (bOr .u32 q129 (wu32 (bShl .u64 (wu64 q95) (u1.tmod 32))))).length : Int)) ∧ (∀ q170, (zg490.set (w64 (x8 + (w64 (wu64 (u1.tdiv 32))))).toNat (bOr .u32 q129 (wu32 (bShl .u64 (wu64 q95) (u1.tmod 32)))))[(w64 ((w64 (x8 + (w64 (wu64 (u1.tdiv 32))))) + 1)).toNat]? = some q170 → ((0 ≤ w64 ((w64 (x8 + (w64 (wu64 (u1.tdiv 32))))) + 1) ∧ w64 ((w64 (x8 + (w64 (wu64 (u1.tdiv 32))))) + 1) < ((zg490.set (w64 (x8 + (w64 (wu64 (u1.tdiv 32))))).toNat (bOr .u32 q129 (wu32 (bShl .u64 (wu64 q95) (u1.tmod 32))))).length : Int)) ∧ (inv61 (w64 (x8 + 1)) ((zg490.set (w64 (x8 + (w64 (wu64 (u1.tdiv 32))))).toNat (bOr .u32 q129 (wu32 (bShl .u64 (wu64 q95) (u1.tmod 32))))).set (w64 ((w64 (x8 + (w64 (wu64 (u1.tdiv 32))))) + 1)).toNat (bOr .u32 q170 (wu32 (bShr .u64 (bShl .u64 (wu64 q95) (u1.tmod 32)) 32)))) ∧ mu61 (w64 (x8 + 1)) ((zg490.set (w64 (x8 + (w64 (wu64 (u1.tdiv 32))))).toNat (bOr .u32 q129 (wu32 (bShl .u64 (wu64 q95) (u1.tmod 32))))).set (w64 ((w64 (x8 + (w64 (wu64 (u1.tdiv 32))))) + 1)).toNat (bOr .u32 q170 (wu32 (bShr .u64 (bShl .u64 (wu64 q95) (u1.tmod 32)) 32)))) < mu61 x8 zg490))))))))))) ∧ ((decide (x8 < (u0.length : Int))) = false → ((gtrimS zg490).length ≤ 140737488355328 → (K (gtrimS zg490)))))))))))
def gright_vc (u0 : List Int) (u1 : Int) (K : (List Int) → Prop) : Prop := (u0.length ≤ 140737488355328 → (((decide ((w64 (wu64 (u1.tdiv 32))) ≥ (u0.length : Int))) = true → (K [])) ∧ ((decide ((w64 (wu64 (u1.tdiv 32))) ≥ (u0.length : Int))) = false → ((0 ≤ (w64 ((u0.length : Int) - (w64 (wu64 (u1.tdiv 32))))) ∧ (w64 ((u0.length : Int) - (w64 (wu64 (u1.tdiv 32))))) ≤ (w64 ((u0.length : Int) - (w64 (wu64 (u1.tdiv 32))))) ∧ (w64 ((u0.length : Int) - (w64 (wu64 (u1.tdiv 32))))) * 4 ≤ 140737488355328) ∧ (∃ inv61 : Int → (List Int) → Prop, ∃ mu61 : Int → (List Int) → Nat, inv61 0 (List.replicate (w64 ((u0.length : Int) - (w64 (wu64 (u1.tdiv 32))))).toNat (0 : Int)) ∧ (∀ (x8 : Int) (zg490 : List Int), inv61 x8 zg490 → (((decide (x8 < (zg490.length : Int))) = true → ((0 ≤ w64 (x8 + (w64 (wu64 (u1.tdiv 32)))) ∧ w64 (x8 + (w64 (wu64 (u1.tdiv 32)))) < (u0.length : Int)) ∧ (∀ q99, u0[(w64 (x8 + (w64 (wu64 (u1.tdiv 32))))).toNat]? = some q99 → (((decide ((w64 ((w64 (x8 + (w64 (wu64 (u1.tdiv 32))))) + 1)) < (u0.length : Int))) = true → ((0 ≤ w64 ((w64 (x8 + (w64 (wu64 (u1.tdiv 32))))) + 1) ∧ w64 ((w64 (x8 + (w64 (wu64 (u1.tdiv 32))))) + 1) < (u0.length : Int)) ∧ (∀ q147, u0[(w64 ((w64 (x8 + (w64 (wu64 (u1.tdiv 32))))) + 1)).toNat]? = some q147 → ((0 ≤ u1.tmod 32) ∧ ((0 ≤ x8 ∧ x8 < (zg490.length : Int)) ∧ (inv61 (w64 (x8 + 1)) (zg490.set x8.toNat (wu32 (bShr .u64 (bOr .u64 (wu64 q99) (bShl .u64 (wu64 q147) 32)) (u1.tmod 32)))) ∧ mu61 (w64 (x8 + 1)) (zg490.set x8.toNat (wu32 (bShr .u64 (bOr .u64 (wu64 q99) (bShl .u64 (wu64 q147) 32)) (u1.tmod 32)))) < mu61 x8 zg490)))))) ∧ ((decide ((w64 ((w64 (x8 + (w64 (wu64 (u1.tdiv 32))))) + 1)) < (u0.length : Int))) = false → ((0 ≤ u1.tmod 32) ∧ ((0 ≤ x8 ∧ x8 < (zg490.length : Int)) ∧ (inv61 (w64 (x8 + 1)) (zg490.set x8.toNat (wu32 (bShr .u64 (wu64 q99) (u1.tmod 32)))) ∧ mu61 (w64 (x8 + 1)) (zg490.set x8.toNat (wu32 (bShr .u64 (wu64 q99) (u1.tmod 32)))) < mu61 x8 zg490)))))))) ∧ ((decide (x8 < (zg490.length : Int))) = false → ((gtrimS zg490).length ≤ 140737488355328 → (K (gtrimS zg490)))))))))))
theorem wu64_eq (x : Int) (h : 0 ≤ x ∧ x ≤ 18446744073709551615) : wu64 x = x := IntWalk.u64_in x h
theorem shr32 (n : Nat) : bShr .u64 (n : Int) 32 = ((n / 2 ^ 32 : Nat) : Int) := shru n 32 (by omega) .u64 (by decide)
theorem take_set_self {α : Type} (l : List α) (k : Nat) (x : α) : (l.set k x).take k = l.take k := by
 apply List.ext_getElem?
 intro j
 rw [List.getElem?_take, List.getElem?_take]
 split
 · rw [List.getElem?_set_ne (by omega)]
 · rfl
theorem wv_take_set {l : List Int} {k d : Nat} (h : k < l.length) : wv ((l.set k (d : Int)).take (k + 1)) = wv (l.take k) + 4294967296 ^ k * d := by
 have h1 : (l.set k (d : Int))[k]? = some (d : Int) := by rw [List.getElem?_set_self (by omega)]
 rw [wv_next h1, take_set_self]
theorem bor64 (x y : Nat) (hx : x < 18446744073709551616) (hy : y < 18446744073709551616) : bOr .u64 (x : Int) (y : Int) = ((x ||| y : Nat) : Int) := by
 have e : (BitVec.ofInt IntKind.u64.bits (x : Int) ||| BitVec.ofInt IntKind.u64.bits (y : Int)).toNat = x ||| y := by
  rw [BitVec.toNat_or]
  show (BitVec.ofInt 64 (x : Int)).toNat ||| (BitVec.ofInt 64 (y : Int)).toNat = _
  rw [ofInt_toNat x hx, ofInt_toNat y hy]
 unfold bOr
 rw [e]
 have := Nat.or_lt_two_pow (x := x) (y := y) (n := 64) hx hy
 exact wu64_eq _ (by omega)
theorem ofInt32_toNat (a : Nat) (h : a < 4294967296) : (BitVec.ofInt 32 (a : Int)).toNat = a := by simp; omega
theorem wu32_eq (n : Nat) (h : n < 4294967296) : wu32 (n : Int) = (n : Int) := by rw [wu32_nat, Nat.mod_eq_of_lt h]
theorem bor32 (x y : Nat) (hx : x < 4294967296) (hy : y < 4294967296) : bOr .u32 (x : Int) (y : Int) = ((x ||| y : Nat) : Int) := by
 have e : (BitVec.ofInt IntKind.u32.bits (x : Int) ||| BitVec.ofInt IntKind.u32.bits (y : Int)).toNat = x ||| y := by
  rw [BitVec.toNat_or]
  show (BitVec.ofInt 32 (x : Int)).toNat ||| (BitVec.ofInt 32 (y : Int)).toNat = _
  rw [ofInt32_toNat x hx, ofInt32_toNat y hy]
 unfold bOr
 rw [e]
 exact wu32_eq _ (Nat.or_lt_two_pow (n := 32) hx hy)
theorem shlu (n s : Nat) (hs : s ≤ 64) (h : n * 2 ^ s < 18446744073709551616) : bShl .u64 (n : Int) (s : Int) = ((n * 2 ^ s : Nat) : Int) := by
 unfold bShl
 have e : min (s : Int).toNat IntKind.u64.bits = s := by rw [Int.toNat_natCast]; exact Nat.min_eq_left hs
 rw [e]
 have e2 : (n : Int) * 2 ^ s = ((n * 2 ^ s : Nat) : Int) := by norm_cast
 rw [e2]
 exact wu64_eq _ (by omega)
def gtwinS (l : List Int) : List Int := l
theorem gtwin_ok (l : List Int) (h : l.length ≤ 1000000) : gtwin_vc l (fun r => r = gtwinS l) := fun _ => ⟨by simp; omega, rfl⟩
def gwordsS (x : Int) : List Int := ws x.toNat
theorem gwords_ok (x : Int) (h : 0 ≤ x ∧ x ≤ 18446744073709551615) : gwords_vc x (fun r => r = gwordsS x) := by
 intro _
 obtain ⟨n, rfl⟩ : ∃ n : Nat, x = n := ⟨x.toNat, by omega⟩
 have e : bShr .u64 (n : Int) 32 = ((n / 2 ^ 32 : Nat) : Int) := shru n 32 (by omega) .u64 (by decide)
 rw [e, wu32_nat, wu32_nat]
 have hw : wok [((n % 4294967296 : Nat) : Int), ((n / 2 ^ 32 % 4294967296 : Nat) : Int)] := by
  intro y hy
  rcases List.mem_cons.1 hy with rfl | hy
  · omega
  · rw [List.mem_singleton.1 hy]; omega
 rw [gtrim_ws hw]
 unfold gwordsS
 congr 1
 simp only [wv, Int.toNat_natCast]
 omega
def gaddS (a b : List Int) : List Int := ws (wv a + wv b)
theorem gadd_loop (a b : List Int) (hab : b.length ≤ a.length) (ha : wok a) (hb : wok b) (hl : a.length ≤ 1000000) {Q : List Int → Prop} (hQ : ∀ l, l = ws (wv a + wv b) → Q l) : ((0 ≤ (w64 ((a.length : Int) + 1)) ∧ (w64 ((a.length : Int) + 1)) ≤ (w64 ((a.length : Int) + 1)) ∧ (w64 ((a.length : Int) + 1)) * 4 ≤ 140737488355328) ∧ (∃ inv59 : Int → Int → (List Int) → Prop, ∃ mu59 : Int → Int → (List Int) → Nat, inv59 0 0 (List.replicate (w64 ((a.length : Int) + 1)).toNat (0 : Int)) ∧ (∀ (x6 : Int) (x7 : Int) (zg430 : List Int), inv59 x6 x7 zg430 → (((decide (x7 < (a.length : Int))) = true → ((0 ≤ x7 ∧ x7 < (a.length : Int)) ∧ (∀ q95, a[x7.toNat]? = some q95 → (((decide (x7 < (b.length : Int))) = true → ((0 ≤ x7 ∧ x7 < (b.length : Int)) ∧ (∀ q134, b[x7.toNat]? = some q134 → ((0 ≤ x7 ∧ x7 < (zg430.length : Int)) ∧ (inv59 (bShr .u64 (wu64 ((wu64 (x6 + (wu64 q95))) + (wu64 q134))) 32) (w64 (x7 + 1)) (zg430.set x7.toNat (wu32 (wu64 ((wu64 (x6 + (wu64 q95))) + (wu64 q134))))) ∧ mu59 (bShr .u64 (wu64 ((wu64 (x6 + (wu64 q95))) + (wu64 q134))) 32) (w64 (x7 + 1)) (zg430.set x7.toNat (wu32 (wu64 ((wu64 (x6 + (wu64 q95))) + (wu64 q134))))) < mu59 x6 x7 zg430))))) ∧ ((decide (x7 < (b.length : Int))) = false → ((0 ≤ x7 ∧ x7 < (zg430.length : Int)) ∧ (inv59 (bShr .u64 (wu64 (x6 + (wu64 q95))) 32) (w64 (x7 + 1)) (zg430.set x7.toNat (wu32 (wu64 (x6 + (wu64 q95))))) ∧ mu59 (bShr .u64 (wu64 (x6 + (wu64 q95))) 32) (w64 (x7 + 1)) (zg430.set x7.toNat (wu32 (wu64 (x6 + (wu64 q95))))) < mu59 x6 x7 zg430))))))) ∧ ((decide (x7 < (a.length : Int))) = false → ((0 ≤ (a.length : Int) ∧ (a.length : Int) < (zg430.length : Int)) ∧ ((gtrimS (zg430.set (a.length : Int).toNat (wu32 x6))).length ≤ 140737488355328 → (Q (gtrimS (zg430.set (a.length : Int).toNat (wu32 x6))))))))))) := by
 have e0 : w64 ((a.length : Int) + 1) = ((a.length + 1 : Nat) : Int) := w64_succ _ (by omega)
 rw [e0]
 refine ⟨by omega, fun c i z => ∃ (cn k : Nat), c = cn ∧ i = k ∧ k ≤ a.length ∧ cn ≤ 1 ∧ z.length = a.length + 1 ∧ wok z ∧ wv (z.take k) + 4294967296 ^ k * cn = wv (a.take k) + wv (b.take k), fun _ i _ => a.length - i.toNat, ⟨0, 0, rfl, rfl, by omega, by omega, by simp, wok_rep _, by simp [wv]⟩, ?_⟩
 rintro _ _ z ⟨c, k, rfl, rfl, hk, hc, hz, hw, hv⟩
 have hmax : k < a.length → ∀ s : Nat, s ≤ 8589934591 → ∀ p n : Nat, s = c + n + p → a[k]? = some (n : Int) → wv (b.take (k + 1)) = wv (b.take k) + 4294967296 ^ k * p →
   (∃ (cn j : Nat), bShr .u64 (s : Int) 32 = cn ∧ w64 ((k : Int) + 1) = j ∧ j ≤ a.length ∧ cn ≤ 1 ∧ (z.set k (wu32 (s : Int))).length = a.length + 1 ∧ wok (z.set k (wu32 (s : Int))) ∧ wv ((z.set k (wu32 (s : Int))).take j) + 4294967296 ^ j * cn = wv (a.take j) + wv (b.take j)) ∧ a.length - (w64 ((k : Int) + 1)).toNat < a.length - k := by
  intro hka s hs p n hsum hn hp
  rw [w64_succ k (by omega), wu32_nat, shr32 s]
  refine ⟨⟨s / 2 ^ 32, k + 1, rfl, rfl, by omega, by omega, by rw [List.length_set]; exact hz, wok_set hw _ _ (Nat.mod_lt _ (by decide)), ?_⟩, by rw [Int.toNat_natCast]; omega⟩
  rw [wv_take_set (by omega), wv_next hn, hp, Nat.pow_succ]
  have h1 : 4294967296 ^ k * s = 4294967296 ^ k * (s % 4294967296) + 4294967296 ^ k * 4294967296 * (s / 2 ^ 32) := by
   rw [Nat.mul_assoc, ← Nat.mul_add]
   congr 1
   omega
  have h2 : 4294967296 ^ k * s = 4294967296 ^ k * c + 4294967296 ^ k * n + 4294967296 ^ k * p := by rw [hsum, Nat.mul_add, Nat.mul_add]
  generalize 4294967296 ^ k * s = A1 at *
  omega
 refine ⟨fun h1 => ?_, fun h1 => ?_⟩
 · have hka : k < a.length := by have := of_decide_eq_true h1; omega
   refine ⟨by omega, fun q hq => ?_⟩
   rw [Int.toNat_natCast] at hq
   obtain ⟨n, rfl, hn⟩ := wok_at ha hq
   rw [wu64_eq (n : Int) (by omega), wu64_eq ((c : Int) + n) (by omega)]
   refine ⟨fun h2 => ⟨by have := of_decide_eq_true h2; omega, fun p hp => ⟨by omega, ?_⟩⟩, fun h2 => ⟨by omega, ?_⟩⟩
   · rw [Int.toNat_natCast] at hp ⊢
     obtain ⟨m, rfl, hm⟩ := wok_at hb hp
     rw [wu64_eq (m : Int) (by omega), wu64_eq ((c : Int) + n + m) (by omega)]
     exact hmax hka (c + n + m) (by omega) m n rfl hq (wv_next hp)
   · rw [Int.toNat_natCast]
     have hkb : b.length ≤ k := by have := of_decide_eq_false h2; omega
     refine hmax hka (c + n) (by omega) 0 n rfl hq ?_
     have t1 : b.take (k + 1) = b := List.take_of_length_le (by omega)
     have t2 : b.take k = b := List.take_of_length_le hkb
     rw [t1, t2]
     rfl
 · have hka : k = a.length := by have := of_decide_eq_false h1; omega
   subst hka
   refine ⟨by omega, fun _ => hQ _ ?_⟩
   rw [Int.toNat_natCast, wu32_nat, gtrim_ws (wok_set hw _ _ (Nat.mod_lt _ (by decide)))]
   congr 1
   have h2 := wv_take_set (l := z) (k := a.length) (d := c % 4294967296) (by omega)
   have t1 : (z.set a.length ((c % 4294967296 : Nat) : Int)).take (a.length + 1) = z.set a.length ((c % 4294967296 : Nat) : Int) := List.take_of_length_le (by rw [List.length_set]; omega)
   have t2 : b.take a.length = b := List.take_of_length_le hab
   rw [t1] at h2
   rw [List.take_length, t2] at hv
   rw [h2, Nat.mod_eq_of_lt (by omega)]
   exact hv
theorem gadd_ok (a b : List Int) (h : wok a ∧ wok b ∧ a.length ≤ 1000000 ∧ b.length ≤ 1000000) : gadd_vc a b (fun r => r = gaddS a b) := by
 obtain ⟨ha, hb, la, lb⟩ := h
 intro _ _
 refine ⟨fun h1 => ?_, fun h1 => ?_⟩
 · exact gadd_loop (Q := fun r => r = gaddS a b) b a (by have := of_decide_eq_true h1; omega) hb ha lb fun l h => by
     show l = ws (wv a + wv b)
     rw [h, Nat.add_comm]
 · exact gadd_loop (Q := fun r => r = gaddS a b) a b (by have := of_decide_eq_false h1; omega) ha hb la fun l h => h
def gmulS (a b : List Int) : List Int := ws (wv a * wv b)
theorem mul_lt32 {n p : Nat} (hn : n < 4294967296) (hp : p < 4294967296) : n * p ≤ 18446744065119617025 :=
 Nat.mul_le_mul (Nat.le_of_lt_succ hn) (Nat.le_of_lt_succ hp)
theorem gmul_ok (a b : List Int) (h : wok a ∧ wok b ∧ a.length ≤ 1000 ∧ b.length ≤ 1000) : gmul_vc a b (fun r => r = gmulS a b) := by
 obtain ⟨ha, hb, la, lb⟩ := h
 intro _ _
 refine ⟨fun h1 => ?_, fun h1 => ?_⟩
 · have : a = [] ∨ b = [] := by
     rcases (show ((a.length : Int) == 0) = true ∨ ((b.length : Int) == 0) = true by simpa only [Bool.or_eq_true] using h1) with h1 | h1
     · have h2 : (a.length : Int) = 0 := by simpa only [beq_iff_eq] using h1
       exact .inl (List.eq_nil_of_length_eq_zero (by omega))
     · have h2 : (b.length : Int) = 0 := by simpa only [beq_iff_eq] using h1
       exact .inr (List.eq_nil_of_length_eq_zero (by omega))
   unfold gmulS
   rcases this with rfl | rfl
   · rw [wv, Nat.zero_mul, ws_zero]
   · rw [wv, Nat.mul_zero, ws_zero]
 · have e0 : w64 ((a.length : Int) + (b.length : Int)) = ((a.length + b.length : Nat) : Int) := by rw [w64_eq _ (by omega)]; rfl
   rw [e0]
   refine ⟨by omega, fun i z => ∃ k : Nat, i = k ∧ k ≤ a.length ∧ z.length = a.length + b.length ∧ wok z ∧ wv z = wv (a.take k) * wv b ∧ ∀ j, k + b.length ≤ j → j < a.length + b.length → z[j]? = some 0, fun i _ => a.length - i.toNat, ⟨0, rfl, by omega, by rw [List.length_replicate, Int.toNat_natCast], wok_rep _, by rw [wv_rep]; simp [wv], fun j _ hj => by rw [Int.toNat_natCast, List.getElem?_replicate, if_pos hj]⟩, ?_⟩
   rintro _ z ⟨k, rfl, hk, hz, hw, hv, h0⟩
   refine ⟨fun h2 => ?_, fun h2 => ?_⟩
   · have hka : k < a.length := by have := of_decide_eq_true h2; omega
     obtain ⟨x, hx⟩ : ∃ x, a[k]? = some x := ⟨_, List.getElem?_eq_getElem hka⟩
     obtain ⟨n, rfl, hn⟩ := wok_at ha hx
     refine ⟨fun c j y => ∃ (cn m : Nat), c = cn ∧ j = m ∧ m ≤ b.length ∧ cn < 4294967296 ∧ y.length = a.length + b.length ∧ wok y ∧ wv y + 4294967296 ^ (k + m) * cn = wv z + 4294967296 ^ k * (n * wv (b.take m)) ∧ ∀ i, k + b.length ≤ i → i < a.length + b.length → y[i]? = some 0, fun _ j _ => b.length - j.toNat, ⟨0, 0, rfl, rfl, by omega, by omega, hz, hw, by simp [wv], h0⟩, ?_⟩
     rintro _ _ y ⟨c, m, rfl, rfl, hm, hc, hy, hwy, hvy, h0y⟩
     refine ⟨fun h3 => ?_, fun h3 => ?_⟩
     · have hmb : m < b.length := by have := of_decide_eq_true h3; omega
       have e1 : w64 ((k : Int) + (m : Int)) = ((k + m : Nat) : Int) := by rw [w64_eq _ (by omega)]; rfl
       rw [e1]
       refine ⟨by omega, fun q hq => ⟨by omega, fun p hp => ⟨by omega, fun t ht => ⟨by omega, ?_⟩⟩⟩⟩
       rw [Int.toNat_natCast] at hq hp ht ⊢
       rw [hx] at hq
       cases hq
       obtain ⟨p, rfl, hpp⟩ := wok_at hb hp
       obtain ⟨t, rfl, htt⟩ := wok_at hwy ht
       have hnp := mul_lt32 hn hpp
       have e2 : (n : Int) * (p : Int) = ((n * p : Nat) : Int) := by norm_cast
       rw [wu64_eq (n : Int) (by omega), wu64_eq (p : Int) (by omega), wu64_eq (t : Int) (by omega), e2]
       have hvb := wv_next hp
       generalize hs : n * p = np at *
       rw [wu64_eq (np : Int) (by omega), wu64_eq ((np : Int) + t) (by omega), wu64_eq ((c : Int) + ((np : Int) + t)) (by omega)]
       have e3 : ((c : Int) + ((np : Int) + t)) = ((c + (np + t) : Nat) : Int) := by norm_cast
       rw [e3, w64_succ m (by omega), wu32_nat, shr32]
       have hset := wv_set y (k + m) t ((c + (np + t)) % 4294967296) ht
       refine ⟨⟨(c + (np + t)) / 2 ^ 32, m + 1, rfl, rfl, by omega, by omega, by rw [List.length_set]; exact hy, wok_set hwy _ _ (Nat.mod_lt _ (by decide)), ?_, fun i hi1 hi2 => ?_⟩, by (try dsimp only); omega⟩
       · rw [hvb, Nat.mul_add, Nat.mul_add, ← Nat.add_assoc k m 1, Nat.pow_succ]
         have h4 : 4294967296 ^ k * (n * (4294967296 ^ m * p)) = 4294967296 ^ (k + m) * np := by
          rw [Nat.pow_add, Nat.mul_left_comm n, hs, Nat.mul_assoc]
         rw [h4]
         have h5 : 4294967296 ^ (k + m) * (c + (np + t)) = 4294967296 ^ (k + m) * ((c + (np + t)) % 4294967296) + 4294967296 ^ (k + m) * 4294967296 * ((c + (np + t)) / 2 ^ 32) := by
          rw [Nat.mul_assoc, ← Nat.mul_add]
          congr 1
          omega
         rw [Nat.mul_add, Nat.mul_add] at h5
         generalize 4294967296 ^ (k + m) * np = A1 at *
         generalize 4294967296 ^ (k + m) * t = A2 at *
         generalize 4294967296 ^ (k + m) * c = A3 at *
         generalize 4294967296 ^ (k + m) * ((c + (np + t)) % 4294967296) = A4 at *
         generalize 4294967296 ^ (k + m) * 4294967296 * ((c + (np + t)) / 2 ^ 32) = A5 at *
         generalize 4294967296 ^ k * (n * wv (b.take m)) = A6 at *
         omega
       · rw [List.getElem?_set_ne (by omega)]
         exact h0y i hi1 hi2
     · have hmb : m = b.length := by have := of_decide_eq_false h3; omega
       subst hmb
       have e1 : w64 ((k : Int) + (b.length : Int)) = ((k + b.length : Nat) : Int) := by rw [w64_eq _ (by omega)]; rfl
       have hz0 : y[k + b.length]? = some ((0 : Nat) : Int) := h0y (k + b.length) (by omega) (by omega)
       rw [e1]
       refine ⟨by omega, ?_⟩
       rw [Int.toNat_natCast, w64_succ k (by omega), wu32_eq c hc]
       have hset := wv_set y (k + b.length) 0 c hz0
       rw [Nat.mul_zero, Nat.add_zero] at hset
       refine ⟨⟨k + 1, rfl, by omega, by rw [List.length_set]; exact hy, wok_set hwy _ _ hc, ?_, fun j hj1 hj2 => ?_⟩, by (try dsimp only); omega⟩
       · rw [hset, hvy, List.take_length, wv_next hx, hv, Nat.add_mul, Nat.mul_assoc]
       · rw [List.getElem?_set_ne (by omega)]
         exact h0y j (by omega) hj2
   · have hka : k = a.length := by have := of_decide_eq_false h2; omega
     subst hka
     intro _
     rw [gtrim_ws hw, hv, List.take_length]
     rfl
def gleftS (a : List Int) (s : Int) : List Int := ws (wv a * 2 ^ s.toNat)
theorem or_add {t lo r m : Nat} (ht : t < 2 ^ r) (hlo : lo = m * 2 ^ r) : t ||| lo = t + lo := by
 have := Nat.shiftLeft_add_eq_or_of_lt (i := r) (b := t) ht m
 rw [Nat.shiftLeft_eq, ← hlo] at this
 rw [Nat.or_comm, ← this, Nat.add_comm]
theorem gleft_ok (a : List Int) (s : Int) (h : wok a ∧ a.length ≤ 1000 ∧ 0 ≤ s ∧ s ≤ 100000) : gleft_vc a s (fun r => r = gleftS a s) := by
 obtain ⟨ha, la, hs0, hs1⟩ := h
 obtain ⟨s, rfl⟩ : ∃ n : Nat, s = n := ⟨s.toNat, by omega⟩
 intro _
 refine ⟨fun h1 => ?_, fun h1 => ?_⟩
 · have h2 : (a.length : Int) = 0 := by simpa only [beq_iff_eq] using h1
   have h3 : a = [] := List.eq_nil_of_length_eq_zero (by omega)
   subst h3
   unfold gleftS
   rw [wv, Nat.zero_mul, ws_zero]
 · have t1 : ((s : Int).tdiv 32) = ((s / 32 : Nat) : Int) := by rw [Int.tdiv_eq_ediv_of_nonneg (by omega)]; omega
   have t2 : ((s : Int).tmod 32) = ((s % 32 : Nat) : Int) := by rw [Int.tmod_eq_emod_of_nonneg (by omega)]; omega
   rw [t1, t2]
   have hsd : s = 32 * (s / 32) + s % 32 := by omega
   have hr : s % 32 < 32 := by omega
   have hwb : s / 32 ≤ 3125 := by omega
   have hpow : 2 ^ s = 4294967296 ^ (s / 32) * 2 ^ (s % 32) := by
    rw [show (4294967296 : Nat) = 2 ^ 32 from rfl, ← Nat.pow_mul, ← Nat.pow_add, ← hsd]
   unfold gleftS
   rw [Int.toNat_natCast, hpow]
   generalize s / 32 = w at *
   generalize s % 32 = r at *
   have e1 : wu64 (w : Int) = (w : Int) := wu64_eq _ (by omega)
   have e2 : w64 (w : Int) = (w : Int) := w64_eq _ (by omega)
   have e3 : w64 ((a.length : Int) + w) = ((a.length + w : Nat) : Int) := by rw [w64_eq _ (by omega)]; rfl
   rw [e1, e2, e3, w64_succ _ (by omega)]
   have p32 : 2 ^ 32 = 2 ^ (32 - r) * 2 ^ r := by rw [← Nat.pow_add]; congr 1; omega
   have pr0 := Nat.two_pow_pos r
   have pr1 : 2 ^ r ≤ 2147483648 := (show 2 ^ r ≤ 2 ^ 31 from Nat.pow_le_pow_right (by omega) (by omega))
   refine ⟨by omega, fun i z => ∃ k : Nat, i = k ∧ k ≤ a.length ∧ z.length = a.length + w + 1 ∧ wok z ∧ wv z = wv (a.take k) * (4294967296 ^ w * 2 ^ r) ∧ (∀ j, k + w + 1 ≤ j → j < a.length + w + 1 → z[j]? = some 0) ∧ ∃ t : Nat, z[k + w]? = some (t : Int) ∧ t < 2 ^ r, fun i _ => a.length - i.toNat, ⟨0, rfl, by omega, by rw [List.length_replicate, Int.toNat_natCast], wok_rep _, by rw [wv_rep]; simp [wv], fun j _ hj => by rw [Int.toNat_natCast, List.getElem?_replicate, if_pos hj], 0, by rw [Int.toNat_natCast, List.getElem?_replicate, if_pos (by omega)]; rfl, pr0⟩, ?_⟩
   rintro _ z ⟨k, rfl, hk, hz, hw, hv, h0, t, ht, htr⟩
   refine ⟨fun h2 => ?_, fun h2 => ?_⟩
   · have hka : k < a.length := by have := of_decide_eq_true h2; omega
     refine ⟨by omega, fun q hq => ⟨by omega, ?_⟩⟩
     rw [Int.toNat_natCast] at hq
     obtain ⟨n, rfl, hn⟩ := wok_at ha hq
     have e4 : w64 ((k : Int) + w) = ((k + w : Nat) : Int) := by rw [w64_eq _ (by omega)]; rfl
     have hvb : n * 2 ^ r < 18446744073709551616 := by
      have := Nat.mul_le_mul (Nat.le_of_lt_succ (show n < 4294967295 + 1 from hn)) pr1
      omega
     rw [e4, w64_succ _ (by omega), wu64_eq (n : Int) (by omega), shlu n r (by omega) hvb, wu32_nat, shr32]
     have hlo : (n * 2 ^ r) % 4294967296 = (n % 2 ^ (32 - r)) * 2 ^ r := by
      rw [show (4294967296 : Nat) = 2 ^ 32 from rfl, p32, Nat.mul_mod_mul_right]
     have hhi : (n * 2 ^ r) / 2 ^ 32 < 2 ^ r := by
      rw [Nat.div_lt_iff_lt_mul (by decide), Nat.mul_comm (2 ^ r)]
      exact Nat.mul_lt_mul_of_pos_right (show n < 2 ^ 32 from hn) pr0
     have hvv : n * 2 ^ r = (n * 2 ^ r) % 4294967296 + 4294967296 * ((n * 2 ^ r) / 2 ^ 32) := by omega
     have hlt : (n * 2 ^ r) % 4294967296 < 4294967296 := Nat.mod_lt _ (by decide)
     generalize hV : n * 2 ^ r = V at *
     generalize V % 4294967296 = lo at *
     generalize V / 2 ^ 32 = hi at *
     refine ⟨by omega, fun t' ht' => ?_⟩
     rw [Int.toNat_natCast] at ht'
     rw [ht] at ht'
     cases ht'
     have hor : t ||| lo = t + lo := or_add htr hlo
     have hsum : t + lo < 4294967296 := by
      rw [← hor]
      exact Nat.or_lt_two_pow (n := 32) (by omega) hlt
     rw [bor32 t lo (by omega) hlt, hor]
     refine ⟨by omega, by rw [List.length_set]; omega, fun u hu => ?_⟩
     rw [Int.toNat_natCast, Int.toNat_natCast] at *
     have hz0 := h0 (k + w + 1) (by omega) (by omega)
     rw [List.getElem?_set_ne (by omega), hz0] at hu
     cases hu
     have hb0 : bOr .u32 0 (wu32 (hi : Int)) = ((hi : Nat) : Int) := by
      have hih : hi < 4294967296 := by omega
      rw [wu32_eq hi hih]
      have := bor32 0 hi (by omega) hih
      rw [Nat.zero_or] at this
      exact this
     refine ⟨by rw [List.length_set]; omega, ?_⟩
     rw [hb0, w64_succ k (by omega)]
     have s1 := wv_set z (k + w) t (t + lo) ht
     have hz1 : (z.set (k + w) ((t + lo : Nat) : Int))[k + w + 1]? = some ((0 : Nat) : Int) := by rw [List.getElem?_set_ne (by omega)]; exact hz0
     have s2 := wv_set (z.set (k + w) ((t + lo : Nat) : Int)) (k + w + 1) 0 hi hz1
     refine ⟨⟨k + 1, rfl, by omega, by rw [List.length_set, List.length_set]; exact hz, wok_set (wok_set hw _ _ hsum) _ _ (by omega), ?_, fun j hj1 hj2 => ?_, hi, ?_, hhi⟩, by (try dsimp only); omega⟩
     · rw [Nat.mul_zero, Nat.add_zero] at s2
       rw [s2, wv_next hq, Nat.add_mul, ← hv]
       have h5 : 4294967296 ^ k * n * (4294967296 ^ w * 2 ^ r) = 4294967296 ^ (k + w) * V := by
        rw [← hV, Nat.pow_add, Nat.mul_assoc, Nat.mul_assoc, Nat.mul_left_comm n]
       rw [h5, hvv, Nat.mul_add, Nat.pow_succ, Nat.mul_assoc (4294967296 ^ (k + w))]
       rw [Nat.mul_add] at s1
       generalize 4294967296 ^ (k + w) * t = A1 at *
       generalize 4294967296 ^ (k + w) * lo = A2 at *
       generalize 4294967296 ^ (k + w) * (4294967296 * hi) = A3 at *
       omega
     · rw [List.getElem?_set_ne (by omega), List.getElem?_set_ne (by omega)]
       exact h0 j (by omega) hj2
     · have e9 : k + 1 + w = k + w + 1 := by omega
       rw [e9, List.getElem?_set_self (by rw [List.length_set]; omega)]
   · have hka : k = a.length := by have := of_decide_eq_false h2; omega
     subst hka
     intro _
     rw [gtrim_ws hw, hv, List.take_length]
def gplainS (l : List Int) : Int := ((wv l % 18446744073709551616 : Nat) : Int)
theorem gplain_ok (l : List Int) (h : wok l) : gplain_vc l (fun r => r = gplainS l) := by
 intro _
 unfold gplainS
 have key : ∀ n m : Nat, n < 4294967296 → m < 4294967296 → bOr .u64 (n : Int) (bShl .u64 (m : Int) 32) = ((n + 4294967296 * m : Nat) : Int) := by
  intro n m hn hm
  have e1 : bShl .u64 (m : Int) 32 = ((m * 2 ^ 32 : Nat) : Int) := shlu m 32 (by omega) (by omega)
  rw [e1, bor64 n _ (by omega) (by omega), or_add (r := 32) hn rfl]
  congr 1
  omega
 cases l with
 | nil => exact ⟨fun h1 => (by cases h1), fun _ => ⟨fun h1 => (by cases h1), fun _ => rfl⟩⟩
 | cons a l =>
  obtain ⟨h1, h2⟩ := wok_cons h
  obtain ⟨a, rfl⟩ : ∃ n : Nat, a = n := ⟨a.toNat, by omega⟩
  refine ⟨fun _ => ⟨by (simp <;> omega), fun q hq => ?_⟩, fun h3 => ?_⟩
  · cases hq
    rw [wu64_eq (a : Int) (by omega)]
    cases l with
    | nil => exact ⟨fun h3 => absurd h3 (by simp), fun _ => by simp only [wv, Int.toNat_natCast, Nat.mul_zero, Nat.add_zero]; rw [Nat.mod_eq_of_lt (by omega)]⟩
    | cons b l =>
     obtain ⟨h3, h4⟩ := wok_cons h2
     obtain ⟨b, rfl⟩ : ∃ n : Nat, b = n := ⟨b.toNat, by omega⟩
     refine ⟨fun _ => ⟨by (simp <;> omega), fun p hp => ?_⟩, fun h5 => absurd (of_decide_eq_false h5) (by simp <;> omega)⟩
     cases hp
     rw [wu64_eq (b : Int) (by omega), key a b (by omega) (by omega)]
     simp only [wv, Int.toNat_natCast]
     congr 2
     omega
  · exact absurd (of_decide_eq_false h3) (by simp <;> omega)
theorem ws_ge {n : Nat} (h : n ≠ 0) : 4294967296 ^ ((ws n).length - 1) ≤ n := by
 obtain ⟨p, q, hp, hq, _⟩ := ws_last h
 have e := wv_ws n
 rw [hp, wv_append] at e
 rw [hp, List.length_append, List.length_singleton, Nat.add_sub_cancel]
 simp only [wv, Int.toNat_natCast, Nat.mul_zero, Nat.add_zero] at e
 have : 4294967296 ^ p.length * 1 ≤ 4294967296 ^ p.length * q := Nat.mul_le_mul_left _ (by omega)
 omega
theorem ws_nil {n : Nat} : ws n = [] ↔ n = 0 := by
 constructor
 · intro h
   rw [← wv_ws n, h]
   rfl
 · rintro rfl
   exact ws_zero
theorem ws_len0 {n : Nat} : (ws n).length = 0 ↔ n = 0 := by rw [List.length_eq_zero_iff, ws_nil]
theorem ws_lt_len {n m : Nat} (h : (ws n).length < (ws m).length) : n < m := by
 have hm : m ≠ 0 := by
  rintro rfl
  rw [ws_zero] at h
  exact absurd h (Nat.not_lt_zero _)
 have h1 := wv_lt (ws_wok n)
 rw [wv_ws] at h1
 have h2 := ws_ge hm
 have h3 : 4294967296 ^ (ws n).length ≤ 4294967296 ^ ((ws m).length - 1) := Nat.pow_le_pow_right (by omega) (by omega)
 omega
theorem wv_split (l : List Int) (k : Nat) (hk : k ≤ l.length) : wv l = wv (l.take k) + 4294967296 ^ k * wv (l.drop k) := by
 have := wv_append (l.take k) (l.drop k)
 rw [List.take_append_drop, List.length_take, Nat.min_eq_left hk] at this
 exact this
theorem wv_top {l : List Int} {k : Nat} {q : Int} (h : l[k]? = some q) : wv l = wv (l.take k) + 4294967296 ^ k * (q.toNat + 4294967296 * wv (l.drop (k + 1))) := by
 obtain ⟨hk, he⟩ := List.getElem?_eq_some_iff.1 h
 rw [wv_split l k (by omega), List.drop_eq_getElem_cons hk, he]
 rfl
def gcmpS (a b : List Int) : Int := if wv a < wv b then -1 else if wv b < wv a then 1 else 0
theorem gcmp_ok (a b : List Int) (h : a.length ≤ 1000 ∧ b.length ≤ 1000 ∧ a = ws (wv a) ∧ b = ws (wv b)) : gcmp_vc a b (fun r => r = gcmpS a b) := by
 intro _ _
 obtain ⟨h1, h2, ha, hb⟩ := h
 have wa : wok a := by rw [ha]; exact ws_wok _
 have wb : wok b := by rw [hb]; exact ws_wok _
 unfold gcmpS
 refine ⟨fun h3 => ⟨fun h4 => ?_, fun h4 => ?_⟩, fun h3 => ?_⟩
 · have h4 := of_decide_eq_true h4
   have : wv a < wv b := ws_lt_len (by rw [← ha, ← hb]; omega)
   rw [if_pos this]
 · have h4 := of_decide_eq_false h4
   have h3 : ¬ (a.length : Int) = b.length := by simpa using h3
   have : wv b < wv a := ws_lt_len (by rw [← ha, ← hb]; omega)
   rw [if_neg (by omega), if_pos this]
 · have h3 : (a.length : Int) = b.length := by simpa using h3
   refine ⟨fun i => ∃ k : Nat, i = (k : Int) - 1 ∧ k ≤ a.length ∧ a.drop k = b.drop k, fun i => (i + 1).toNat, ⟨a.length, w64_eq _ (by omega), by omega, ?_⟩, ?_⟩
   · rw [List.drop_eq_nil_of_le (by omega), List.drop_eq_nil_of_le (by omega)]
   · rintro _ ⟨k, rfl, hk, he⟩
     refine ⟨fun h5 => ?_, fun h5 => ?_⟩
     · have h5 := of_decide_eq_true h5
       obtain ⟨k, rfl⟩ : ∃ n, k = n + 1 := ⟨k - 1, by omega⟩
       have e : (((k + 1 : Nat) : Int) - 1) = k := by omega
       rw [e] at *
       refine ⟨by omega, fun p hp => ⟨by omega, fun q hq => ?_⟩⟩
       rw [Int.toNat_natCast] at hp hq
       have ep := wv_top hp
       have eq := wv_top hq
       rw [he] at ep
       have lp := wv_lt (wok_take wa k)
       have lq := wv_lt (wok_take wb k)
       rw [List.length_take, Nat.min_eq_left (by omega)] at lp lq
       obtain ⟨p, rfl, hp2⟩ := wok_at wa hp
       obtain ⟨q, rfl, hq2⟩ := wok_at wb hq
       rw [Int.toNat_natCast] at ep eq
       refine ⟨fun h6 => ⟨by omega, fun p' hp' => ⟨by omega, fun q' hq' => ?_⟩⟩, fun h6 => ?_⟩
       · rw [Int.toNat_natCast, hp] at hp'
         rw [Int.toNat_natCast, hq] at hq'
         cases hp'
         cases hq'
         have h6 : ¬ p = q := fun hc => by subst hc; simp at h6
         have key : ∀ {x y : Nat}, x < y → ∀ {u v : Nat}, u < 4294967296 ^ k → ∀ r, u + 4294967296 ^ k * (x + 4294967296 * r) < v + 4294967296 ^ k * (y + 4294967296 * r) := by
          intro x y hxy u v hu r
          have : 4294967296 ^ k * (x + 4294967296 * r + 1) ≤ 4294967296 ^ k * (y + 4294967296 * r) := Nat.mul_le_mul_left _ (by omega)
          rw [Nat.mul_add, Nat.mul_one] at this
          omega
         refine ⟨fun h7 => ?_, fun h7 => ?_⟩
         · have h7 := of_decide_eq_true h7
           have : wv a < wv b := by rw [ep, eq]; exact key (by omega) lp _
           rw [if_pos this]
         · have h7 := of_decide_eq_false h7
           have : wv b < wv a := by rw [ep, eq]; exact key (by omega) lq _
           rw [if_neg (by omega), if_pos this]
       · have h6 : (p : Int) = q := by simpa using h6
         have h6 : p = q := by omega
         subst h6
         refine ⟨⟨k, ?_, by omega, ?_⟩, ?_⟩
         · rw [w64_eq _ (by omega)]
         · obtain ⟨k1, e1⟩ := List.getElem?_eq_some_iff.1 hp
           obtain ⟨k2, e2⟩ := List.getElem?_eq_some_iff.1 hq
           rw [List.drop_eq_getElem_cons k1, List.drop_eq_getElem_cons k2, e1, e2, he]
         · rw [w64_eq _ (by omega)]
           (try dsimp only)
           omega
     · have h5 := of_decide_eq_false h5
       have e : k = 0 := by omega
       subst e
       rw [List.drop_zero, List.drop_zero] at he
       rw [he, if_neg (Nat.lt_irrefl _), if_neg (Nat.lt_irrefl _)]
def gsubS (a b : List Int) : List Int := ws (wv a - wv b)
theorem wu64_neg (x : Int) (h : -18446744073709551616 ≤ x ∧ x < 0) : wu64 x = x + 18446744073709551616 := by
 show IntKind.u64.wrap x = _
 simp [IntKind.wrap, IntKind.bits, IntKind.signed]
 omega
theorem wu64_less (x y : Int) (hx : -18446744073709551616 ≤ x ∧ x ≤ 18446744073709551615) (hy : 0 ≤ y ∧ y ≤ 4294967296) : wu64 (wu64 x - y) = wu64 (x - y) := by
 show IntKind.u64.wrap (IntKind.u64.wrap x - y) = IntKind.u64.wrap (x - y)
 simp [IntKind.wrap, IntKind.bits, IntKind.signed]
theorem borrow (d : Int) (h : -4294967296 ≤ d ∧ d < 4294967296) : ∃ r c : Nat, wu32 (wu64 d) = (r : Int) ∧ bShr .u64 (wu64 d) 63 = (c : Int) ∧ r < 4294967296 ∧ c ≤ 1 ∧ d + 4294967296 * c = r := by
 by_cases hd : 0 ≤ d
 · obtain ⟨n, rfl⟩ : ∃ n : Nat, d = n := ⟨d.toNat, by omega⟩
   have e : bShr .u64 (n : Int) 63 = ((n / 2 ^ 63 : Nat) : Int) := shru n 63 (by omega) .u64 (by decide)
   rw [wu64_eq (n : Int) (by omega), wu32_nat, e]
   exact ⟨_, _, rfl, rfl, Nat.mod_lt _ (by decide), by omega, by omega⟩
 · rw [wu64_neg d (by omega)]
   obtain ⟨n, hn⟩ : ∃ n : Nat, d + 18446744073709551616 = n := ⟨(d + 18446744073709551616).toNat, by omega⟩
   have e : bShr .u64 (n : Int) 63 = ((n / 2 ^ 63 : Nat) : Int) := shru n 63 (by omega) .u64 (by decide)
   rw [hn, wu32_nat, e]
   exact ⟨_, _, rfl, rfl, Nat.mod_lt _ (by decide), by omega, by omega⟩
theorem gsub_ok (a b : List Int) (h : wok a ∧ wok b ∧ a.length ≤ 1000 ∧ b.length ≤ a.length ∧ wv b ≤ wv a) : gsub_vc a b (fun r => r = gsubS a b) := by
 obtain ⟨ha, hb, hl, hab, hle⟩ := h
 intro _ _
 refine ⟨by omega, fun c i z => ∃ (cn k : Nat), c = cn ∧ i = k ∧ k ≤ a.length ∧ cn ≤ 1 ∧ z.length = a.length ∧ wok z ∧ wv (z.take k) + wv (b.take k) = wv (a.take k) + 4294967296 ^ k * cn, fun _ i _ => a.length - i.toNat, ⟨0, 0, rfl, rfl, by omega, by omega, by simp, wok_rep _, by simp [wv]⟩, ?_⟩
 rintro _ _ z ⟨c, k, rfl, rfl, hk, hc, hz, hw, hv⟩
 have hmax : k < a.length → ∀ (d : Int) (p n : Nat), n < 4294967296 → p < 4294967296 → d = (n : Int) - c - p → a[k]? = some (n : Int) → wv (b.take (k + 1)) = wv (b.take k) + 4294967296 ^ k * p →
   (∃ (cn j : Nat), bShr .u64 (wu64 d) 63 = cn ∧ w64 ((k : Int) + 1) = j ∧ j ≤ a.length ∧ cn ≤ 1 ∧ (z.set k (wu32 (wu64 d))).length = a.length ∧ wok (z.set k (wu32 (wu64 d))) ∧ wv ((z.set k (wu32 (wu64 d))).take j) + wv (b.take j) = wv (a.take j) + 4294967296 ^ j * cn) ∧ a.length - (w64 ((k : Int) + 1)).toNat < a.length - k := by
  intro hka d p n hn0 hp0 hd hn hp
  obtain ⟨r, cn, e1, e2, hr, hcn, hrel⟩ := borrow d (by omega)
  rw [e1, e2, w64_succ k (by omega)]
  refine ⟨⟨cn, k + 1, rfl, rfl, by omega, hcn, by rw [List.length_set]; exact hz, wok_set hw _ _ hr, ?_⟩, by rw [Int.toNat_natCast]; omega⟩
  rw [wv_take_set (by omega), wv_next hn, hp, Nat.pow_succ]
  have h1 : r + c + p = n + 4294967296 * cn := by omega
  have h2 : 4294967296 ^ k * r + 4294967296 ^ k * c + 4294967296 ^ k * p = 4294967296 ^ k * n + 4294967296 ^ k * 4294967296 * cn := by
   rw [Nat.mul_assoc, ← Nat.mul_add, ← Nat.mul_add, ← Nat.mul_add, h1]
  generalize 4294967296 ^ k * 4294967296 * cn = A1 at *
  omega
 refine ⟨fun h1 => ?_, fun h1 => ?_⟩
 · have hka : k < a.length := by have := of_decide_eq_true h1; omega
   refine ⟨by omega, fun q hq => ?_⟩
   rw [Int.toNat_natCast] at hq
   obtain ⟨n, rfl, hn⟩ := wok_at ha hq
   rw [wu64_eq (n : Int) (by omega)]
   refine ⟨fun h2 => ⟨by have := of_decide_eq_true h2; omega, fun p hp => ⟨by omega, ?_⟩⟩, fun h2 => ⟨by omega, ?_⟩⟩
   · rw [Int.toNat_natCast] at hp ⊢
     obtain ⟨m, rfl, hm⟩ := wok_at hb hp
     rw [wu64_eq (m : Int) (by omega), wu64_less _ _ (by omega) (by omega)]
     exact hmax hka _ m n hn hm rfl hq (wv_next hp)
   · rw [Int.toNat_natCast]
     have hkb : b.length ≤ k := by have := of_decide_eq_false h2; omega
     refine hmax hka _ 0 n hn (by omega) (by omega) hq ?_
     have t1 : b.take (k + 1) = b := List.take_of_length_le (by omega)
     have t2 : b.take k = b := List.take_of_length_le hkb
     rw [t1, t2]
     rfl
 · have hka : k = a.length := by have := of_decide_eq_false h1; omega
   subst hka
   intro _
   rw [gtrim_ws hw]
   unfold gsubS
   have t1 : z.take a.length = z := List.take_of_length_le (by omega)
   have t2 : b.take a.length = b := List.take_of_length_le hab
   rw [List.take_length, t1, t2] at hv
   have hzl := wv_lt hw
   rw [hz] at hzl
   have hc0 : c = 0 := by
    rcases Nat.lt_or_ge c 1 with h | h
    · omega
    · have : c = 1 := by omega
      subst this
      omega
   subst hc0
   congr 1
   omega
end Go.Proofs.YtdndfbamhnchfaaGreatDoor
set_option linter.unusedVariables false
set_option linter.unusedSimpArgs false
namespace Go.Proofs.YtdndfbamhnchfaaGreatDoor
open Go.Sy Go.RowKit
def gdiv_vc (u0 : List Int) (u1 : List Int) (K : ((List Int) × (List Int)) → Prop) : Prop := (u0.length ≤ 140737488355328 → (u1.length ≤ 140737488355328 → ((((u1.length : Int) == 0) = false) ∧ ((u0.length ≤ 1000 ∧ u1.length ≤ 1000 ∧ u0 = ws (wv u0) ∧ u1 = ws (wv u1)) ∧ (((decide ((gcmpS u0 u1) < 0)) = true → ((u0.length ≤ 1000000) ∧ ((gtwinS u0).length ≤ 140737488355328 → (K ([], (gtwinS u0)))))) ∧ ((decide ((gcmpS u0 u1) < 0)) = false → (((decide ((u0.length : Int) ≤ 2)) = true) ∧ ((wok u0) ∧ ((wok u1) ∧ (((gplainS u1) ≠ 0) ∧ (((gplainS u1) ≠ 0) ∧ ((0 ≤ (wu64 ((gplainS u0).tdiv (gplainS u1))) ∧ (wu64 ((gplainS u0).tdiv (gplainS u1))) ≤ 18446744073709551615) ∧ ((0 ≤ ((gplainS u0).tmod (gplainS u1)) ∧ ((gplainS u0).tmod (gplainS u1)) ≤ 18446744073709551615) ∧ (K ((gwordsS (wu64 ((gplainS u0).tdiv (gplainS u1)))), (gwordsS ((gplainS u0).tmod (gplainS u1))))))))))))))))))
def gcom_vc (u0 : List Int) (u1 : List Int) (K : (List Int) → Prop) : Prop := (u0.length ≤ 140737488355328 → (u1.length ≤ 140737488355328 → (∃ inv13 : (List Int) → (List Int) → Prop, ∃ mu13 : (List Int) → (List Int) → Nat, inv13 u0 u1 ∧ (∀ (x0 : List Int) (x1 : List Int), inv13 x0 x1 → (((decide ((x1.length : Int) > 2)) = false) ∧ ((((x1.length : Int) == 0) = true → (K x0)) ∧ (((x1.length : Int) == 0) = false → (((decide ((x0.length : Int) > 2)) = false) ∧ ((wok x0) ∧ ((wok x1) ∧ (∃ inv83 : Int → Int → Prop, ∃ mu83 : Int → Int → Nat, inv83 (gplainS x0) (gplainS x1) ∧ (∀ (x9 : Int) (x10 : Int), inv83 x9 x10 → (((decide (x10 > 0)) = true → ((x10 ≠ 0) ∧ (inv83 x10 (x9.tmod x10) ∧ mu83 x10 (x9.tmod x10) < mu83 x9 x10))) ∧ ((decide (x10 > 0)) = false → ((0 ≤ x9 ∧ x9 ≤ 18446744073709551615) ∧ ((gwordsS x9).length ≤ 140737488355328 → (K (gwordsS x9))))))))))))))))))
def gsum_vc (u0 : Bool) (u1 : List Int) (u2 : Bool) (u3 : List Int) (K : (Bool × (List Int)) → Prop) : Prop := (u1.length ≤ 140737488355328 → (u3.length ≤ 140737488355328 → (((u0 == u2) = true → ((wok u1 ∧ wok u3 ∧ u1.length ≤ 1000000 ∧ u3.length ≤ 1000000) ∧ ((gaddS u1 u3).length ≤ 140737488355328 → (K (u0, (gaddS u1 u3)))))) ∧ ((u0 == u2) = false → ((u1.length ≤ 1000 ∧ u3.length ≤ 1000 ∧ u1 = ws (wv u1) ∧ u3 = ws (wv u3)) ∧ (((decide ((gcmpS u1 u3) ≥ 0)) = true → ((wok u1 ∧ wok u3 ∧ u1.length ≤ 1000 ∧ u3.length ≤ u1.length ∧ wv u3 ≤ wv u1) ∧ ((gsubS u1 u3).length ≤ 140737488355328 → (K (u0, (gsubS u1 u3)))))) ∧ ((decide ((gcmpS u1 u3) ≥ 0)) = false → ((wok u3 ∧ wok u1 ∧ u3.length ≤ 1000 ∧ u1.length ≤ u3.length ∧ wv u1 ≤ wv u3) ∧ ((gsubS u3 u1).length ≤ 140737488355328 → (K (u2, (gsubS u3 u1))))))))))))
def ggive_vc (u0 : BInt) (u1 : Bool) (u2 : List Int) (K : BInt → Prop) : Prop := (u0.abs.length ≤ 140737488355328 → (u2.length ≤ 140737488355328 → (K (⟨u1 && (decide ((u2.length : Int) > 0)), u2⟩ : BInt))))
def ggive (u0 : BInt) (u1 : Bool) (u2 : List Int) : BInt :=
 (⟨u1 && (decide ((u2.length : Int) > 0)), u2⟩ : BInt)
theorem ggive_ok (u0 : BInt) (u1 : Bool) (u2 : List Int) : ggive_vc u0 u1 u2 (fun r => r = ggive u0 u1 u2) := (fun _ => (fun _ => (by rfl)))
def ggiveA_vc (u0 : BRat) (u1 : Bool) (u2 : List Int) (K : BRat → Prop) : Prop := (u0.a.abs.length ≤ 140737488355328 → (u0.b.abs.length ≤ 140737488355328 → (u2.length ≤ 140737488355328 → (K (⟨(⟨u1 && (decide ((u2.length : Int) > 0)), u2⟩ : BInt), u0.b⟩ : BRat)))))
def ggiveA (u0 : BRat) (u1 : Bool) (u2 : List Int) : BRat :=
 (⟨(⟨u1 && (decide ((u2.length : Int) > 0)), u2⟩ : BInt), u0.b⟩ : BRat)
theorem ggiveA_ok (u0 : BRat) (u1 : Bool) (u2 : List Int) : ggiveA_vc u0 u1 u2 (fun r => r = ggiveA u0 u1 u2) := (fun _ => (fun _ => (fun _ => (by rfl))))
def ggiveB_vc (u0 : BRat) (u1 : Bool) (u2 : List Int) (K : BRat → Prop) : Prop := (u0.a.abs.length ≤ 140737488355328 → (u0.b.abs.length ≤ 140737488355328 → (u2.length ≤ 140737488355328 → (K (⟨u0.a, (⟨u1 && (decide ((u2.length : Int) > 0)), u2⟩ : BInt)⟩ : BRat)))))
def ggiveB (u0 : BRat) (u1 : Bool) (u2 : List Int) : BRat :=
 (⟨u0.a, (⟨u1 && (decide ((u2.length : Int) > 0)), u2⟩ : BInt)⟩ : BRat)
theorem ggiveB_ok (u0 : BRat) (u1 : Bool) (u2 : List Int) : ggiveB_vc u0 u1 u2 (fun r => r = ggiveB u0 u1 u2) := (fun _ => (fun _ => (fun _ => (by rfl))))
def gnew_vc (u0 : Int) (K : BInt → Prop) : Prop := (((decide (u0 < 0)) = true → ((0 ≤ (wu64 (0 - (wu64 u0))) ∧ (wu64 (0 - (wu64 u0))) ≤ 18446744073709551615) ∧ ((gwordsS (wu64 (0 - (wu64 u0)))).length ≤ 140737488355328 → (∀ r65, (ggive (⟨false, []⟩ : BInt) (decide (u0 < 0)) (gwordsS (wu64 (0 - (wu64 u0))))) = r65 → (r65.abs.length ≤ 140737488355328 → (K r65)))))) ∧ ((decide (u0 < 0)) = false → ((0 ≤ (wu64 u0) ∧ (wu64 u0) ≤ 18446744073709551615) ∧ ((gwordsS (wu64 u0)).length ≤ 140737488355328 → (∀ r110, (ggive (⟨false, []⟩ : BInt) (decide (u0 < 0)) (gwordsS (wu64 u0))) = r110 → (r110.abs.length ≤ 140737488355328 → (K r110)))))))
def rden_vc (u0 : BRat) (K : BRat → Prop) : Prop := (u0.a.abs.length ≤ 140737488355328 → (u0.b.abs.length ≤ 140737488355328 → ((((u0.b.abs.length : Int) == 0) = false) ∧ (K u0))))
def gnegA_vc (u0 : BRat) (K : BRat → Prop) : Prop := (u0.a.abs.length ≤ 140737488355328 → (u0.b.abs.length ≤ 140737488355328 → ((u0.a.abs.length ≤ 1000000) ∧ (K (ggiveA u0 (!u0.a.neg) (gtwinS u0.a.abs))))))
def gnegB_vc (u0 : BRat) (K : BRat → Prop) : Prop := (u0.a.abs.length ≤ 140737488355328 → (u0.b.abs.length ≤ 140737488355328 → ((u0.b.abs.length ≤ 1000000) ∧ (K (ggiveB u0 (!u0.b.neg) (gtwinS u0.b.abs))))))
def grightS (a : List Int) (n : Int) : List Int := ws (wv a / 2 ^ n.toNat)
theorem low_words {n : Nat} (hn : n ≤ 31) (u t : Nat) : (u + 18446744073709551616 * t) / 2 ^ n % 4294967296 = u / 2 ^ n % 4294967296 := by
 have e : 18446744073709551616 * t = 2 ^ n * (4294967296 * (2 ^ (32 - n) * t)) := by
  have e1 : 2 ^ n * 2 ^ (32 - n) = 4294967296 := by rw [← Nat.pow_add, show n + (32 - n) = 32 by omega]
  have e2 : 2 ^ n * (4294967296 * (2 ^ (32 - n) * t)) = (2 ^ n * 2 ^ (32 - n)) * (4294967296 * t) := by
   rw [Nat.mul_assoc (2 ^ n), Nat.mul_left_comm (2 ^ (32 - n)), Nat.mul_left_comm]
  rw [e2, e1, ← Nat.mul_assoc]
 rw [e, Nat.add_mul_div_left _ _ (Nat.two_pow_pos n), Nat.add_mul_mod_self_left]
theorem wv_drop {l : List Int} (h : wok l) {k : Nat} (hk : k ≤ l.length) : wv l / 4294967296 ^ k = wv (l.drop k) := by
 rw [wv_split l k hk]
 have := wv_lt (wok_take h k)
 rw [List.length_take, Nat.min_eq_left hk] at this
 rw [Nat.add_mul_div_left _ _ (Nat.pow_pos (by omega)), Nat.div_eq_of_lt this, Nat.zero_add]
theorem gright_ok (a : List Int) (s : Int) (h : wok a ∧ a.length ≤ 1000 ∧ 0 ≤ s ∧ s ≤ 31) : gright_vc a s (fun r => r = grightS a s) := by
 obtain ⟨ha, hl, hs⟩ := h
 obtain ⟨n, rfl⟩ : ∃ n : Nat, s = n := ⟨s.toNat, by omega⟩
 have hn : n ≤ 31 := by omega
 have e0 : ((n : Int)).tdiv 32 = 0 := by rw [Int.tdiv_eq_ediv_of_nonneg (by omega)]; omega
 have e1 : ((n : Int)).tmod 32 = n := by rw [Int.tmod_eq_emod_of_nonneg (by omega)]; omega
 have e2 : wu64 0 = 0 := by decide
 have e3 : w64 0 = 0 := by decide
 unfold gright_vc grightS
 rw [e0, e1, e2, e3, Int.toNat_natCast]
 intro _
 refine ⟨fun h1 => ?_, fun h1 => ?_⟩
 · have h1 := of_decide_eq_true h1
   have : a = [] := List.length_eq_zero_iff.1 (by omega)
   subst this
   show [] = ws (0 / 2 ^ n)
   rw [Nat.zero_div, ws_zero]
 · have e4 : w64 ((a.length : Int) - 0) = a.length := by rw [w64_eq _ (by omega)]; omega
   rw [e4]
   refine ⟨by omega, fun i z => ∃ k : Nat, i = k ∧ k ≤ a.length ∧ z.length = a.length ∧ wok z ∧ wv (z.take k) = wv a / 2 ^ n % 4294967296 ^ k, fun i _ => a.length - i.toNat, ⟨0, rfl, by omega, by simp, wok_rep _, by simp [wv, Nat.mod_one]⟩, ?_⟩
   rintro _ z ⟨k, rfl, hk, hz, hw, hv⟩
   have e5 : k < a.length → w64 ((k : Int) + 0) = k := fun h => by rw [w64_eq _ (by omega)]; omega
   have step : k < a.length → ∀ u : Nat, u / 2 ^ n % 4294967296 = wv (a.drop k) / 2 ^ n % 4294967296 →
     (∃ j : Nat, w64 ((k : Int) + 1) = j ∧ j ≤ a.length ∧ (z.set k (wu32 ((u / 2 ^ n : Nat) : Int))).length = a.length ∧ wok (z.set k (wu32 ((u / 2 ^ n : Nat) : Int))) ∧ wv ((z.set k (wu32 ((u / 2 ^ n : Nat) : Int))).take j) = wv a / 2 ^ n % 4294967296 ^ j) ∧ a.length - (w64 ((k : Int) + 1)).toNat < a.length - k := by
    intro hka u hu
    rw [w64_succ k (by omega), wu32_nat]
    refine ⟨⟨k + 1, rfl, by omega, by rw [List.length_set]; exact hz, wok_set hw _ _ (Nat.mod_lt _ (by decide)), ?_⟩, by rw [Int.toNat_natCast]; omega⟩
    rw [wv_take_set (by omega), hv, Nat.mod_pow_succ, hu, Nat.div_div_eq_div_mul, Nat.mul_comm (2 ^ n), ← Nat.div_div_eq_div_mul, wv_drop ha (by omega)]
   refine ⟨fun h2 => ?_, fun h2 => ?_⟩
   · have hka : k < a.length := by have := of_decide_eq_true h2; omega
     rw [e5 hka]
     refine ⟨by omega, fun q hq => ?_⟩
     rw [Int.toNat_natCast] at hq
     obtain ⟨k1, he⟩ := List.getElem?_eq_some_iff.1 hq
     obtain ⟨q, rfl, hq0⟩ := wok_at ha hq
     rw [wu64_eq (q : Int) (by omega), w64_succ k (by omega)]
     have hd : wv (a.drop k) = q + 4294967296 * wv (a.drop (k + 1)) := by
      rw [List.drop_eq_getElem_cons k1, he]
      rfl
     refine ⟨fun h3 => ?_, fun h3 => ⟨by omega, by omega, ?_⟩⟩
     · have hk2 : k + 1 < a.length := by have := of_decide_eq_true h3; omega
       refine ⟨by omega, fun p hp => ?_⟩
       rw [Int.toNat_natCast] at hp
       obtain ⟨k2, hf⟩ := List.getElem?_eq_some_iff.1 hp
       obtain ⟨p, rfl, hp0⟩ := wok_at ha hp
       have hd2 : wv (a.drop (k + 1)) = p + 4294967296 * wv (a.drop (k + 2)) := by
        rw [List.drop_eq_getElem_cons k2, hf]
        rfl
       have ew : bOr .u64 (q : Int) (bShl .u64 (p : Int) 32) = ((q + 4294967296 * p : Nat) : Int) := by
        have e1 : bShl .u64 (p : Int) 32 = ((p * 2 ^ 32 : Nat) : Int) := shlu p 32 (by omega) (by omega)
        rw [e1, bor64 q _ (by omega) (by omega), or_add (r := 32) hq0 rfl]
        congr 1
        omega
       rw [wu64_eq (p : Int) (by omega), ew, shru (q + 4294967296 * p) n (by omega) .u64 (by show n ≤ 64; omega), Int.toNat_natCast]
       refine ⟨by omega, by omega, ?_⟩
       have := step hka (q + 4294967296 * p) (by
        rw [hd, hd2, Nat.mul_add, ← Nat.add_assoc, ← Nat.mul_assoc]
        exact (low_words hn _ _).symm)
       rw [w64_succ k (by omega)] at this
       exact this
     · have hk2 : a.length = k + 1 := by have := of_decide_eq_false h3; omega
       rw [shru q n (by omega) .u64 (by show n ≤ 64; omega), Int.toNat_natCast]
       have hd2 : wv (a.drop (k + 1)) = 0 := by
        rw [List.drop_eq_nil_of_le (by omega)]
        rfl
       have := step hka q (by rw [hd, hd2, Nat.mul_zero, Nat.add_zero])
       rw [w64_succ k (by omega)] at this
       exact this
   · have hka : k = a.length := by have := of_decide_eq_false h2; omega
     subst hka
     intro _
     rw [gtrim_ws hw]
     have t1 : z.take a.length = z := List.take_of_length_le (by omega)
     rw [t1] at hv
     have := wv_lt ha
     have h3 : wv a / 2 ^ n ≤ wv a := Nat.div_le_self _ _
     rw [hv, Nat.mod_eq_of_lt (by omega)]
def gdivS (a b : List Int) : List Int × List Int := (ws (wv a / wv b), ws (wv a % wv b))
theorem gplain_small {l : List Int} (h : wv l < 18446744073709551616) : gplainS l = (wv l : Int) := by
 unfold gplainS
 rw [Nat.mod_eq_of_lt h]
theorem ws_two {n : Nat} (h : n < 18446744073709551616) : (ws n).length ≤ 2 := ws_len 2 n h
theorem can_wok {l : List Int} (h : l = ws (wv l)) : wok l := by rw [h]; exact ws_wok _
theorem can_two {l : List Int} (h : l = ws (wv l)) (hl : wv l < 18446744073709551616) : l.length ≤ 2 := by rw [h]; exact ws_two hl
theorem gdiv_ok (a b : List Int) (h : a = ws (wv a) ∧ b = ws (wv b) ∧ wv a < 18446744073709551616 ∧ wv b < 18446744073709551616 ∧ 0 < wv b) : gdiv_vc a b (fun r => r = gdivS a b) := by
 obtain ⟨ha, hb, la, lb, h0⟩ := h
 have a2 := can_two ha la
 have b2 := can_two hb lb
 intro _ _
 have hb0 : b.length ≠ 0 := by
  intro hc
  rw [List.length_eq_zero_iff] at hc
  rw [hc] at h0
  exact absurd h0 (Nat.not_lt_zero _)
 unfold gdivS
 refine ⟨by rw [beq_eq_false_iff_ne]; omega, ⟨by omega, by omega, ha, hb⟩, fun h1 => ⟨by omega, fun _ => ?_⟩, fun h1 => ⟨by rw [decide_eq_true_eq]; omega, can_wok ha, can_wok hb, ?_⟩⟩
 · have h1 := of_decide_eq_true h1
   have hlt : wv a < wv b := by
    unfold gcmpS at h1
    split at h1
    · assumption
    · split at h1 <;> omega
   rw [Nat.div_eq_of_lt hlt, Nat.mod_eq_of_lt hlt, ws_zero, ← ha]
   rfl
 · rw [gplain_small la, gplain_small lb]
   have e1 : ((wv a : Nat) : Int).tdiv ((wv b : Nat) : Int) = ((wv a / wv b : Nat) : Int) := by rw [Int.tdiv_eq_ediv_of_nonneg (by omega)]; norm_cast
   have e2 : ((wv a : Nat) : Int).tmod ((wv b : Nat) : Int) = ((wv a % wv b : Nat) : Int) := by rw [Int.tmod_eq_emod_of_nonneg (by omega)]; norm_cast
   have l1 : wv a / wv b ≤ wv a := Nat.div_le_self _ _
   have l2 : wv a % wv b < wv b := Nat.mod_lt _ h0
   rw [e1, e2]
   generalize wv a / wv b = Q at *
   generalize wv a % wv b = R at *
   rw [wu64_eq _ (by omega)]
   refine ⟨by omega, by omega, by omega, by omega, ?_⟩
   unfold gwordsS
   rw [Int.toNat_natCast, Int.toNat_natCast]
def gcomS (a b : List Int) : List Int := ws (Nat.gcd (wv a) (wv b))
theorem gcom_ok (a b : List Int) (h : a = ws (wv a) ∧ b = ws (wv b) ∧ wv a < 18446744073709551616 ∧ wv b < 18446744073709551616) : gcom_vc a b (fun r => r = gcomS a b) := by
 obtain ⟨ha, hb, la, lb⟩ := h
 have a2 := can_two ha la
 have b2 := can_two hb lb
 intro _ _
 unfold gcomS
 refine ⟨fun x y => x = a ∧ y = b, fun _ _ => 0, ⟨rfl, rfl⟩, ?_⟩
 rintro x y ⟨hx, hy⟩
 rw [hx, hy]
 clear hx hy
 refine ⟨by rw [decide_eq_false_iff_not]; omega, fun h1 => ?_, fun h1 => ⟨by rw [decide_eq_false_iff_not]; omega, can_wok ha, can_wok hb, fun x y => ∃ p q : Nat, x = p ∧ y = q ∧ p < 18446744073709551616 ∧ q < 18446744073709551616 ∧ Nat.gcd p q = Nat.gcd (wv a) (wv b), fun _ y => y.toNat, ⟨_, _, gplain_small la, gplain_small lb, la, lb, rfl⟩, ?_⟩⟩
 · have h1 : b.length = 0 := by have : (b.length : Int) = 0 := by simpa using h1
                                omega
   rw [List.length_eq_zero_iff] at h1
   subst h1
   show a = ws (Nat.gcd (wv a) 0)
   rw [Nat.gcd_zero_right]
   exact ha
 · rintro _ _ ⟨p, q, rfl, rfl, hp, hq, hg⟩
   refine ⟨fun h2 => ⟨by have := of_decide_eq_true h2; omega, ⟨q, p % q, rfl, ?_, hq, ?_, ?_⟩, ?_⟩, fun h2 => ⟨by omega, fun _ => ?_⟩⟩
   · rw [Int.tmod_eq_emod_of_nonneg (by omega)]
     norm_cast
   · have := of_decide_eq_true h2
     have : p % q < q := Nat.mod_lt _ (by omega)
     omega
   · rw [← hg, Nat.gcd_comm p q, Nat.gcd_rec q p, Nat.gcd_comm]
   · have := of_decide_eq_true h2
     have e : ((p : Nat) : Int).tmod ((q : Nat) : Int) = ((p % q : Nat) : Int) := by rw [Int.tmod_eq_emod_of_nonneg (by omega)]; norm_cast
     rw [e]
     have : p % q < q := Nat.mod_lt _ (by omega)
     (try dsimp only)
     omega
   · have := of_decide_eq_false h2
     have hq0 : q = 0 := by omega
     subst hq0
     rw [Nat.gcd_zero_right] at hg
     unfold gwordsS
     rw [Int.toNat_natCast, hg]
def gsumS (xn : Bool) (xa : List Int) (yn : Bool) (ya : List Int) : Bool × List Int :=
 if xn = yn then (xn, ws (wv xa + wv ya)) else if wv ya ≤ wv xa then (xn, ws (wv xa - wv ya)) else (yn, ws (wv ya - wv xa))
theorem len_le_of {a b : List Int} (ha : a = ws (wv a)) (hb : b = ws (wv b)) (h : wv b ≤ wv a) : b.length ≤ a.length := by
 rcases Nat.lt_or_ge a.length b.length with hc | hc
 · have : wv a < wv b := ws_lt_len (by rw [← ha, ← hb]; exact hc)
   omega
 · exact hc
theorem gsum_ok (xn : Bool) (xa : List Int) (yn : Bool) (ya : List Int) (h : xa = ws (wv xa) ∧ ya = ws (wv ya) ∧ wv xa < 18446744073709551616 ∧ wv ya < 18446744073709551616) : gsum_vc xn xa yn ya (fun r => r = gsumS xn xa yn ya) := by
 obtain ⟨ha, hb, la, lb⟩ := h
 have a2 := can_two ha la
 have b2 := can_two hb lb
 intro _ _
 unfold gsumS
 refine ⟨fun h1 => ⟨⟨can_wok ha, can_wok hb, by omega, by omega⟩, fun _ => ?_⟩, fun h1 => ⟨⟨by omega, by omega, ha, hb⟩, fun h2 => ?_, fun h2 => ?_⟩⟩
 · rw [if_pos (by simpa using h1)]
   rfl
 · have h2 := of_decide_eq_true h2
   have hle : wv ya ≤ wv xa := by
    unfold gcmpS at h2
    split at h2
    · omega
    · omega
   refine ⟨⟨can_wok ha, can_wok hb, by omega, len_le_of ha hb hle, hle⟩, fun _ => ?_⟩
   rw [if_neg (by simpa using h1), if_pos hle]
   rfl
 · have h2 := of_decide_eq_false h2
   have hle : wv xa < wv ya := by
    unfold gcmpS at h2
    split at h2
    · assumption
    · split at h2 <;> omega
   refine ⟨⟨can_wok hb, can_wok ha, by omega, len_le_of hb ha (by omega), by omega⟩, fun _ => ?_⟩
   rw [if_neg (by simpa using h1), if_neg (by omega)]
   rfl
def bz (z : Int) : BInt := ⟨decide (z < 0), ws z.natAbs⟩
def iv (x : BInt) : Int := if x.neg = true then -(wv x.abs : Int) else (wv x.abs : Int)
def bk (x : BInt) : Prop := x = bz (iv x) ∧ (iv x).natAbs < 18446744073709551616
theorem iv_bz (z : Int) : iv (bz z) = z := by
 unfold iv bz
 dsimp only
 rw [wv_ws]
 by_cases h : z < 0
 · rw [decide_eq_true h, if_pos rfl]
   omega
 · rw [decide_eq_false h, if_neg (by simp)]
   omega
theorem bk_bz {z : Int} (h : z.natAbs < 18446744073709551616) : bk (bz z) := by
 unfold bk
 rw [iv_bz]
 exact ⟨rfl, h⟩
theorem bk_abs {x : BInt} (h : bk x) : x.abs = ws (wv x.abs) ∧ wv x.abs = (iv x).natAbs ∧ wv x.abs < 18446744073709551616 ∧ x.neg = decide (iv x < 0) := by
 obtain ⟨h1, h2⟩ := h
 generalize iv x = z at *
 subst h1
 unfold bz
 dsimp only
 rw [wv_ws]
 exact ⟨rfl, rfl, h2, rfl⟩
theorem gnew_ok (x : Int) (h : -9223372036854775808 ≤ x ∧ x ≤ 9223372036854775807) : gnew_vc x (fun r => r = bz x) := by
 refine ⟨fun h1 => ?_, fun h1 => ?_⟩
 · have h1' := of_decide_eq_true h1
   have e : wu64 (0 - wu64 x) = -x := by
    rw [wu64_neg x (by omega), wu64_neg _ (by omega)]
    omega
   rw [e]
   refine ⟨by omega, fun _ r hr _ => ?_⟩
   subst hr
   show ggive _ _ _ = _
   unfold ggive bz gwordsS
   have e2 : (-x).toNat = x.natAbs := by omega
   have e3 : decide (((ws x.natAbs).length : Int) > 0) = true := by
    rw [decide_eq_true_eq]
    have : ¬ (ws x.natAbs).length = 0 := fun hc => by rw [ws_len0] at hc; omega
    omega
   rw [e2, e3, Bool.and_true]
 · have h1' := of_decide_eq_false h1
   rw [wu64_eq x (by omega)]
   refine ⟨by omega, fun _ r hr _ => ?_⟩
   subst hr
   show ggive _ _ _ = _
   unfold ggive bz gwordsS
   have e2 : x.toNat = x.natAbs := by omega
   rw [h1, Bool.false_and, e2]
def rdenS (r : BRat) : BRat := r
theorem rden_ok (r : BRat) (h : r.b.abs ≠ []) : rden_vc r (fun x => x = rdenS r) := by
 intro _ _
 refine ⟨?_, rfl⟩
 rw [beq_eq_false_iff_ne]
 intro hc
 have : r.b.abs.length = 0 := by omega
 exact h (List.length_eq_zero_iff.1 this)
def gnegAS (r : BRat) : BRat := ⟨⟨(!r.a.neg) && decide ((r.a.abs.length : Int) > 0), r.a.abs⟩, r.b⟩
theorem gnegA_ok (r : BRat) (h : r.a.abs.length ≤ 1000000) : gnegA_vc r (fun x => x = gnegAS r) := fun _ _ => ⟨h, rfl⟩
def gnegBS (r : BRat) : BRat := ⟨r.a, ⟨(!r.b.neg) && decide ((r.b.abs.length : Int) > 0), r.b.abs⟩⟩
theorem gnegB_ok (r : BRat) (h : r.b.abs.length ≤ 1000000) : gnegB_vc r (fun x => x = gnegBS r) := fun _ _ => ⟨h, rfl⟩
end Go.Proofs.YtdndfbamhnchfaaGreatDoor
set_option linter.unusedVariables false
set_option linter.unusedSimpArgs false
namespace Go.Proofs.YtdndfbamhnchfaaGreatDoor
open Go.Sy Go.RowKit
def gmulAB_vc (u0 : BInt) (u1 : BRat) (u2 : BRat) (K : (BInt × BRat × BRat) → Prop) : Prop := (u0.abs.length ≤ 140737488355328 → (u1.a.abs.length ≤ 140737488355328 → (u1.b.abs.length ≤ 140737488355328 → (u2.a.abs.length ≤ 140737488355328 → (u2.b.abs.length ≤ 140737488355328 → ((wok u1.a.abs ∧ wok u2.b.abs ∧ u1.a.abs.length ≤ 1000 ∧ u2.b.abs.length ≤ 1000) ∧ (K ((ggive u0 (u1.a.neg != u2.b.neg) (gmulS u1.a.abs u2.b.abs)), u1, u2))))))))
def gmulBA_vc (u0 : BInt) (u1 : BRat) (u2 : BRat) (K : (BInt × BRat × BRat) → Prop) : Prop := (u0.abs.length ≤ 140737488355328 → (u1.a.abs.length ≤ 140737488355328 → (u1.b.abs.length ≤ 140737488355328 → (u2.a.abs.length ≤ 140737488355328 → (u2.b.abs.length ≤ 140737488355328 → ((wok u1.b.abs ∧ wok u2.a.abs ∧ u1.b.abs.length ≤ 1000 ∧ u2.a.abs.length ≤ 1000) ∧ (K ((ggive u0 (u1.b.neg != u2.a.neg) (gmulS u1.b.abs u2.a.abs)), u1, u2))))))))
def gmulAA_vc (u0 : BInt) (u1 : BRat) (u2 : BRat) (K : (BInt × BRat × BRat) → Prop) : Prop := (u0.abs.length ≤ 140737488355328 → (u1.a.abs.length ≤ 140737488355328 → (u1.b.abs.length ≤ 140737488355328 → (u2.a.abs.length ≤ 140737488355328 → (u2.b.abs.length ≤ 140737488355328 → ((wok u1.a.abs ∧ wok u2.a.abs ∧ u1.a.abs.length ≤ 1000 ∧ u2.a.abs.length ≤ 1000) ∧ (K ((ggive u0 (u1.a.neg != u2.a.neg) (gmulS u1.a.abs u2.a.abs)), u1, u2))))))))
def gmulBB_vc (u0 : BInt) (u1 : BRat) (u2 : BRat) (K : (BInt × BRat × BRat) → Prop) : Prop := (u0.abs.length ≤ 140737488355328 → (u1.a.abs.length ≤ 140737488355328 → (u1.b.abs.length ≤ 140737488355328 → (u2.a.abs.length ≤ 140737488355328 → (u2.b.abs.length ≤ 140737488355328 → ((wok u1.b.abs ∧ wok u2.b.abs ∧ u1.b.abs.length ≤ 1000 ∧ u2.b.abs.length ≤ 1000) ∧ (K ((ggive u0 (u1.b.neg != u2.b.neg) (gmulS u1.b.abs u2.b.abs)), u1, u2))))))))
def rnorm_vc (u0 : BRat) (K : BRat → Prop) : Prop := (u0.a.abs.length ≤ 140737488355328 → (u0.b.abs.length ≤ 140737488355328 → ((((u0.b.abs.length : Int) == 0) = false) ∧ (∃ inv43 : BRat → Prop, ((u0.b.neg = true → ((u0.a.abs.length ≤ 1000000) ∧ (((gnegAS u0).b.abs.length ≤ 1000000) ∧ (inv43 (gnegBS (gnegAS u0)))))) ∧ (u0.b.neg = false → (inv43 u0))) ∧ (∀ (yb1 : BRat), inv43 yb1 → ((((yb1.a.abs.length : Int) == 0) = true → ((0 ≤ (1 : Int) ∧ (1 : Int) ≤ 18446744073709551615) ∧ ((gwordsS 1).length ≤ 140737488355328 → (∀ r126, (ggiveB yb1 false (gwordsS 1)) = r126 → (r126.a.abs.length ≤ 140737488355328 → (r126.b.abs.length ≤ 140737488355328 → (K r126))))))) ∧ (((yb1.a.abs.length : Int) == 0) = false → ((((yb1.b.abs.length : Int) == 1) = true → ((0 ≤ (0 : Int) ∧ (0 : Int) < (yb1.b.abs.length : Int)) ∧ (∀ q187, yb1.b.abs[(0 : Int).toNat]? = some q187 → (((q187 == 1) = true → (K yb1)) ∧ ((q187 == 1) = false → ((yb1.a.abs = ws (wv yb1.a.abs) ∧ yb1.b.abs = ws (wv yb1.b.abs) ∧ wv yb1.a.abs < 18446744073709551616 ∧ wv yb1.b.abs < 18446744073709551616) ∧ (((((gcomS yb1.a.abs yb1.b.abs).length : Int) == 1) = true → ((0 ≤ (0 : Int) ∧ (0 : Int) < ((gcomS yb1.a.abs yb1.b.abs).length : Int)) ∧ (∀ q267, (gcomS yb1.a.abs yb1.b.abs)[(0 : Int).toNat]? = some q267 → (((q267 == 1) = true → (K yb1)) ∧ ((q267 == 1) = false → ((yb1.a.abs = ws (wv yb1.a.abs) ∧ (gcomS yb1.a.abs yb1.b.abs) = ws (wv (gcomS yb1.a.abs yb1.b.abs)) ∧ wv yb1.a.abs < 18446744073709551616 ∧ wv (gcomS yb1.a.abs yb1.b.abs) < 18446744073709551616 ∧ 0 < wv (gcomS yb1.a.abs yb1.b.abs)) ∧ ((gdivS yb1.a.abs (gcomS yb1.a.abs yb1.b.abs)).1.length ≤ 140737488355328 → ((gdivS yb1.a.abs (gcomS yb1.a.abs yb1.b.abs)).2.length ≤ 140737488355328 → ((yb1.b.abs = ws (wv yb1.b.abs) ∧ (gcomS yb1.a.abs yb1.b.abs) = ws (wv (gcomS yb1.a.abs yb1.b.abs)) ∧ wv yb1.b.abs < 18446744073709551616 ∧ wv (gcomS yb1.a.abs yb1.b.abs) < 18446744073709551616 ∧ 0 < wv (gcomS yb1.a.abs yb1.b.abs)) ∧ ((gdivS yb1.b.abs (gcomS yb1.a.abs yb1.b.abs)).1.length ≤ 140737488355328 → ((gdivS yb1.b.abs (gcomS yb1.a.abs yb1.b.abs)).2.length ≤ 140737488355328 → (K (⟨(⟨yb1.a.neg, (gdivS yb1.a.abs (gcomS yb1.a.abs yb1.b.abs)).1⟩ : BInt), (⟨yb1.b.neg, (gdivS yb1.b.abs (gcomS yb1.a.abs yb1.b.abs)).1⟩ : BInt)⟩ : BRat))))))))))))) ∧ ((((gcomS yb1.a.abs yb1.b.abs).length : Int) == 1) = false → ((yb1.a.abs = ws (wv yb1.a.abs) ∧ (gcomS yb1.a.abs yb1.b.abs) = ws (wv (gcomS yb1.a.abs yb1.b.abs)) ∧ wv yb1.a.abs < 18446744073709551616 ∧ wv (gcomS yb1.a.abs yb1.b.abs) < 18446744073709551616 ∧ 0 < wv (gcomS yb1.a.abs yb1.b.abs)) ∧ ((gdivS yb1.a.abs (gcomS yb1.a.abs yb1.b.abs)).1.length ≤ 140737488355328 → ((gdivS yb1.a.abs (gcomS yb1.a.abs yb1.b.abs)).2.length ≤ 140737488355328 → ((yb1.b.abs = ws (wv yb1.b.abs) ∧ (gcomS yb1.a.abs yb1.b.abs) = ws (wv (gcomS yb1.a.abs yb1.b.abs)) ∧ wv yb1.b.abs < 18446744073709551616 ∧ wv (gcomS yb1.a.abs yb1.b.abs) < 18446744073709551616 ∧ 0 < wv (gcomS yb1.a.abs yb1.b.abs)) ∧ ((gdivS yb1.b.abs (gcomS yb1.a.abs yb1.b.abs)).1.length ≤ 140737488355328 → ((gdivS yb1.b.abs (gcomS yb1.a.abs yb1.b.abs)).2.length ≤ 140737488355328 → (K (⟨(⟨yb1.a.neg, (gdivS yb1.a.abs (gcomS yb1.a.abs yb1.b.abs)).1⟩ : BInt), (⟨yb1.b.neg, (gdivS yb1.b.abs (gcomS yb1.a.abs yb1.b.abs)).1⟩ : BInt)⟩ : BRat)))))))))))))))) ∧ (((yb1.b.abs.length : Int) == 1) = false → ((yb1.a.abs = ws (wv yb1.a.abs) ∧ yb1.b.abs = ws (wv yb1.b.abs) ∧ wv yb1.a.abs < 18446744073709551616 ∧ wv yb1.b.abs < 18446744073709551616) ∧ (((((gcomS yb1.a.abs yb1.b.abs).length : Int) == 1) = true → ((0 ≤ (0 : Int) ∧ (0 : Int) < ((gcomS yb1.a.abs yb1.b.abs).length : Int)) ∧ (∀ q605, (gcomS yb1.a.abs yb1.b.abs)[(0 : Int).toNat]? = some q605 → (((q605 == 1) = true → (K yb1)) ∧ ((q605 == 1) = false → ((yb1.a.abs = ws (wv yb1.a.abs) ∧ (gcomS yb1.a.abs yb1.b.abs) = ws (wv (gcomS yb1.a.abs yb1.b.abs)) ∧ wv yb1.a.abs < 18446744073709551616 ∧ wv (gcomS yb1.a.abs yb1.b.abs) < 18446744073709551616 ∧ 0 < wv (gcomS yb1.a.abs yb1.b.abs)) ∧ ((gdivS yb1.a.abs (gcomS yb1.a.abs yb1.b.abs)).1.length ≤ 140737488355328 → ((gdivS yb1.a.abs (gcomS yb1.a.abs yb1.b.abs)).2.length ≤ 140737488355328 → ((yb1.b.abs = ws (wv yb1.b.abs) ∧ (gcomS yb1.a.abs yb1.b.abs) = ws (wv (gcomS yb1.a.abs yb1.b.abs)) ∧ wv yb1.b.abs < 18446744073709551616 ∧ wv (gcomS yb1.a.abs yb1.b.abs) < 18446744073709551616 ∧ 0 < wv (gcomS yb1.a.abs yb1.b.abs)) ∧ ((gdivS yb1.b.abs (gcomS yb1.a.abs yb1.b.abs)).1.length ≤ 140737488355328 → ((gdivS yb1.b.abs (gcomS yb1.a.abs yb1.b.abs)).2.length ≤ 140737488355328 → (K (⟨(⟨yb1.a.neg, (gdivS yb1.a.abs (gcomS yb1.a.abs yb1.b.abs)).1⟩ : BInt), (⟨yb1.b.neg, (gdivS yb1.b.abs (gcomS yb1.a.abs yb1.b.abs)).1⟩ : BInt)⟩ : BRat))))))))))))) ∧ ((((gcomS yb1.a.abs yb1.b.abs).length : Int) == 1) = false → ((yb1.a.abs = ws (wv yb1.a.abs) ∧ (gcomS yb1.a.abs yb1.b.abs) = ws (wv (gcomS yb1.a.abs yb1.b.abs)) ∧ wv yb1.a.abs < 18446744073709551616 ∧ wv (gcomS yb1.a.abs yb1.b.abs) < 18446744073709551616 ∧ 0 < wv (gcomS yb1.a.abs yb1.b.abs)) ∧ ((gdivS yb1.a.abs (gcomS yb1.a.abs yb1.b.abs)).1.length ≤ 140737488355328 → ((gdivS yb1.a.abs (gcomS yb1.a.abs yb1.b.abs)).2.length ≤ 140737488355328 → ((yb1.b.abs = ws (wv yb1.b.abs) ∧ (gcomS yb1.a.abs yb1.b.abs) = ws (wv (gcomS yb1.a.abs yb1.b.abs)) ∧ wv yb1.b.abs < 18446744073709551616 ∧ wv (gcomS yb1.a.abs yb1.b.abs) < 18446744073709551616 ∧ 0 < wv (gcomS yb1.a.abs yb1.b.abs)) ∧ ((gdivS yb1.b.abs (gcomS yb1.a.abs yb1.b.abs)).1.length ≤ 140737488355328 → ((gdivS yb1.b.abs (gcomS yb1.a.abs yb1.b.abs)).2.length ≤ 140737488355328 → (K (⟨(⟨yb1.a.neg, (gdivS yb1.a.abs (gcomS yb1.a.abs yb1.b.abs)).1⟩ : BInt), (⟨yb1.b.neg, (gdivS yb1.b.abs (gcomS yb1.a.abs yb1.b.abs)).1⟩ : BInt)⟩ : BRat))))))))))))))))))))
def rnum_vc (u0 : BRat) (K : BRat → Prop) : Prop := (u0.a.abs.length ≤ 140737488355328 → (u0.b.abs.length ≤ 140737488355328 → (K u0)))
def gi64A_vc (u0 : BRat) (K : (Int × BRat) → Prop) : Prop := (u0.a.abs.length ≤ 140737488355328 → (u0.b.abs.length ≤ 140737488355328 → (((decide ((u0.a.abs.length : Int) > 0)) = true → ((0 ≤ (0 : Int) ∧ (0 : Int) < (u0.a.abs.length : Int)) ∧ (∀ q54, u0.a.abs[(0 : Int).toNat]? = some q54 → (((decide ((u0.a.abs.length : Int) > 1)) = true → ((0 ≤ (1 : Int) ∧ (1 : Int) < (u0.a.abs.length : Int)) ∧ (∀ q98, u0.a.abs[(1 : Int).toNat]? = some q98 → ((u0.a.neg = true → (K (w64 (0 - (w64 (bOr .u64 (wu64 q54) (bShl .u64 (wu64 q98) 32)))), u0))) ∧ (u0.a.neg = false → (K (w64 (bOr .u64 (wu64 q54) (bShl .u64 (wu64 q98) 32)), u0))))))) ∧ ((decide ((u0.a.abs.length : Int) > 1)) = false → ((u0.a.neg = true → (K (w64 (0 - (w64 (wu64 q54))), u0))) ∧ (u0.a.neg = false → (K (w64 (wu64 q54), u0))))))))) ∧ ((decide ((u0.a.abs.length : Int) > 0)) = false → (((decide ((u0.a.abs.length : Int) > 1)) = true → ((0 ≤ (1 : Int) ∧ (1 : Int) < (u0.a.abs.length : Int)) ∧ (∀ q230, u0.a.abs[(1 : Int).toNat]? = some q230 → ((u0.a.neg = true → (K (w64 (0 - (w64 (bOr .u64 0 (bShl .u64 (wu64 q230) 32)))), u0))) ∧ (u0.a.neg = false → (K (w64 (bOr .u64 0 (bShl .u64 (wu64 q230) 32)), u0))))))) ∧ ((decide ((u0.a.abs.length : Int) > 1)) = false → ((u0.a.neg = true → (K (0, u0))) ∧ (u0.a.neg = false → (K (0, u0))))))))))
def gsubI_vc (u0 : BInt) (u1 : BInt) (u2 : BInt) (K : (BInt × BInt × BInt) → Prop) : Prop := (u0.abs.length ≤ 140737488355328 → (u1.abs.length ≤ 140737488355328 → (u2.abs.length ≤ 140737488355328 → ((u1.abs = ws (wv u1.abs) ∧ u2.abs = ws (wv u2.abs) ∧ wv u1.abs < 18446744073709551616 ∧ wv u2.abs < 18446744073709551616) ∧ (K ((ggive u0 (gsumS u1.neg u1.abs (!u2.neg) u2.abs).1 (gsumS u1.neg u1.abs (!u2.neg) u2.abs).2), u1, u2))))))
def gcmpA_vc (u0 : BRat) (u1 : BInt) (K : (Int × BRat × BInt) → Prop) : Prop := (u0.a.abs.length ≤ 140737488355328 → (u0.b.abs.length ≤ 140737488355328 → (u1.abs.length ≤ 140737488355328 → (((u0.a.neg != u1.neg) = true → ((u0.a.neg = true → (K (-1, u0, u1))) ∧ (u0.a.neg = false → (K (1, u0, u1))))) ∧ ((u0.a.neg != u1.neg) = false → ((u0.a.abs.length ≤ 1000 ∧ u1.abs.length ≤ 1000 ∧ u0.a.abs = ws (wv u0.a.abs) ∧ u1.abs = ws (wv u1.abs)) ∧ ((u0.a.neg = true → (K (w64 (0 - (gcmpS u0.a.abs u1.abs)), u0, u1))) ∧ (u0.a.neg = false → (K ((gcmpS u0.a.abs u1.abs), u0, u1))))))))))
def gcmpB_vc (u0 : BRat) (u1 : BInt) (K : (Int × BRat × BInt) → Prop) : Prop := (u0.a.abs.length ≤ 140737488355328 → (u0.b.abs.length ≤ 140737488355328 → (u1.abs.length ≤ 140737488355328 → (((u0.b.neg != u1.neg) = true → ((u0.b.neg = true → (K (-1, u0, u1))) ∧ (u0.b.neg = false → (K (1, u0, u1))))) ∧ ((u0.b.neg != u1.neg) = false → ((u0.b.abs.length ≤ 1000 ∧ u1.abs.length ≤ 1000 ∧ u0.b.abs = ws (wv u0.b.abs) ∧ u1.abs = ws (wv u1.abs)) ∧ ((u0.b.neg = true → (K (w64 (0 - (gcmpS u0.b.abs u1.abs)), u0, u1))) ∧ (u0.b.neg = false → (K ((gcmpS u0.b.abs u1.abs), u0, u1))))))))))
def glshI_vc (u0 : BInt) (u1 : BInt) (u2 : Int) (K : (BInt × BInt) → Prop) : Prop := (u0.abs.length ≤ 140737488355328 → (u1.abs.length ≤ 140737488355328 → ((wok u1.abs ∧ u1.abs.length ≤ 1000 ∧ 0 ≤ u2 ∧ u2 ≤ 100000) ∧ (K ((ggive u0 u1.neg (gleftS u1.abs u2)), u1)))))
def grshI_vc (u0 : BInt) (u2 : Int) (K : BInt → Prop) : Prop := (u0.abs.length ≤ 140737488355328 → ((u0.neg = false) ∧ ((wok u0.abs ∧ u0.abs.length ≤ 1000 ∧ 0 ≤ u2 ∧ u2 ≤ 31) ∧ ((grightS u0.abs u2).length ≤ 140737488355328 → (∀ r51, (ggive u0 false (grightS u0.abs u2)) = r51 → (r51.abs.length ≤ 140737488355328 → (K r51)))))))
def gnegI_vc (u0 : BInt) (u1 : BInt) (K : (BInt × BInt) → Prop) : Prop := (u0.abs.length ≤ 140737488355328 → (u1.abs.length ≤ 140737488355328 → ((u1.abs.length ≤ 1000000) ∧ (K ((ggive u0 (!u1.neg) (gtwinS u1.abs)), u1)))))
theorem give_bz (z : BInt) (n : Bool) (v : Int) (h : n = decide (v < 0) ∨ v = 0) : ggive z n (ws v.natAbs) = bz v := by
 unfold ggive bz
 by_cases hv : v = 0
 · subst hv
   have e : ws (0 : Int).natAbs = [] := ws_zero
   rw [e]
   simp
 · have e : decide (((ws v.natAbs).length : Int) > 0) = true := by
     rw [decide_eq_true_eq]
     have : ¬ (ws v.natAbs).length = 0 := fun hc => by rw [ws_len0] at hc; omega
     omega
   rw [e, Bool.and_true]
   rcases h with h | h
   · rw [h]
   · exact absurd h hv
theorem mul_core {x y : BInt} (hx : bk x) (hy : bk y) (z : BInt) : ggive z (x.neg != y.neg) (gmulS x.abs y.abs) = bz (iv x * iv y) := by
 obtain ⟨_, x1, _, x2⟩ := bk_abs hx
 obtain ⟨_, y1, _, y2⟩ := bk_abs hy
 unfold gmulS
 rw [x1, y1, x2, y2, ← Int.natAbs_mul]
 generalize iv x = X
 generalize iv y = Y
 refine give_bz z _ _ ?_
 rcases Int.lt_trichotomy X 0 with h1 | h1 | h1
 · rcases Int.lt_trichotomy Y 0 with h2 | h2 | h2
   · have := Int.mul_pos_of_neg_of_neg h1 h2
     left
     rw [decide_eq_true h1, decide_eq_true h2, decide_eq_false (by omega)]
     rfl
   · right
     rw [h2, Int.mul_zero]
   · have := Int.mul_neg_of_neg_of_pos h1 h2
     left
     rw [decide_eq_true h1, decide_eq_false (by omega), decide_eq_true this]
     rfl
 · right
   rw [h1, Int.zero_mul]
 · rcases Int.lt_trichotomy Y 0 with h2 | h2 | h2
   · have := Int.mul_neg_of_pos_of_neg h1 h2
     left
     rw [decide_eq_false (by omega), decide_eq_true h2, decide_eq_true this]
     rfl
   · right
     rw [h2, Int.mul_zero]
   · have := Int.mul_pos h1 h2
     left
     rw [decide_eq_false (by omega), decide_eq_false (by omega), decide_eq_false (by omega)]
     rfl
theorem bk_len {x : BInt} (hx : bk x) : wok x.abs ∧ x.abs.length ≤ 2 := by
 obtain ⟨x0, _, x2, _⟩ := bk_abs hx
 exact ⟨can_wok x0, can_two x0 x2⟩
def gmulABS (z : BInt) (x y : BRat) : BInt × BRat × BRat := (bz (iv x.a * iv y.b), x, y)
theorem gmulAB_ok (z : BInt) (x y : BRat) (h : bk x.a ∧ bk y.b) : gmulAB_vc z x y (fun r => r = gmulABS z x y) := by
 intro _ _ _ _ _
 obtain ⟨a1, a2⟩ := bk_len h.1
 obtain ⟨b1, b2⟩ := bk_len h.2
 refine ⟨⟨a1, b1, by omega, by omega⟩, ?_⟩
 unfold gmulABS
 rw [mul_core h.1 h.2]
def gmulBAS (z : BInt) (x y : BRat) : BInt × BRat × BRat := (bz (iv x.b * iv y.a), x, y)
theorem gmulBA_ok (z : BInt) (x y : BRat) (h : bk x.b ∧ bk y.a) : gmulBA_vc z x y (fun r => r = gmulBAS z x y) := by
 intro _ _ _ _ _
 obtain ⟨a1, a2⟩ := bk_len h.1
 obtain ⟨b1, b2⟩ := bk_len h.2
 refine ⟨⟨a1, b1, by omega, by omega⟩, ?_⟩
 unfold gmulBAS
 rw [mul_core h.1 h.2]
def gmulAAS (z : BInt) (x y : BRat) : BInt × BRat × BRat := (bz (iv x.a * iv y.a), x, y)
theorem gmulAA_ok (z : BInt) (x y : BRat) (h : bk x.a ∧ bk y.a) : gmulAA_vc z x y (fun r => r = gmulAAS z x y) := by
 intro _ _ _ _ _
 obtain ⟨a1, a2⟩ := bk_len h.1
 obtain ⟨b1, b2⟩ := bk_len h.2
 refine ⟨⟨a1, b1, by omega, by omega⟩, ?_⟩
 unfold gmulAAS
 rw [mul_core h.1 h.2]
def gmulBBS (z : BInt) (x y : BRat) : BInt × BRat × BRat := (bz (iv x.b * iv y.b), x, y)
theorem gmulBB_ok (z : BInt) (x y : BRat) (h : bk x.b ∧ bk y.b) : gmulBB_vc z x y (fun r => r = gmulBBS z x y) := by
 intro _ _ _ _ _
 obtain ⟨a1, a2⟩ := bk_len h.1
 obtain ⟨b1, b2⟩ := bk_len h.2
 refine ⟨⟨a1, b1, by omega, by omega⟩, ?_⟩
 unfold gmulBBS
 rw [mul_core h.1 h.2]
def rnumS (r : BRat) : BRat := r
theorem rnum_ok (r : BRat) : rnum_vc r (fun x => x = rnumS r) := fun _ _ => rfl
def bs (x : BInt) : Prop := x = bz (iv x) ∧ (iv x).natAbs < 9223372036854775808
def gi64AS (x : BRat) : Int × BRat := (iv x.a, x)
theorem word2 (n m : Nat) (hn : n < 4294967296) (hm : m < 4294967296) : bOr .u64 (n : Int) (bShl .u64 (m : Int) 32) = ((n + 4294967296 * m : Nat) : Int) := by
 have e1 : bShl .u64 (m : Int) 32 = ((m * 2 ^ 32 : Nat) : Int) := shlu m 32 (by omega) (by omega)
 rw [e1, bor64 n _ (by omega) (by omega), or_add (r := 32) hn rfl]
 congr 1
 omega
theorem i64_core (neg : Bool) (l : List Int) (n : Nat) (hl : l = ws n) (hn : n < 9223372036854775808) {A : Int → Prop} (hA : A (if neg = true then -(n : Int) else (n : Int))) : ((((decide ((l.length : Int) > 0)) = true → ((0 ≤ (0 : Int) ∧ (0 : Int) < (l.length : Int)) ∧ (∀ q50, l[(0 : Int).toNat]? = some q50 → (((decide ((l.length : Int) > 1)) = true → ((0 ≤ (1 : Int) ∧ (1 : Int) < (l.length : Int)) ∧ (∀ q95, l[(1 : Int).toNat]? = some q95 → ((neg = true → (A (w64 (0 - (w64 (bOr .u64 (wu64 q50) (bShl .u64 (wu64 q95) 32))))))) ∧ (neg = false → (A (w64 (bOr .u64 (wu64 q50) (bShl .u64 (wu64 q95) 32))))))))) ∧ ((decide ((l.length : Int) > 1)) = false → ((neg = true → (A (w64 (0 - (w64 (wu64 q50)))))) ∧ (neg = false → (A (w64 (wu64 q50)))))))))) ∧ ((decide ((l.length : Int) > 0)) = false → (((decide ((l.length : Int) > 1)) = true → ((0 ≤ (1 : Int) ∧ (1 : Int) < (l.length : Int)) ∧ (∀ q227, l[(1 : Int).toNat]? = some q227 → ((neg = true → (A (w64 (0 - (w64 (bOr .u64 0 (bShl .u64 (wu64 q227) 32))))))) ∧ (neg = false → (A (w64 (bOr .u64 0 (bShl .u64 (wu64 q227) 32))))))))) ∧ ((decide ((l.length : Int) > 1)) = false → ((neg = true → (A (0))) ∧ (neg = false → (A (0))))))))) := by
 by_cases h0 : n = 0
 · subst h0
   rw [ws_zero] at hl
   subst hl
   refine ⟨fun h => (by cases h), fun _ => ⟨fun h => (by cases h), fun _ => ⟨fun h => ?_, fun h => ?_⟩⟩⟩
   · rw [h] at hA
     exact hA
   · rw [h] at hA
     exact hA
 · rw [ws_pos h0] at hl
   by_cases h1 : n / 4294967296 = 0
   · rw [h1, ws_zero] at hl
     subst hl
     refine ⟨fun _ => ⟨by (simp <;> omega), fun q hq => ⟨fun h => absurd h (by simp), fun _ => ?_⟩⟩, fun h => absurd h (by simp)⟩
     cases hq
     have e : n % 4294967296 = n := by omega
     rw [e, wu64_eq (n : Int) (by omega), w64_eq (n : Int) (by omega), w64_eq (0 - (n : Int)) (by omega)]
     refine ⟨fun h => ?_, fun h => ?_⟩
     · rw [h, if_pos rfl] at hA
       rw [Int.zero_sub]
       exact hA
     · rw [h] at hA
       exact hA
   · have h2 : n / 4294967296 / 4294967296 = 0 := by omega
     rw [ws_pos h1, h2, ws_zero] at hl
     subst hl
     refine ⟨fun _ => ⟨by (simp <;> omega), fun q hq => ⟨fun _ => ⟨by (simp <;> omega), fun p hp => ?_⟩, fun h => absurd h (by simp)⟩⟩, fun h => absurd h (by simp <;> omega)⟩
     cases hq
     cases hp
     have e : n % 4294967296 + 4294967296 * (n / 4294967296 % 4294967296) = n := by omega
     rw [wu64_eq _ (by omega), wu64_eq _ (by omega), word2 _ _ (Nat.mod_lt _ (by decide)) (Nat.mod_lt _ (by decide)), e, w64_eq (n : Int) (by omega), w64_eq (0 - (n : Int)) (by omega)]
     refine ⟨fun h => ?_, fun h => ?_⟩
     · rw [h, if_pos rfl] at hA
       rw [Int.zero_sub]
       exact hA
     · rw [h] at hA
       exact hA
theorem bs_bk {x : BInt} (h : bs x) : bk x := ⟨h.1, Nat.lt_trans h.2 (by decide)⟩
theorem gi64A_ok (x : BRat) (h : bs x.a) : gi64A_vc x (fun r => r = gi64AS x) := by
 intro _ _
 obtain ⟨a0, a1, _, _⟩ := bk_abs (bs_bk h)
 have h2 := h.2
 rw [← a1] at h2
 exact i64_core x.a.neg x.a.abs (wv x.a.abs) a0 h2 (A := fun v => (v, x) = gi64AS x) rfl
def nrm0 (a b : Int) : BRat := ⟨bz (a.tdiv (Int.gcd a b)), bz (b.tdiv (Int.gcd a b))⟩
def nrm (a b : Int) : BRat := if b < 0 then nrm0 (-a) (-b) else nrm0 a b
theorem tdiv_abs_sign {a : Int} {g : Nat} (hg : (g : Int) ∣ a) (h0 : g ≠ 0) : (a.tdiv g).natAbs = a.natAbs / g ∧ (a.tdiv g < 0 ↔ a < 0) := by
 obtain ⟨c, rfl⟩ := hg
 have hgp : 0 < (g : Int) := by omega
 rw [Int.mul_tdiv_cancel_left _ (by omega), Int.natAbs_mul, Int.natAbs_natCast, Nat.mul_div_cancel_left _ (by omega)]
 refine ⟨rfl, fun h => Int.mul_neg_of_pos_of_neg hgp h, fun h => ?_⟩
 rcases Int.lt_or_le c 0 with hc | hc
 · exact hc
 · have := Int.mul_nonneg (Int.le_of_lt hgp) hc
   omega
theorem norm_rest (r : BRat) (ha : bk r.a) (hb : bk r.b) (h0 : 0 < iv r.b) {A : BRat → Prop} (hA : A (nrm0 (iv r.a) (iv r.b))) : (((((r.a.abs.length : Int) == 0) = true → ((0 ≤ (1 : Int) ∧ (1 : Int) ≤ 18446744073709551615) ∧ ((gwordsS 1).length ≤ 140737488355328 → (∀ r994, (ggiveB r false (gwordsS 1)) = r994 → (r994.a.abs.length ≤ 140737488355328 → (r994.b.abs.length ≤ 140737488355328 → (A r994))))))) ∧ (((r.a.abs.length : Int) == 0) = false → ((((r.b.abs.length : Int) == 1) = true → ((0 ≤ (0 : Int) ∧ (0 : Int) < (r.b.abs.length : Int)) ∧ (∀ q1056, r.b.abs[(0 : Int).toNat]? = some q1056 → (((q1056 == 1) = true → (A r)) ∧ ((q1056 == 1) = false → ((r.a.abs = ws (wv r.a.abs) ∧ r.b.abs = ws (wv r.b.abs) ∧ wv r.a.abs < 18446744073709551616 ∧ wv r.b.abs < 18446744073709551616) ∧ (((((gcomS r.a.abs r.b.abs).length : Int) == 1) = true → ((0 ≤ (0 : Int) ∧ (0 : Int) < ((gcomS r.a.abs r.b.abs).length : Int)) ∧ (∀ q1137, (gcomS r.a.abs r.b.abs)[(0 : Int).toNat]? = some q1137 → (((q1137 == 1) = true → (A r)) ∧ ((q1137 == 1) = false → ((r.a.abs = ws (wv r.a.abs) ∧ (gcomS r.a.abs r.b.abs) = ws (wv (gcomS r.a.abs r.b.abs)) ∧ wv r.a.abs < 18446744073709551616 ∧ wv (gcomS r.a.abs r.b.abs) < 18446744073709551616 ∧ 0 < wv (gcomS r.a.abs r.b.abs)) ∧ ((gdivS r.a.abs (gcomS r.a.abs r.b.abs)).1.length ≤ 140737488355328 → ((gdivS r.a.abs (gcomS r.a.abs r.b.abs)).2.length ≤ 140737488355328 → ((r.b.abs = ws (wv r.b.abs) ∧ (gcomS r.a.abs r.b.abs) = ws (wv (gcomS r.a.abs r.b.abs)) ∧ wv r.b.abs < 18446744073709551616 ∧ wv (gcomS r.a.abs r.b.abs) < 18446744073709551616 ∧ 0 < wv (gcomS r.a.abs r.b.abs)) ∧ ((gdivS r.b.abs (gcomS r.a.abs r.b.abs)).1.length ≤ 140737488355328 → ((gdivS r.b.abs (gcomS r.a.abs r.b.abs)).2.length ≤ 140737488355328 → (A (⟨(⟨r.a.neg, (gdivS r.a.abs (gcomS r.a.abs r.b.abs)).1⟩ : BInt), (⟨r.b.neg, (gdivS r.b.abs (gcomS r.a.abs r.b.abs)).1⟩ : BInt)⟩ : BRat))))))))))))) ∧ ((((gcomS r.a.abs r.b.abs).length : Int) == 1) = false → ((r.a.abs = ws (wv r.a.abs) ∧ (gcomS r.a.abs r.b.abs) = ws (wv (gcomS r.a.abs r.b.abs)) ∧ wv r.a.abs < 18446744073709551616 ∧ wv (gcomS r.a.abs r.b.abs) < 18446744073709551616 ∧ 0 < wv (gcomS r.a.abs r.b.abs)) ∧ ((gdivS r.a.abs (gcomS r.a.abs r.b.abs)).1.length ≤ 140737488355328 → ((gdivS r.a.abs (gcomS r.a.abs r.b.abs)).2.length ≤ 140737488355328 → ((r.b.abs = ws (wv r.b.abs) ∧ (gcomS r.a.abs r.b.abs) = ws (wv (gcomS r.a.abs r.b.abs)) ∧ wv r.b.abs < 18446744073709551616 ∧ wv (gcomS r.a.abs r.b.abs) < 18446744073709551616 ∧ 0 < wv (gcomS r.a.abs r.b.abs)) ∧ ((gdivS r.b.abs (gcomS r.a.abs r.b.abs)).1.length ≤ 140737488355328 → ((gdivS r.b.abs (gcomS r.a.abs r.b.abs)).2.length ≤ 140737488355328 → (A (⟨(⟨r.a.neg, (gdivS r.a.abs (gcomS r.a.abs r.b.abs)).1⟩ : BInt), (⟨r.b.neg, (gdivS r.b.abs (gcomS r.a.abs r.b.abs)).1⟩ : BInt)⟩ : BRat)))))))))))))))) ∧ (((r.b.abs.length : Int) == 1) = false → ((r.a.abs = ws (wv r.a.abs) ∧ r.b.abs = ws (wv r.b.abs) ∧ wv r.a.abs < 18446744073709551616 ∧ wv r.b.abs < 18446744073709551616) ∧ (((((gcomS r.a.abs r.b.abs).length : Int) == 1) = true → ((0 ≤ (0 : Int) ∧ (0 : Int) < ((gcomS r.a.abs r.b.abs).length : Int)) ∧ (∀ q1479, (gcomS r.a.abs r.b.abs)[(0 : Int).toNat]? = some q1479 → (((q1479 == 1) = true → (A r)) ∧ ((q1479 == 1) = false → ((r.a.abs = ws (wv r.a.abs) ∧ (gcomS r.a.abs r.b.abs) = ws (wv (gcomS r.a.abs r.b.abs)) ∧ wv r.a.abs < 18446744073709551616 ∧ wv (gcomS r.a.abs r.b.abs) < 18446744073709551616 ∧ 0 < wv (gcomS r.a.abs r.b.abs)) ∧ ((gdivS r.a.abs (gcomS r.a.abs r.b.abs)).1.length ≤ 140737488355328 → ((gdivS r.a.abs (gcomS r.a.abs r.b.abs)).2.length ≤ 140737488355328 → ((r.b.abs = ws (wv r.b.abs) ∧ (gcomS r.a.abs r.b.abs) = ws (wv (gcomS r.a.abs r.b.abs)) ∧ wv r.b.abs < 18446744073709551616 ∧ wv (gcomS r.a.abs r.b.abs) < 18446744073709551616 ∧ 0 < wv (gcomS r.a.abs r.b.abs)) ∧ ((gdivS r.b.abs (gcomS r.a.abs r.b.abs)).1.length ≤ 140737488355328 → ((gdivS r.b.abs (gcomS r.a.abs r.b.abs)).2.length ≤ 140737488355328 → (A (⟨(⟨r.a.neg, (gdivS r.a.abs (gcomS r.a.abs r.b.abs)).1⟩ : BInt), (⟨r.b.neg, (gdivS r.b.abs (gcomS r.a.abs r.b.abs)).1⟩ : BInt)⟩ : BRat))))))))))))) ∧ ((((gcomS r.a.abs r.b.abs).length : Int) == 1) = false → ((r.a.abs = ws (wv r.a.abs) ∧ (gcomS r.a.abs r.b.abs) = ws (wv (gcomS r.a.abs r.b.abs)) ∧ wv r.a.abs < 18446744073709551616 ∧ wv (gcomS r.a.abs r.b.abs) < 18446744073709551616 ∧ 0 < wv (gcomS r.a.abs r.b.abs)) ∧ ((gdivS r.a.abs (gcomS r.a.abs r.b.abs)).1.length ≤ 140737488355328 → ((gdivS r.a.abs (gcomS r.a.abs r.b.abs)).2.length ≤ 140737488355328 → ((r.b.abs = ws (wv r.b.abs) ∧ (gcomS r.a.abs r.b.abs) = ws (wv (gcomS r.a.abs r.b.abs)) ∧ wv r.b.abs < 18446744073709551616 ∧ wv (gcomS r.a.abs r.b.abs) < 18446744073709551616 ∧ 0 < wv (gcomS r.a.abs r.b.abs)) ∧ ((gdivS r.b.abs (gcomS r.a.abs r.b.abs)).1.length ≤ 140737488355328 → ((gdivS r.b.abs (gcomS r.a.abs r.b.abs)).2.length ≤ 140737488355328 → (A (⟨(⟨r.a.neg, (gdivS r.a.abs (gcomS r.a.abs r.b.abs)).1⟩ : BInt), (⟨r.b.neg, (gdivS r.b.abs (gcomS r.a.abs r.b.abs)).1⟩ : BInt)⟩ : BRat)))))))))))))))) := by
 obtain ⟨a0, a1, a2, a3⟩ := bk_abs ha
 obtain ⟨b0, b1, b2, b3⟩ := bk_abs hb
 have hbn : r.b.neg = false := by rw [b3]; exact decide_eq_false (by omega)
 have hg0 : Nat.gcd (wv r.a.abs) (wv r.b.abs) ≠ 0 := by
  have : 0 < Nat.gcd (wv r.a.abs) (wv r.b.abs) := Nat.gcd_pos_of_pos_right _ (by omega)
  omega
 have hG : Int.gcd (iv r.a) (iv r.b) = Nat.gcd (wv r.a.abs) (wv r.b.abs) := by rw [a1, b1]; rfl
 have hone : (gwordsS 1) = [1] := by decide +kernel
 have hdiv : (⟨(⟨r.a.neg, (gdivS r.a.abs (gcomS r.a.abs r.b.abs)).1⟩ : BInt), (⟨r.b.neg, (gdivS r.b.abs (gcomS r.a.abs r.b.abs)).1⟩ : BInt)⟩ : BRat) = nrm0 (iv r.a) (iv r.b) := by
  unfold nrm0 gdivS gcomS
  rw [hG]
  dsimp only
  rw [wv_ws]
  obtain ⟨p1, p2⟩ := tdiv_abs_sign (a := iv r.a) (g := Nat.gcd (wv r.a.abs) (wv r.b.abs)) (by rw [← hG]; exact Int.gcd_dvd_left ..) hg0
  obtain ⟨q1, q2⟩ := tdiv_abs_sign (a := iv r.b) (g := Nat.gcd (wv r.a.abs) (wv r.b.abs)) (by rw [← hG]; exact Int.gcd_dvd_right ..) hg0
  unfold bz
  rw [p1, q1, ← a1, ← b1, a3, b3]
  congr 2
  · exact decide_eq_decide.2 p2.symm
  · exact decide_eq_decide.2 q2.symm
 have hsame : Nat.gcd (wv r.a.abs) (wv r.b.abs) = 1 → r = nrm0 (iv r.a) (iv r.b) := by
  intro h
  unfold nrm0
  rw [hG, h]
  show r = ⟨bz ((iv r.a).tdiv 1), bz ((iv r.b).tdiv 1)⟩
  rw [Int.tdiv_one, Int.tdiv_one, ← ha.1, ← hb.1]
 have hcom : gcomS r.a.abs r.b.abs = ws (wv (gcomS r.a.abs r.b.abs)) := by unfold gcomS; rw [wv_ws]
 have hcv : wv (gcomS r.a.abs r.b.abs) = Nat.gcd (wv r.a.abs) (wv r.b.abs) := by unfold gcomS; rw [wv_ws]
 have hcl : wv (gcomS r.a.abs r.b.abs) < 18446744073709551616 := by
  have := Nat.gcd_le_right (wv r.a.abs) (show 0 < wv r.b.abs by omega)
  omega
 have hlen : ∀ q, ((gcomS r.a.abs r.b.abs).length : Int) = 1 → (gcomS r.a.abs r.b.abs)[(0 : Int).toNat]? = some q → q = 1 → Nat.gcd (wv r.a.abs) (wv r.b.abs) = 1 := by
  intro q h1 h2 h3
  subst h3
  rw [← hcv]
  generalize gcomS r.a.abs r.b.abs = l at *
  match l, h1, h2 with
  | [x], _, h2 =>
   cases h2
   rfl
  | [], h1, _ => simp at h1
  | _ :: _ :: _, h1, _ => simp at h1; omega
 have hpre : (r.a.abs = ws (wv r.a.abs) ∧ r.b.abs = ws (wv r.b.abs) ∧ wv r.a.abs < 18446744073709551616 ∧ wv r.b.abs < 18446744073709551616) := ⟨a0, b0, a2, b2⟩
 have hpa : (r.a.abs = ws (wv r.a.abs) ∧ (gcomS r.a.abs r.b.abs) = ws (wv (gcomS r.a.abs r.b.abs)) ∧ wv r.a.abs < 18446744073709551616 ∧ wv (gcomS r.a.abs r.b.abs) < 18446744073709551616 ∧ 0 < wv (gcomS r.a.abs r.b.abs)) := ⟨a0, hcom, a2, hcl, by omega⟩
 have hpb : (r.b.abs = ws (wv r.b.abs) ∧ (gcomS r.a.abs r.b.abs) = ws (wv (gcomS r.a.abs r.b.abs)) ∧ wv r.b.abs < 18446744073709551616 ∧ wv (gcomS r.a.abs r.b.abs) < 18446744073709551616 ∧ 0 < wv (gcomS r.a.abs r.b.abs)) := ⟨b0, hcom, b2, hcl, by omega⟩
 have hlen1 : ∀ l : List Int, ((l.length : Int) == 1) = true → (0 : Int) ≤ 0 ∧ (0 : Int) < (l.length : Int) := by
  intro l h
  have h : (l.length : Int) = 1 := by simpa using h
  omega
 have hlast : ((gdivS r.a.abs (gcomS r.a.abs r.b.abs)).1.length ≤ 140737488355328 → (gdivS r.a.abs (gcomS r.a.abs r.b.abs)).2.length ≤ 140737488355328 → True) := fun _ _ => trivial
 refine ⟨fun h1 => ⟨by omega, fun _ x hx _ _ => ?_⟩, fun h1 => ⟨fun h2 => ⟨hlen1 _ h2, fun q hq => ⟨fun h3 => ?_, fun h3 => ⟨hpre, fun h4 => ⟨hlen1 _ h4, fun p hp => ⟨fun h5 => ?_, fun h5 => ⟨hpa, fun _ _ => ⟨hpb, fun _ _ => ?_⟩⟩⟩⟩, fun h4 => ⟨hpa, fun _ _ => ⟨hpb, fun _ _ => ?_⟩⟩⟩⟩⟩, fun h2 => ⟨hpre, fun h4 => ⟨hlen1 _ h4, fun p hp => ⟨fun h5 => ?_, fun h5 => ⟨hpa, fun _ _ => ⟨hpb, fun _ _ => ?_⟩⟩⟩⟩, fun h4 => ⟨hpa, fun _ _ => ⟨hpb, fun _ _ => ?_⟩⟩⟩⟩⟩
 · subst hx
   have hz : r.a.abs.length = 0 := by have : (r.a.abs.length : Int) = 0 := by simpa using h1
                                      omega
   have hz0 : wv r.a.abs = 0 := by
    rw [List.length_eq_zero_iff] at hz
    rw [hz]
    rfl
   have hiv : iv r.a = 0 := by omega
   have e : ggiveB r false (gwordsS 1) = nrm0 (iv r.a) (iv r.b) := by
    unfold nrm0 ggiveB
    rw [hG, hz0, Nat.gcd_zero_left, hiv, Int.zero_tdiv, hone, b1]
    have e1 : ((iv r.b).natAbs : Int) = iv r.b := by omega
    rw [e1, Int.tdiv_self (by omega), ← hiv, ← ha.1]
    have e3 : bz 1 = ⟨false, [1]⟩ := by decide +kernel
    rw [e3]
    rfl
   rw [e]
   exact hA
 · have h3 : q = 1 := by simpa using h3
   subst h3
   have hb1 : wv r.b.abs = 1 := by
    have h2 : (r.b.abs.length : Int) = 1 := by simpa using h2
    generalize r.b.abs = l at h2 hq
    match l, h2, hq with
    | [x], _, hq =>
     cases hq
     rfl
    | [], h2, _ => simp at h2
    | _ :: _ :: _, h2, _ => simp at h2; omega
   rw [hsame (by rw [hb1, Nat.gcd_one_right])]
   have e := hsame (by rw [hb1, Nat.gcd_one_right])
   rw [← e]
   rw [← e] at hA
   exact hA
 · have e := hsame (hlen p (by simpa using h4) hp (by simpa using h5))
   rw [← e] at hA
   exact hA
 · rw [hdiv]
   exact hA
 · rw [hdiv]
   exact hA
 · have e := hsame (hlen p (by simpa using h4) hp (by simpa using h5))
   rw [← e] at hA
   exact hA
 · rw [hdiv]
   exact hA
 · rw [hdiv]
   exact hA
theorem neg_give {x : BInt} (h : bk x) : (⟨(!x.neg) && decide ((x.abs.length : Int) > 0), x.abs⟩ : BInt) = bz (-(iv x)) := by
 obtain ⟨x0, x1, _, x3⟩ := bk_abs h
 have := give_bz ⟨false, []⟩ (!x.neg) (-(iv x)) (by
  rw [x3]
  by_cases h0 : iv x = 0
  · right
    omega
  · left
    by_cases h1 : iv x < 0
    · rw [decide_eq_true h1, decide_eq_false (by omega)]
      rfl
    · rw [decide_eq_false h1, decide_eq_true (by omega)]
      rfl)
 rw [Int.natAbs_neg, ← x1, ← x0] at this
 exact this
def rnormS (r : BRat) : BRat := nrm (iv r.a) (iv r.b)
theorem rnorm_ok (r : BRat) (h : bk r.a ∧ bk r.b ∧ iv r.b ≠ 0) : rnorm_vc r (fun x => x = rnormS r) := by
 obtain ⟨ha, hb, h0⟩ := h
 obtain ⟨a0, a1, a2, a3⟩ := bk_abs ha
 obtain ⟨b0, b1, b2, b3⟩ := bk_abs hb
 obtain ⟨_, la⟩ := bk_len ha
 obtain ⟨_, lb⟩ := bk_len hb
 intro _ _
 unfold rnormS nrm
 refine ⟨?_, fun y => bk y.a ∧ bk y.b ∧ 0 < iv y.b ∧ nrm0 (iv y.a) (iv y.b) = (if iv r.b < 0 then nrm0 (-(iv r.a)) (-(iv r.b)) else nrm0 (iv r.a) (iv r.b)), ⟨fun h1 => ⟨by omega, by show r.b.abs.length ≤ 1000000; omega, ?_⟩, fun h1 => ?_⟩, fun y hy => norm_rest y hy.1 hy.2.1 hy.2.2.1 (A := fun x => x = if iv r.b < 0 then nrm0 (-(iv r.a)) (-(iv r.b)) else nrm0 (iv r.a) (iv r.b)) hy.2.2.2⟩
 · rw [beq_eq_false_iff_ne]
   intro hc
   have hc : r.b.abs.length = 0 := by omega
   rw [List.length_eq_zero_iff] at hc
   rw [hc] at b1
   have : (0 : Nat) = (iv r.b).natAbs := b1
   omega
 · have hneg : iv r.b < 0 := by rw [b3] at h1; exact of_decide_eq_true h1
   have e : gnegBS (gnegAS r) = ⟨bz (-(iv r.a)), bz (-(iv r.b))⟩ := by
    unfold gnegBS gnegAS
    dsimp only
    rw [neg_give ha, neg_give hb]
   rw [if_pos hneg, e]
   refine ⟨bk_bz (by have := ha.2; omega), bk_bz (by have := hb.2; omega), by show 0 < iv (bz _); rw [iv_bz]; omega, ?_⟩
   show nrm0 (iv (bz _)) (iv (bz _)) = _
   rw [iv_bz, iv_bz]
 · have hneg : ¬ iv r.b < 0 := by rw [b3] at h1; exact of_decide_eq_false h1
   rw [if_neg hneg]
   exact ⟨ha, hb, by omega, rfl⟩
end Go.Proofs.YtdndfbamhnchfaaGreatDoor
set_option linter.unusedVariables false
set_option linter.unusedSimpArgs false
namespace Go.Proofs.YtdndfbamhnchfaaGreatDoor
open Go.Sy Go.RowKit
def rsf_vc (u0 : BRat) (u1 : BInt) (u2 : BInt) (K : (BRat × BInt × BInt) → Prop) : Prop := (u0.a.abs.length ≤ 140737488355328 → (u0.b.abs.length ≤ 140737488355328 → (u1.abs.length ≤ 140737488355328 → (u2.abs.length ≤ 140737488355328 → ((((u2.abs.length : Int) == 0) = false) ∧ ((u1.abs.length ≤ 1000000) ∧ ((u2.abs.length ≤ 1000000) ∧ ((bk (⟨(ggive (⟨false, []⟩ : BInt) u1.neg (gtwinS u1.abs)), (ggive (⟨false, []⟩ : BInt) u2.neg (gtwinS u2.abs))⟩ : BRat).a ∧ bk (⟨(ggive (⟨false, []⟩ : BInt) u1.neg (gtwinS u1.abs)), (ggive (⟨false, []⟩ : BInt) u2.neg (gtwinS u2.abs))⟩ : BRat).b ∧ iv (⟨(ggive (⟨false, []⟩ : BInt) u1.neg (gtwinS u1.abs)), (ggive (⟨false, []⟩ : BInt) u2.neg (gtwinS u2.abs))⟩ : BRat).b ≠ 0) ∧ (∀ r223, (rnormS (⟨(ggive (⟨false, []⟩ : BInt) u1.neg (gtwinS u1.abs)), (ggive (⟨false, []⟩ : BInt) u2.neg (gtwinS u2.abs))⟩ : BRat)) = r223 → (r223.a.abs.length ≤ 140737488355328 → (r223.b.abs.length ≤ 140737488355328 → (K (r223, u1, u2)))))))))))))
theorem sum_core2 {x y : BInt} (hx : bk x) (hy : bk y) (z : BInt) : ggive z (gsumS x.neg x.abs (!y.neg) y.abs).1 (gsumS x.neg x.abs (!y.neg) y.abs).2 = bz (iv x - iv y) := by
 obtain ⟨_, x1, _, x2⟩ := bk_abs hx
 obtain ⟨_, y1, _, y2⟩ := bk_abs hy
 unfold gsumS
 rw [x1, y1, x2, y2]
 generalize iv x = X
 generalize iv y = Y
 have hn : (!decide (Y < 0)) = decide (0 ≤ Y) := by rw [← decide_not]; exact decide_eq_decide.2 (by omega)
 rw [hn]
 split
 · rename_i h
   have h : (X < 0 ↔ 0 ≤ Y) := by
    have h := congrArg (· = true) h
    simpa using h
   have e : X.natAbs + Y.natAbs = (X - Y).natAbs := by omega
   dsimp only
   rw [e]
   refine give_bz z _ _ ?_
   by_cases h0 : X - Y = 0
   · exact .inr h0
   · left
     exact decide_eq_decide.2 (by omega)
 · rename_i h
   have h : ¬ (X < 0 ↔ 0 ≤ Y) := fun hc => h (decide_eq_decide.2 hc)
   split
   · have e : X.natAbs - Y.natAbs = (X - Y).natAbs := by omega
     dsimp only
     rw [e]
     refine give_bz z _ _ ?_
     by_cases h0 : X - Y = 0
     · exact .inr h0
     · left
       exact decide_eq_decide.2 (by omega)
   · have e : Y.natAbs - X.natAbs = (X - Y).natAbs := by omega
     dsimp only
     rw [e]
     refine give_bz z _ _ ?_
     by_cases h0 : X - Y = 0
     · exact .inr h0
     · left
       exact decide_eq_decide.2 (by omega)
def gsubIS (z x y : BInt) : BInt × BInt × BInt := (bz (iv x - iv y), x, y)
theorem gsubI_ok (z x y : BInt) (h : bk x ∧ bk y) : gsubI_vc z x y (fun r => r = gsubIS z x y) := by
 intro _ _ _
 obtain ⟨a0, _, a2, _⟩ := bk_abs h.1
 obtain ⟨b0, _, b2, _⟩ := bk_abs h.2
 refine ⟨⟨a0, b0, a2, b2⟩, ?_⟩
 unfold gsubIS
 rw [sum_core2 h.1 h.2]
def zcmp (x y : Int) : Int := if x < y then -1 else if y < x then 1 else 0
def gcmpAS (r : BRat) (y : BInt) : Int × BRat × BInt := (zcmp (iv r.a) (iv y), r, y)
def gcmpBS (r : BRat) (y : BInt) : Int × BRat × BInt := (zcmp (iv r.b) (iv y), r, y)
theorem cmp_core {x y : BInt} (hx : bk x) (hy : bk y) {A : Int → Prop} (hA : A (zcmp (iv x) (iv y))) : (((x.neg != y.neg) = true → ((x.neg = true → (A (-1))) ∧ (x.neg = false → (A 1)))) ∧ ((x.neg != y.neg) = false → ((x.abs.length ≤ 1000 ∧ y.abs.length ≤ 1000 ∧ x.abs = ws (wv x.abs) ∧ y.abs = ws (wv y.abs)) ∧ ((x.neg = true → (A (w64 (0 - (gcmpS x.abs y.abs))))) ∧ (x.neg = false → (A (gcmpS x.abs y.abs))))))) := by
 obtain ⟨x0, x1, x2, x3⟩ := bk_abs hx
 obtain ⟨y0, y1, y2, y3⟩ := bk_abs hy
 obtain ⟨_, lx⟩ := bk_len hx
 obtain ⟨_, ly⟩ := bk_len hy
 unfold zcmp at hA
 unfold gcmpS
 rw [x3, y3, x1, y1]
 generalize iv x = X at *
 generalize iv y = Y at *
 refine ⟨fun h1 => ⟨fun h2 => ?_, fun h2 => ?_⟩, fun h1 => ⟨⟨by omega, by omega, by rw [← x1]; exact x0, by rw [← y1]; exact y0⟩, fun h2 => ?_, fun h2 => ?_⟩⟩
 · have h2' := of_decide_eq_true h2
   have h3 : ¬ Y < 0 := by
    intro h
    rw [h2, decide_eq_true h] at h1
    cases h1
   rw [if_pos (by omega)] at hA
   exact hA
 · have h2' := of_decide_eq_false h2
   have h3 : Y < 0 := by
    rcases Int.lt_or_le Y 0 with h | h
    · exact h
    · rw [h2, decide_eq_false (by omega)] at h1
      cases h1
   rw [if_neg (by omega), if_pos (by omega)] at hA
   exact hA
 · have h2' := of_decide_eq_true h2
   have h3 : Y < 0 := by
    rcases Int.lt_or_le Y 0 with h | h
    · exact h
    · rw [h2, decide_eq_false (show ¬ Y < 0 by omega)] at h1
      cases h1
   rcases Int.lt_trichotomy X Y with h | h | h
   · rw [if_pos h] at hA
     rw [if_neg (by omega), if_pos (by omega)]
     exact hA
   · rw [if_neg (by omega), if_neg (by omega)] at hA
     rw [if_neg (by omega), if_neg (by omega)]
     exact hA
   · rw [if_neg (by omega), if_pos h] at hA
     rw [if_pos (by omega)]
     exact hA
 · have h2' := of_decide_eq_false h2
   have h3 : ¬ Y < 0 := by
    intro h
    rw [h2, decide_eq_true h] at h1
    cases h1
   rcases Int.lt_trichotomy X Y with h | h | h
   · rw [if_pos h] at hA
     rw [if_pos (by omega)]
     exact hA
   · rw [if_neg (by omega), if_neg (by omega)] at hA
     rw [if_neg (by omega), if_neg (by omega)]
     exact hA
   · rw [if_neg (by omega), if_pos h] at hA
     rw [if_neg (by omega), if_pos (by omega)]
     exact hA
theorem gcmpA_ok (r : BRat) (y : BInt) (h : bk r.a ∧ bk y) : gcmpA_vc r y (fun x => x = gcmpAS r y) := fun _ _ _ => cmp_core h.1 h.2 (A := fun v => (v, r, y) = gcmpAS r y) rfl
theorem gcmpB_ok (r : BRat) (y : BInt) (h : bk r.b ∧ bk y) : gcmpB_vc r y (fun x => x = gcmpBS r y) := fun _ _ _ => cmp_core h.1 h.2 (A := fun v => (v, r, y) = gcmpBS r y) rfl
def glshIS (z x : BInt) (n : Int) : BInt × BInt := (bz (iv x * 2 ^ n.toNat), x)
theorem glshI_ok (z x : BInt) (n : Int) (h : bk x ∧ 0 ≤ iv x ∧ 0 ≤ n ∧ n ≤ 100) : glshI_vc z x n (fun r => r = glshIS z x n) := by
 obtain ⟨hx, h0, h1, h2⟩ := h
 obtain ⟨x0, x1, _, x3⟩ := bk_abs hx
 obtain ⟨a1, a2⟩ := bk_len hx
 intro _ _
 refine ⟨⟨a1, by omega, by omega, by omega⟩, ?_⟩
 unfold glshIS gleftS
 have e : wv x.abs * 2 ^ n.toNat = (iv x * 2 ^ n.toNat).natAbs := by
  rw [Int.natAbs_mul, ← x1, Int.natAbs_pow]
  rfl
 rw [e, give_bz z x.neg (iv x * 2 ^ n.toNat) ?_]
 left
 have hp : (0 : Int) < 2 ^ n.toNat := Int.pow_pos (by decide)
 have := Int.mul_nonneg h0 (Int.le_of_lt hp)
 rw [x3, decide_eq_false (by omega), decide_eq_false (by omega)]
def grshIS (x : BInt) (n : Int) : BInt := bz (iv x / 2 ^ n.toNat)
theorem grshI_ok (x : BInt) (n : Int) (h : bk x ∧ 0 ≤ iv x ∧ n = 1) : grshI_vc x n (fun r => r = grshIS x n) := by
 obtain ⟨hx, h0, rfl⟩ := h
 obtain ⟨x0, x1, _, x3⟩ := bk_abs hx
 obtain ⟨a1, a2⟩ := bk_len hx
 intro _
 refine ⟨by rw [x3]; exact decide_eq_false (by omega), ⟨a1, by omega, by omega, by omega⟩, fun _ => ?_⟩
 rintro _ rfl _
 unfold grshIS grightS
 have e : wv x.abs / 2 ^ (1 : Int).toNat = (iv x / 2 ^ (1 : Int).toNat).natAbs := by
  show wv x.abs / 2 ^ 1 = (iv x / 2 ^ 1).natAbs
  rw [x1]
  omega
 rw [e, give_bz x false (iv x / 2 ^ (1 : Int).toNat) ?_]
 left
 symm
 refine decide_eq_false ?_
 show ¬ iv x / 2 ^ 1 < 0
 omega
def gnegIS (z x : BInt) : BInt × BInt := (bz (-(iv x)), x)
theorem gnegI_ok (z x : BInt) (h : bk x) : gnegI_vc z x (fun r => r = gnegIS z x) := by
 obtain ⟨_, lx⟩ := bk_len h
 intro _ _
 refine ⟨by omega, ?_⟩
 have := neg_give h
 unfold gnegIS
 rw [← this]
 rfl
theorem set_core {x : BInt} (hx : bk x) (z : BInt) : ggive z x.neg (gtwinS x.abs) = x := by
 obtain ⟨x0, x1, _, x3⟩ := bk_abs hx
 have := give_bz z x.neg (iv x) (.inl x3)
 rw [← x1, ← x0, ← hx.1] at this
 exact this
def rsfS (z : BRat) (a b : BInt) : BRat × BInt × BInt := (nrm (iv a) (iv b), a, b)
theorem iv_ne {x : BInt} (hx : bk x) (h : iv x ≠ 0) : x.abs ≠ [] := by
 obtain ⟨_, x1, _, _⟩ := bk_abs hx
 intro hc
 rw [hc] at x1
 have : (0 : Nat) = (iv x).natAbs := x1
 omega
theorem rsf_ok (z : BRat) (a b : BInt) (h : bk a ∧ bk b ∧ iv b ≠ 0) : rsf_vc z a b (fun r => r = rsfS z a b) := by
 obtain ⟨ha, hb, h0⟩ := h
 obtain ⟨_, la⟩ := bk_len ha
 obtain ⟨_, lb⟩ := bk_len hb
 have hne := iv_ne hb h0
 intro _ _ _ _
 rw [set_core ha, set_core hb]
 refine ⟨?_, by omega, by omega, ⟨ha, hb, h0⟩, ?_⟩
 · rw [beq_eq_false_iff_ne]
   intro hc
   exact hne (List.length_eq_zero_iff.1 (by omega))
 · rintro r rfl _ _
   rfl
end Go.Proofs.YtdndfbamhnchfaaGreatDoor
set_option linter.unusedVariables false
set_option linter.unusedSimpArgs false
namespace Go.Proofs.YtdndfbamhnchfaaGreatDoor
open Go.Sy Go.RowKit
def rsf64_vc (u0 : BRat) (u1 : Int) (u2 : Int) (K : BRat → Prop) : Prop := (u0.a.abs.length ≤ 140737488355328 → (u0.b.abs.length ≤ 140737488355328 → ((-9223372036854775808 ≤ u1 ∧ u1 ≤ 9223372036854775807) ∧ ((-9223372036854775808 ≤ u2 ∧ u2 ≤ 9223372036854775807) ∧ ((bk (bz u1) ∧ bk (bz u2) ∧ iv (bz u2) ≠ 0) ∧ (∀ r52, (rsfS u0 (bz u1) (bz u2)) = r52 → (r52.1.a.abs.length ≤ 140737488355328 → (r52.1.b.abs.length ≤ 140737488355328 → (r52.2.1.abs.length ≤ 140737488355328 → (r52.2.2.abs.length ≤ 140737488355328 → (K r52.1)))))))))))
def rsi_vc (u0 : BRat) (u1 : Int) (K : BRat → Prop) : Prop := (u0.a.abs.length ≤ 140737488355328 → (u0.b.abs.length ≤ 140737488355328 → ((-9223372036854775808 ≤ u1 ∧ u1 ≤ 9223372036854775807) ∧ ((-9223372036854775808 ≤ (1 : Int) ∧ (1 : Int) ≤ 9223372036854775807) ∧ ((bk (bz u1) ∧ bk (bz 1) ∧ iv (bz 1) ≠ 0) ∧ (∀ r50, (rsfS u0 (bz u1) (bz 1)) = r50 → (r50.1.a.abs.length ≤ 140737488355328 → (r50.1.b.abs.length ≤ 140737488355328 → (r50.2.1.abs.length ≤ 140737488355328 → (r50.2.2.abs.length ≤ 140737488355328 → (K r50.1)))))))))))
def rsub_vc (u0 : BRat) (u2 : BRat) (K : (BRat × BRat) → Prop) : Prop := (u0.a.abs.length ≤ 140737488355328 → (u0.b.abs.length ≤ 140737488355328 → (u2.a.abs.length ≤ 140737488355328 → (u2.b.abs.length ≤ 140737488355328 → ((u2.b.abs ≠ []) ∧ ((bk u0.a ∧ bk (rdenS u2).b) ∧ (((gmulABS (⟨false, []⟩ : BInt) u0 (rdenS u2)).2.1.b.abs ≠ []) ∧ ((bk (gmulABS (⟨false, []⟩ : BInt) u0 (rdenS u2)).2.2.a ∧ bk (rdenS (gmulABS (⟨false, []⟩ : BInt) u0 (rdenS u2)).2.1).b) ∧ ((bk (gmulABS (⟨false, []⟩ : BInt) u0 (rdenS u2)).1 ∧ bk (gmulABS (⟨false, []⟩ : BInt) (gmulABS (⟨false, []⟩ : BInt) u0 (rdenS u2)).2.2 (rdenS (gmulABS (⟨false, []⟩ : BInt) u0 (rdenS u2)).2.1)).1) ∧ (((gmulABS (⟨false, []⟩ : BInt) (gmulABS (⟨false, []⟩ : BInt) u0 (rdenS u2)).2.2 (rdenS (gmulABS (⟨false, []⟩ : BInt) u0 (rdenS u2)).2.1)).2.2.b.abs ≠ []) ∧ (∀ r227, (rdenS (gmulABS (⟨false, []⟩ : BInt) (gmulABS (⟨false, []⟩ : BInt) u0 (rdenS u2)).2.2 (rdenS (gmulABS (⟨false, []⟩ : BInt) u0 (rdenS u2)).2.1)).2.2) = r227 → (r227.a.abs.length ≤ 140737488355328 → (r227.b.abs.length ≤ 140737488355328 → (((gmulABS (⟨false, []⟩ : BInt) (gmulABS (⟨false, []⟩ : BInt) u0 (rdenS u2)).2.2 (rdenS (gmulABS (⟨false, []⟩ : BInt) u0 (rdenS u2)).2.1)).2.1.b.abs ≠ []) ∧ (∀ r250, (rdenS (gmulABS (⟨false, []⟩ : BInt) (gmulABS (⟨false, []⟩ : BInt) u0 (rdenS u2)).2.2 (rdenS (gmulABS (⟨false, []⟩ : BInt) u0 (rdenS u2)).2.1)).2.1) = r250 → (r250.a.abs.length ≤ 140737488355328 → (r250.b.abs.length ≤ 140737488355328 → ((bk r227.b ∧ bk r250.b) ∧ (∀ r271, (gmulBBS (⟨false, []⟩ : BInt) r227 r250) = r271 → (r271.1.abs.length ≤ 140737488355328 → (r271.2.1.a.abs.length ≤ 140737488355328 → (r271.2.1.b.abs.length ≤ 140737488355328 → (r271.2.2.a.abs.length ≤ 140737488355328 → (r271.2.2.b.abs.length ≤ 140737488355328 → ((bk (gsubIS (⟨false, []⟩ : BInt) (gmulABS (⟨false, []⟩ : BInt) u0 (rdenS u2)).1 (gmulABS (⟨false, []⟩ : BInt) (gmulABS (⟨false, []⟩ : BInt) u0 (rdenS u2)).2.2 (rdenS (gmulABS (⟨false, []⟩ : BInt) u0 (rdenS u2)).2.1)).1).1 ∧ bk r271.1 ∧ iv r271.1 ≠ 0) ∧ (∀ r304, (rsfS r271.2.1 (gsubIS (⟨false, []⟩ : BInt) (gmulABS (⟨false, []⟩ : BInt) u0 (rdenS u2)).1 (gmulABS (⟨false, []⟩ : BInt) (gmulABS (⟨false, []⟩ : BInt) u0 (rdenS u2)).2.2 (rdenS (gmulABS (⟨false, []⟩ : BInt) u0 (rdenS u2)).2.1)).1).1 r271.1) = r304 → (r304.1.a.abs.length ≤ 140737488355328 → (r304.1.b.abs.length ≤ 140737488355328 → (r304.2.1.abs.length ≤ 140737488355328 → (r304.2.2.abs.length ≤ 140737488355328 → (K (r304.1, r271.2.2))))))))))))))))))))))))))))))))
def rmul_vc (u0 : BRat) (u2 : BRat) (K : (BRat × BRat) → Prop) : Prop := (u0.a.abs.length ≤ 140737488355328 → (u0.b.abs.length ≤ 140737488355328 → (u2.a.abs.length ≤ 140737488355328 → (u2.b.abs.length ≤ 140737488355328 → ((bk u0.a ∧ bk u2.a) ∧ (((gmulAAS (⟨false, []⟩ : BInt) u0 u2).2.1.b.abs ≠ []) ∧ (((gmulAAS (⟨false, []⟩ : BInt) u0 u2).2.2.b.abs ≠ []) ∧ ((bk (rdenS (gmulAAS (⟨false, []⟩ : BInt) u0 u2).2.1).b ∧ bk (rdenS (gmulAAS (⟨false, []⟩ : BInt) u0 u2).2.2).b) ∧ ((bk (gmulAAS (⟨false, []⟩ : BInt) u0 u2).1 ∧ bk (gmulBBS (⟨false, []⟩ : BInt) (rdenS (gmulAAS (⟨false, []⟩ : BInt) u0 u2).2.1) (rdenS (gmulAAS (⟨false, []⟩ : BInt) u0 u2).2.2)).1 ∧ iv (gmulBBS (⟨false, []⟩ : BInt) (rdenS (gmulAAS (⟨false, []⟩ : BInt) u0 u2).2.1) (rdenS (gmulAAS (⟨false, []⟩ : BInt) u0 u2).2.2)).1 ≠ 0) ∧ (K ((rsfS (gmulBBS (⟨false, []⟩ : BInt) (rdenS (gmulAAS (⟨false, []⟩ : BInt) u0 u2).2.1) (rdenS (gmulAAS (⟨false, []⟩ : BInt) u0 u2).2.2)).2.1 (gmulAAS (⟨false, []⟩ : BInt) u0 u2).1 (gmulBBS (⟨false, []⟩ : BInt) (rdenS (gmulAAS (⟨false, []⟩ : BInt) u0 u2).2.1) (rdenS (gmulAAS (⟨false, []⟩ : BInt) u0 u2).2.2)).1).1, (gmulBBS (⟨false, []⟩ : BInt) (rdenS (gmulAAS (⟨false, []⟩ : BInt) u0 u2).2.1) (rdenS (gmulAAS (⟨false, []⟩ : BInt) u0 u2).2.2)).2.2)))))))))))
def rquo_vc (u0 : BRat) (u2 : BRat) (K : (BRat × BRat) → Prop) : Prop := (u0.a.abs.length ≤ 140737488355328 → (u0.b.abs.length ≤ 140737488355328 → (u2.a.abs.length ≤ 140737488355328 → (u2.b.abs.length ≤ 140737488355328 → ((u2.b.abs ≠ []) ∧ ((bk u0.a ∧ bk (rdenS u2).b) ∧ (((gmulABS (⟨false, []⟩ : BInt) u0 (rdenS u2)).2.1.b.abs ≠ []) ∧ ((bk (rdenS (gmulABS (⟨false, []⟩ : BInt) u0 (rdenS u2)).2.1).b ∧ bk (gmulABS (⟨false, []⟩ : BInt) u0 (rdenS u2)).2.2.a) ∧ ((bk (gmulABS (⟨false, []⟩ : BInt) u0 (rdenS u2)).1 ∧ bk (gmulBAS (⟨false, []⟩ : BInt) (rdenS (gmulABS (⟨false, []⟩ : BInt) u0 (rdenS u2)).2.1) (gmulABS (⟨false, []⟩ : BInt) u0 (rdenS u2)).2.2).1 ∧ iv (gmulBAS (⟨false, []⟩ : BInt) (rdenS (gmulABS (⟨false, []⟩ : BInt) u0 (rdenS u2)).2.1) (gmulABS (⟨false, []⟩ : BInt) u0 (rdenS u2)).2.2).1 ≠ 0) ∧ (K ((rsfS (gmulBAS (⟨false, []⟩ : BInt) (rdenS (gmulABS (⟨false, []⟩ : BInt) u0 (rdenS u2)).2.1) (gmulABS (⟨false, []⟩ : BInt) u0 (rdenS u2)).2.2).2.1 (gmulABS (⟨false, []⟩ : BInt) u0 (rdenS u2)).1 (gmulBAS (⟨false, []⟩ : BInt) (rdenS (gmulABS (⟨false, []⟩ : BInt) u0 (rdenS u2)).2.1) (gmulABS (⟨false, []⟩ : BInt) u0 (rdenS u2)).2.2).1).1, (gmulBAS (⟨false, []⟩ : BInt) (rdenS (gmulABS (⟨false, []⟩ : BInt) u0 (rdenS u2)).2.1) (gmulABS (⟨false, []⟩ : BInt) u0 (rdenS u2)).2.2).2.2)))))))))))
def risint_vc (u0 : BRat) (K : (Bool × BRat) → Prop) : Prop := (u0.a.abs.length ≤ 140737488355328 → (u0.b.abs.length ≤ 140737488355328 → ((u0.b.abs ≠ []) ∧ (∀ r22, (rdenS u0) = r22 → (r22.a.abs.length ≤ 140737488355328 → (r22.b.abs.length ≤ 140737488355328 → ((-9223372036854775808 ≤ (1 : Int) ∧ (1 : Int) ≤ 9223372036854775807) ∧ ((bk r22.b ∧ bk (bz 1)) ∧ (∀ r56, (gcmpBS r22 (bz 1)) = r56 → (r56.2.1.a.abs.length ≤ 140737488355328 → (r56.2.1.b.abs.length ≤ 140737488355328 → (r56.2.2.abs.length ≤ 140737488355328 → (K (r56.1 == 0, r56.2.1))))))))))))))
def rsf64S (z : BRat) (a b : Int) : BRat := nrm a b
theorem rsf64_ok (z : BRat) (a b : Int) (h : b ≠ 0 ∧ (-9223372036854775808 ≤ a ∧ a ≤ 9223372036854775807) ∧ -9223372036854775808 ≤ b ∧ b ≤ 9223372036854775807) : rsf64_vc z a b (fun r => r = rsf64S z a b) := by
 intro _ _
 refine ⟨h.2.1, h.2.2, ⟨bk_bz (by omega), bk_bz (by omega), by rw [iv_bz]; exact h.1⟩, ?_⟩
 rintro r rfl _ _ _ _
 unfold rsfS rsf64S
 dsimp only
 rw [iv_bz, iv_bz]
def rsiS (z : BRat) (a : Int) : BRat := nrm a 1
theorem rsi_ok (z : BRat) (a : Int) (h : -9223372036854775808 ≤ a ∧ a ≤ 9223372036854775807) : rsi_vc z a (fun r => r = rsiS z a) := by
 intro _ _
 refine ⟨h, by omega, ⟨bk_bz (by omega), bk_bz (by decide), by rw [iv_bz]; decide⟩, ?_⟩
 rintro r rfl _ _ _ _
 unfold rsfS rsiS
 dsimp only
 rw [iv_bz, iv_bz]
def rk (r : BRat) : Prop := bk r.a ∧ bk r.b ∧ 0 < iv r.b
theorem rk_ne {r : BRat} (h : rk r) : r.b.abs ≠ [] := iv_ne h.2.1 (by have := h.2.2; omega)
end Go.Proofs.YtdndfbamhnchfaaGreatDoor
set_option linter.unusedVariables false
set_option linter.unusedSimpArgs false
namespace Go.Proofs.YtdndfbamhnchfaaGreatDoor
open Go.Sy Go.RowKit
def rlows (x y : BRat) : Prop := (iv x.a * iv y.b).natAbs < 18446744073709551616 ∧ (iv y.a * iv x.b).natAbs < 18446744073709551616 ∧ (iv x.a * iv y.b - iv y.a * iv x.b).natAbs < 18446744073709551616 ∧ (iv x.b * iv y.b).natAbs < 18446744073709551616
def rsubS (x y : BRat) : BRat × BRat := (nrm (iv x.a * iv y.b - iv y.a * iv x.b) (iv x.b * iv y.b), y)
theorem rsub_ok (x y : BRat) (h : rk x ∧ rk y ∧ rlows x y) : rsub_vc x y (fun r => r = rsubS x y) := by
 obtain ⟨hx, hy, h1, h2, h3, h4⟩ := h
 have hb0 := Int.mul_pos hx.2.2 hy.2.2
 intro _ _ _ _
 refine ⟨rk_ne hy, ⟨hx.1, hy.2.1⟩, rk_ne hx, ⟨hy.1, hx.2.1⟩, ⟨bk_bz h1, bk_bz h2⟩, rk_ne hx, ?_⟩
 rintro r rfl _ _
 refine ⟨rk_ne hy, ?_⟩
 rintro r rfl _ _
 refine ⟨⟨hx.2.1, hy.2.1⟩, ?_⟩
 rintro r rfl _ _ _ _ _
 have e : (gsubIS (⟨false, []⟩ : BInt) (gmulABS (⟨false, []⟩ : BInt) x (rdenS y)).1 (gmulABS (⟨false, []⟩ : BInt) (gmulABS (⟨false, []⟩ : BInt) x (rdenS y)).2.2 (rdenS (gmulABS (⟨false, []⟩ : BInt) x (rdenS y)).2.1)).1).1 = bz (iv x.a * iv y.b - iv y.a * iv x.b) := by
  unfold gsubIS gmulABS rdenS
  dsimp only
  rw [iv_bz, iv_bz]
 rw [e]
 refine ⟨⟨bk_bz h3, bk_bz h4, by show iv (bz _) ≠ 0; rw [iv_bz]; show iv x.b * iv y.b ≠ 0; omega⟩, ?_⟩
 rintro r rfl _ _ _ _
 show (nrm (iv (bz _)) (iv (bz _)), y) = _
 rw [iv_bz, iv_bz]
 rfl
def rlowm (x y : BRat) : Prop := (iv x.a * iv y.a).natAbs < 18446744073709551616 ∧ (iv x.b * iv y.b).natAbs < 18446744073709551616
def rmulS (x y : BRat) : BRat × BRat := (nrm (iv x.a * iv y.a) (iv x.b * iv y.b), y)
theorem rmul_ok (x y : BRat) (h : rk x ∧ rk y ∧ rlowm x y) : rmul_vc x y (fun r => r = rmulS x y) := by
 obtain ⟨hx, hy, h1, h2⟩ := h
 have hb0 := Int.mul_pos hx.2.2 hy.2.2
 intro _ _ _ _
 refine ⟨⟨hx.1, hy.1⟩, rk_ne hx, rk_ne hy, ⟨hx.2.1, hy.2.1⟩, ⟨bk_bz h1, bk_bz h2, by show iv (bz _) ≠ 0; rw [iv_bz]; show iv x.b * iv y.b ≠ 0; omega⟩, ?_⟩
 show (nrm (iv (bz _)) (iv (bz _)), y) = _
 rw [iv_bz, iv_bz]
 rfl
def rlowq (x y : BRat) : Prop := (iv x.a * iv y.b).natAbs < 18446744073709551616 ∧ (iv x.b * iv y.a).natAbs < 18446744073709551616 ∧ iv y.a ≠ 0
def rquoS (x y : BRat) : BRat × BRat := (nrm (iv x.a * iv y.b) (iv x.b * iv y.a), y)
theorem rquo_ok (x y : BRat) (h : rk x ∧ rk y ∧ rlowq x y) : rquo_vc x y (fun r => r = rquoS x y) := by
 obtain ⟨hx, hy, h1, h2, h3⟩ := h
 have hb0 : iv x.b * iv y.a ≠ 0 := Int.mul_ne_zero (by have := hx.2.2; omega) h3
 intro _ _ _ _
 refine ⟨rk_ne hy, ⟨hx.1, hy.2.1⟩, rk_ne hx, ⟨hx.2.1, hy.1⟩, ⟨bk_bz h1, bk_bz h2, by show iv (bz _) ≠ 0; rw [iv_bz]; exact hb0⟩, ?_⟩
 show (nrm (iv (bz _)) (iv (bz _)), y) = _
 rw [iv_bz, iv_bz]
 rfl
def risintS (r : BRat) : Bool × BRat := (decide (iv r.b = 1), r)
theorem risint_ok (r : BRat) (h : rk r) : risint_vc r (fun x => x = risintS r) := by
 intro _ _
 refine ⟨rk_ne h, ?_⟩
 rintro _ rfl _ _
 refine ⟨by decide, ⟨h.2.1, bk_bz (by decide)⟩, ?_⟩
 rintro _ rfl _ _ _
 show (zcmp (iv r.b) (iv (bz 1)) == 0, r) = (decide (iv r.b = 1), r)
 rw [iv_bz]
 congr 1
 unfold zcmp
 rcases Int.lt_trichotomy (iv r.b) 1 with h1 | h1 | h1
 · rw [if_pos h1, decide_eq_false (by omega)]
   rfl
 · rw [if_neg (by omega), if_neg (by omega), decide_eq_true h1]
   rfl
 · rw [if_neg (by omega), if_pos h1, decide_eq_false (by omega)]
   rfl
end Go.Proofs.YtdndfbamhnchfaaGreatDoor
set_option linter.unusedVariables false
set_option linter.unusedSimpArgs false
namespace Go.Proofs.YtdndfbamhnchfaaGreatDoor
open Go.Sy Go.RowKit
def runm_vc (u0 : Signal) (u1 : Int) (u2 : Int) (K : (Int × Int) → Prop) : Prop := ((((((decide (u2 < 1)) || (decide (u2 > 1000000))) || (decide (u1 > 1099511627776))) || (decide (u1 < (-1099511627776)))) = true → (K (0, 3))) ∧ (((((decide (u2 < 1)) || (decide (u2 > 1000000))) || (decide (u1 > 1099511627776))) || (decide (u1 < (-1099511627776)))) = false → ((u2 ≠ 0 ∧ (-9223372036854775808 ≤ u1 ∧ u1 ≤ 9223372036854775807) ∧ -9223372036854775808 ≤ u2 ∧ u2 ≤ 9223372036854775807) ∧ (∀ r67, (rsf64S (⟨(⟨false, []⟩ : BInt), (⟨false, []⟩ : BInt)⟩ : BRat) u1 u2) = r67 → (r67.a.abs.length ≤ 140737488355328 → (r67.b.abs.length ≤ 140737488355328 → ((-9223372036854775808 ≤ u0.Add ∧ u0.Add ≤ 9223372036854775807) ∧ (∀ r104, (rsiS (⟨(⟨false, []⟩ : BInt), (⟨false, []⟩ : BInt)⟩ : BRat) u0.Add) = r104 → (r104.a.abs.length ≤ 140737488355328 → (r104.b.abs.length ≤ 140737488355328 → ((rk r67 ∧ rk r104 ∧ rlows r67 r104) ∧ (∀ r125, (rsubS r67 r104) = r125 → (r125.1.a.abs.length ≤ 140737488355328 → (r125.1.b.abs.length ≤ 140737488355328 → (r125.2.a.abs.length ≤ 140737488355328 → (r125.2.b.abs.length ≤ 140737488355328 → ((-9223372036854775808 ≤ u0.Div ∧ u0.Div ≤ 9223372036854775807) ∧ (∀ r168, (rsiS (⟨(⟨false, []⟩ : BInt), (⟨false, []⟩ : BInt)⟩ : BRat) u0.Div) = r168 → (r168.a.abs.length ≤ 140737488355328 → (r168.b.abs.length ≤ 140737488355328 → ((rk r125.1 ∧ rk r168 ∧ rlowm r125.1 r168) ∧ (∀ r189, (rmulS r125.1 r168) = r189 → (r189.1.a.abs.length ≤ 140737488355328 → (r189.1.b.abs.length ≤ 140737488355328 → (r189.2.a.abs.length ≤ 140737488355328 → (r189.2.b.abs.length ≤ 140737488355328 → ((-9223372036854775808 ≤ u0.Mul ∧ u0.Mul ≤ 9223372036854775807) ∧ (∀ r232, (rsiS (⟨(⟨false, []⟩ : BInt), (⟨false, []⟩ : BInt)⟩ : BRat) u0.Mul) = r232 → (r232.a.abs.length ≤ 140737488355328 → (r232.b.abs.length ≤ 140737488355328 → ((rk r189.1 ∧ rk r232 ∧ rlowq r189.1 r232) ∧ (∀ r253, (rquoS r189.1 r232) = r253 → (r253.1.a.abs.length ≤ 140737488355328 → (r253.1.b.abs.length ≤ 140737488355328 → (r253.2.a.abs.length ≤ 140737488355328 → (r253.2.b.abs.length ≤ 140737488355328 → ((rk r253.1) ∧ (∀ r286, (risintS r253.1) = r286 → (r286.2.a.abs.length ≤ 140737488355328 → (r286.2.b.abs.length ≤ 140737488355328 → (((!r286.1) = true → (K (0, 4))) ∧ ((!r286.1) = false → ((-9223372036854775808 ≤ (0 : Int) ∧ (0 : Int) ≤ 9223372036854775807) ∧ ((-9223372036854775808 ≤ (1 : Int) ∧ (1 : Int) ≤ 9223372036854775807) ∧ ((bk (bz 1) ∧ 0 ≤ iv (bz 1) ∧ 0 ≤ (wu64 u0.Size) ∧ (wu64 u0.Size) ≤ 100) ∧ ((u0.Signed = true → ((bk (glshIS (⟨false, []⟩ : BInt) (bz 1) (wu64 u0.Size)).1 ∧ 0 ≤ iv (glshIS (⟨false, []⟩ : BInt) (bz 1) (wu64 u0.Size)).1 ∧ (1 : Int) = 1) ∧ (∀ r432, (grshIS (glshIS (⟨false, []⟩ : BInt) (bz 1) (wu64 u0.Size)).1 1) = r432 → (r432.abs.length ≤ 140737488355328 → ((bk r432) ∧ (∀ r454, (gnegIS (bz 0) r432) = r454 → (r454.1.abs.length ≤ 140737488355328 → (r454.2.abs.length ≤ 140737488355328 → (∀ r476, (rnumS r286.2) = r476 → (r476.a.abs.length ≤ 140737488355328 → (r476.b.abs.length ≤ 140737488355328 → ((bk r476.a ∧ bk r454.1) ∧ (∀ r499, (gcmpAS r476 r454.1) = r499 → (r499.2.1.a.abs.length ≤ 140737488355328 → (r499.2.1.b.abs.length ≤ 140737488355328 → (r499.2.2.abs.length ≤ 140737488355328 → (((decide (r499.1 < 0)) = true → (K (0, 3))) ∧ ((decide (r499.1 < 0)) = false → (∀ r550, (rnumS r499.2.1) = r550 → (r550.a.abs.length ≤ 140737488355328 → (r550.b.abs.length ≤ 140737488355328 → ((bk r550.a ∧ bk r454.2) ∧ (∀ r573, (gcmpAS r550 r454.2) = r573 → (r573.2.1.a.abs.length ≤ 140737488355328 → (r573.2.1.b.abs.length ≤ 140737488355328 → (r573.2.2.abs.length ≤ 140737488355328 → (((decide (r573.1 ≥ 0)) = true → (K (0, 3))) ∧ ((decide (r573.1 ≥ 0)) = false → (∀ r611, (rnumS r573.2.1) = r611 → (r611.a.abs.length ≤ 140737488355328 → (r611.b.abs.length ≤ 140737488355328 → ((bs r611.a) ∧ (∀ r632, (gi64AS r611) = r632 → (r632.2.a.abs.length ≤ 140737488355328 → (r632.2.b.abs.length ≤ 140737488355328 → (K (r632.1, 0))))))))))))))))))))))))))))))))))))) ∧ (u0.Signed = false → (∀ r659, (rnumS r286.2) = r659 → (r659.a.abs.length ≤ 140737488355328 → (r659.b.abs.length ≤ 140737488355328 → ((bk r659.a ∧ bk (bz 0)) ∧ (∀ r682, (gcmpAS r659 (bz 0)) = r682 → (r682.2.1.a.abs.length ≤ 140737488355328 → (r682.2.1.b.abs.length ≤ 140737488355328 → (r682.2.2.abs.length ≤ 140737488355328 → (((decide (r682.1 < 0)) = true → (K (0, 3))) ∧ ((decide (r682.1 < 0)) = false → (∀ r733, (rnumS r682.2.1) = r733 → (r733.a.abs.length ≤ 140737488355328 → (r733.b.abs.length ≤ 140737488355328 → ((bk r733.a ∧ bk (glshIS (⟨false, []⟩ : BInt) (bz 1) (wu64 u0.Size)).1) ∧ (∀ r756, (gcmpAS r733 (glshIS (⟨false, []⟩ : BInt) (bz 1) (wu64 u0.Size)).1) = r756 → (r756.2.1.a.abs.length ≤ 140737488355328 → (r756.2.1.b.abs.length ≤ 140737488355328 → (r756.2.2.abs.length ≤ 140737488355328 → (((decide (r756.1 ≥ 0)) = true → (K (0, 3))) ∧ ((decide (r756.1 ≥ 0)) = false → (∀ r794, (rnumS r756.2.1) = r794 → (r794.a.abs.length ≤ 140737488355328 → (r794.b.abs.length ≤ 140737488355328 → ((bs r794.a) ∧ (∀ r815, (gi64AS r794) = r815 → (r815.2.a.abs.length ≤ 140737488355328 → (r815.2.b.abs.length ≤ 140737488355328 → (K (r815.1, 0))))))))))))))))))))))))))))))))))))))))))))))))))))))))))))))))))))))))))))
def sgrow_vc (u1 : Int) (K : (List Signal) → Prop) : Prop := (((decide (u1 < 0)) = true → False) ∧ ((decide (u1 < 0)) = false → (((decide ((w64 (u1 - 0)) > 0)) = true → ((0 ≤ (w64 (u1 - 0)) ∧ (w64 (u1 - 0)) * 72 ≤ 140737488355328) ∧ ((0 ≤ (0 : Int) ∧ (0 : Int) ≤ ((List.replicate (w64 (u1 - 0)).toNat ((⟨[], 0, 0, false, false, 0, 0, 0, 0⟩ : Signal) : Signal)).length : Int)) ∧ (K ((List.replicate (w64 (u1 - 0)).toNat ((⟨[], 0, 0, false, false, 0, 0, 0, 0⟩ : Signal) : Signal)).take (0 : Int).toNat))))) ∧ ((decide ((w64 (u1 - 0)) > 0)) = false → (K ([] : List Signal))))))
theorem ngcd_coprime {a b : Int} (h : b ≠ 0) : ngcd (a.tdiv (ngcd a b)) (b.tdiv (ngcd a b)) = 1 := by
 have hp := ngcd_pos (a := a) h
 have e1 : a.tdiv (ngcd a b) = a / ngcd a b := Int.tdiv_eq_ediv_of_dvd (ngcd_left a b)
 have e2 : b.tdiv (ngcd a b) = b / ngcd a b := Int.tdiv_eq_ediv_of_dvd (ngcd_right a b)
 rw [e1, e2]
 unfold ngcd at *
 rw [Int.gcd_ediv_gcd_ediv_gcd (by omega)]
 rfl
theorem dvd_co {a b c : Int} (h : a ∣ b * c) (hg : ngcd a b = 1) : a ∣ c := by
 have hn : Nat.gcd a.natAbs b.natAbs = 1 := by
  have : ((Nat.gcd a.natAbs b.natAbs : Nat) : Int) = 1 := hg
  omega
 have h1 : a.natAbs ∣ b.natAbs * c.natAbs := by rw [← Int.natAbs_mul]; exact Int.natAbs_dvd_natAbs.2 h
 exact Int.natAbs_dvd_natAbs.1 (Nat.Coprime.dvd_of_dvd_mul_left hn h1)
theorem ngcd_comm (a b : Int) : ngcd a b = ngcd b a := by unfold ngcd; rw [Int.gcd_comm]
theorem ngcd_neg_left (a b : Int) : ngcd (-a) b = ngcd a b := by unfold ngcd; rw [Int.neg_gcd]
theorem ngcd_neg_right (a b : Int) : ngcd a (-b) = ngcd a b := by unfold ngcd; rw [Int.gcd_neg]
theorem ngcd_dvd {a b : Int} (hb : 0 < b) (h : b ∣ a) : ngcd a b = b := by unfold ngcd; rw [Int.gcd_eq_right (by omega) h]
theorem rawN_back {mul div add num den n : Int} (hm : mul ≠ 0) (hd : 0 < den) (h : n * mul * den = (num - add * den) * div) : rawN mul div add num den = (n, true) := by
 unfold rawN
 dsimp only
 generalize num - add * den = up at *
 have g0 := ngcd_pos (a := div) hm
 have g1 := Int.tdiv_mul_cancel (ngcd_left div mul)
 have g2 := Int.tdiv_mul_cancel (ngcd_right div mul)
 have gc := ngcd_coprime (a := div) hm
 generalize ngcd div mul = g at *
 generalize div.tdiv g = a0 at *
 generalize mul.tdiv g = b0 at *
 have hb0 : b0 ≠ 0 := by intro e; rw [e, Int.zero_mul] at g2; exact hm g2.symm
 obtain ⟨a, b, ha, hb, hbp, hab, heq⟩ : ∃ a b : Int, (if b0 < 0 then -a0 else a0) = a ∧ (if b0 < 0 then -b0 else b0) = b ∧ 0 < b ∧ ngcd a b = 1 ∧ n * b * den = up * a := by
  have h2 : n * b0 * den = up * a0 := by
   have : n * b0 * den * g = up * a0 * g := by
    have e1 : n * b0 * den * g = n * (b0 * g) * den := by ac_rfl
    have e2 : up * a0 * g = up * (a0 * g) := by ac_rfl
    rw [e1, e2, g1, g2, h]
   exact Int.eq_of_mul_eq_mul_right (by omega) this
  by_cases hn : b0 < 0
  · refine ⟨-a0, -b0, by rw [if_pos hn], by rw [if_pos hn], by omega, by rw [ngcd_neg_left, ngcd_neg_right, gc], ?_⟩
    rw [Int.mul_neg, Int.neg_mul, Int.mul_neg, h2]
  · exact ⟨a0, b0, by rw [if_neg hn], by rw [if_neg hn], by omega, gc, h2⟩
 rw [ha, hb]
 clear ha hb h g1 g2 gc hb0
 have k1 := Int.tdiv_mul_cancel (ngcd_left up den)
 have k2 := Int.tdiv_mul_cancel (ngcd_right up den)
 have kc := ngcd_coprime (a := up) (b := den) (by omega)
 have k0 := ngcd_pos (a := up) (b := den) (by omega)
 generalize ngcd up den = k at *
 generalize up.tdiv k = up1 at *
 generalize den.tdiv k = den1 at *
 have hd1 : 0 < den1 := by
  rcases Int.lt_trichotomy den1 0 with e | e | e
  · have := Int.mul_neg_of_neg_of_pos e k0; omega
  · rw [e, Int.zero_mul] at k2; omega
  · exact e
 have heq2 : n * b * den1 = up1 * a := by
  have : n * b * den1 * k = up1 * a * k := by
   have e1 : n * b * den1 * k = n * b * (den1 * k) := by ac_rfl
   have e2 : up1 * a * k = (up1 * k) * a := by ac_rfl
   rw [e1, e2, k1, k2, heq]
  exact Int.eq_of_mul_eq_mul_right (by omega) this
 have hda : den1 ∣ a := dvd_co (b := up1) ⟨n * b, by rw [← heq2]; ac_rfl⟩ (by rw [ngcd_comm]; exact kc)
 rw [ngcd_dvd hd1 hda]
 obtain ⟨a1, rfl⟩ := hda
 rw [Int.mul_tdiv_cancel_left _ (by omega : den1 ≠ 0), Int.tdiv_self (by omega)]
 have heq3 : n * b = up1 * a1 := by
  have : n * b * den1 = up1 * a1 * den1 := by rw [heq2]; ac_rfl
  exact Int.eq_of_mul_eq_mul_right (by omega) this
 have hba : ngcd b a1 = 1 := by
  have h1 : ngcd b a1 ∣ ngcd (den1 * a1) b := by
   unfold ngcd
   exact Int.natCast_dvd_natCast.2 (Nat.dvd_gcd (by rw [Int.natAbs_mul]; exact Nat.dvd_trans (Nat.gcd_dvd_right _ _) (Nat.dvd_mul_left _ _)) (Nat.gcd_dvd_left _ _))
  rw [hab] at h1
  have h2 := Int.le_of_dvd (by decide) h1
  have h3 := ngcd_pos (a := a1) (b := b) (by omega)
  rw [ngcd_comm] at h3
  omega
 have hbu : b ∣ up1 := dvd_co (b := a1) ⟨n, by rw [Int.mul_comm a1, ← heq3]; ac_rfl⟩ hba
 rw [ngcd_dvd hbp hbu]
 obtain ⟨u, rfl⟩ := hbu
 rw [Int.mul_tdiv_cancel_left _ (by omega : b ≠ 0), Int.tdiv_self (by omega)]
 have : n = u * a1 := by
  have : n * b = u * a1 * b := by rw [heq3]; ac_rfl
  exact Int.eq_of_mul_eq_mul_right (by omega) this
 rw [this]
 rfl
theorem nrm0_is {a b : Int} (hb : 0 < b) : ∃ g x y : Int, 0 < g ∧ 0 < y ∧ a = g * x ∧ b = g * y ∧ nrm0 a b = ⟨bz x, bz y⟩ ∧ Int.gcd x y = 1 := by
 have hg : 0 < Int.gcd a b := Int.gcd_pos_of_ne_zero_right _ (by omega)
 obtain ⟨x, hx⟩ : ((Int.gcd a b : Nat) : Int) ∣ a := Int.gcd_dvd_left ..
 obtain ⟨y, hy⟩ : ((Int.gcd a b : Nat) : Int) ∣ b := Int.gcd_dvd_right ..
 have hgi : (0 : Int) < (Int.gcd a b : Nat) := by omega
 have hy0 : 0 < y := by
  rcases Int.lt_or_le 0 y with h | h
  · exact h
  · have := Int.mul_nonpos_of_nonneg_of_nonpos (Int.le_of_lt hgi) h
    omega
 have h1 : Int.gcd a b = Int.gcd a b * Int.gcd x y := by
  have := Int.gcd_mul_left ((Int.gcd a b : Nat) : Int) x y
  rw [← hx, ← hy, Int.natAbs_natCast] at this
  exact this
 refine ⟨(Int.gcd a b : Nat), x, y, hgi, hy0, hx, hy, ?_, ?_⟩
 · unfold nrm0
   generalize Int.gcd a b = g at *
   rw [hx, hy, Int.mul_tdiv_cancel_left _ (by omega), Int.mul_tdiv_cancel_left _ (by omega)]
 · have h2 : Int.gcd a b * 1 = Int.gcd a b * Int.gcd x y := by rw [Nat.mul_one]; exact h1
   exact (Nat.eq_of_mul_eq_mul_left hg h2).symm
theorem nrm_one (a : Int) : nrm a 1 = ⟨bz a, bz 1⟩ := by
 unfold nrm nrm0
 rw [if_neg (by omega)]
 have : Int.gcd a 1 = 1 := by simp
 rw [this]
 show (⟨bz (a.tdiv 1), bz ((1 : Int).tdiv 1)⟩ : BRat) = _
 rw [Int.tdiv_one, Int.tdiv_one]
theorem nrm_pos {a b : Int} (h : 0 < b) : nrm a b = nrm0 a b := by unfold nrm; rw [if_neg (by omega)]
theorem nrm_is {a b : Int} (hb : b ≠ 0) : ∃ g x y : Int, g ≠ 0 ∧ 0 < y ∧ a = g * x ∧ b = g * y ∧ nrm a b = ⟨bz x, bz y⟩ ∧ Int.gcd x y = 1 := by
 by_cases h : b < 0
 · obtain ⟨g, x, y, h1, h2, h3, h4, h5, h6⟩ := nrm0_is (a := -a) (b := -b) (by omega)
   refine ⟨-g, x, y, by omega, h2, ?_, ?_, ?_, h6⟩
   · rw [Int.neg_mul, ← h3]
     omega
   · rw [Int.neg_mul, ← h4]
     omega
   · unfold nrm
     rw [if_pos h]
     exact h5
 · obtain ⟨g, x, y, h1, h2, h3, h4, h5, h6⟩ := nrm0_is (a := a) (b := b) (by omega)
   exact ⟨g, x, y, by omega, h2, h3, h4, by rw [nrm_pos (by omega)]; exact h5, h6⟩
theorem abs_part2 {g x a : Int} (hg : g ≠ 0) (h : a = g * x) : x.natAbs ≤ a.natAbs := by
 rw [h, Int.natAbs_mul]
 have : 1 * x.natAbs ≤ g.natAbs * x.natAbs := Nat.mul_le_mul_right _ (by omega)
 omega
theorem zcmp_lt {x y : Int} : decide (zcmp x y < 0) = decide (x < y) := by
 unfold zcmp
 rw [decide_eq_decide]
 split
 · rename_i h
   exact ⟨fun _ => h, fun _ => by decide⟩
 · rename_i h
   split
   · exact ⟨fun hc => absurd hc (by decide), fun hc => absurd hc h⟩
   · exact ⟨fun hc => absurd hc (by decide), fun hc => absurd hc h⟩
theorem zcmp_ge {x y : Int} : decide (zcmp x y ≥ 0) = decide (y ≤ x) := by
 unfold zcmp
 rw [decide_eq_decide]
 split
 · exact ⟨fun hc => absurd hc (by decide), fun hc => by omega⟩
 · split
   · exact ⟨fun _ => by omega, fun _ => by decide⟩
   · exact ⟨fun _ => by omega, fun _ => by decide⟩
theorem unm_tail (R : BRat) (x L U : Int) (hR : R.a = bz x) (bx : x.natAbs < 9223372036854775808) (bL : L.natAbs < 18446744073709551616) (bU : U.natAbs < 18446744073709551616) {A : Int × Int → Prop} (h1 : x < L → A (0, 3)) (h2 : U ≤ x → A (0, 3)) (h3 : L ≤ x → x < U → A (x, 0)) : (∀ r743, (rnumS R) = r743 → (r743.a.abs.length ≤ 140737488355328 → (r743.b.abs.length ≤ 140737488355328 → ((bk r743.a ∧ bk (bz L)) ∧ (∀ r766, (gcmpAS r743 (bz L)) = r766 → (r766.2.1.a.abs.length ≤ 140737488355328 → (r766.2.1.b.abs.length ≤ 140737488355328 → (r766.2.2.abs.length ≤ 140737488355328 → (((decide (r766.1 < 0)) = true → (A (0, 3))) ∧ ((decide (r766.1 < 0)) = false → (∀ r817, (rnumS r766.2.1) = r817 → (r817.a.abs.length ≤ 140737488355328 → (r817.b.abs.length ≤ 140737488355328 → ((bk r817.a ∧ bk (bz U)) ∧ (∀ r840, (gcmpAS r817 (bz U)) = r840 → (r840.2.1.a.abs.length ≤ 140737488355328 → (r840.2.1.b.abs.length ≤ 140737488355328 → (r840.2.2.abs.length ≤ 140737488355328 → (((decide (r840.1 ≥ 0)) = true → (A (0, 3))) ∧ ((decide (r840.1 ≥ 0)) = false → (∀ r878, (rnumS r840.2.1) = r878 → (r878.a.abs.length ≤ 140737488355328 → (r878.b.abs.length ≤ 140737488355328 → ((bs r878.a) ∧ (∀ r899, (gi64AS r878) = r899 → (r899.2.a.abs.length ≤ 140737488355328 → (r899.2.b.abs.length ≤ 140737488355328 → (A (r899.1, 0))))))))))))))))))))))))))))) := by
 have ka : bk R.a := by rw [hR]; exact bk_bz (by omega)
 have ks : bs R.a := by
  rw [hR]
  unfold bs
  rw [iv_bz]
  exact ⟨rfl, bx⟩
 have hiv : iv R.a = x := by rw [hR, iv_bz]
 rintro _ rfl _ _
 refine ⟨⟨ka, bk_bz bL⟩, ?_⟩
 rintro _ rfl _ _ _
 have e1 : (gcmpAS (rnumS R) (bz L)).1 = zcmp x L := by
  show zcmp (iv R.a) (iv (bz L)) = _
  rw [hiv, iv_bz]
 rw [e1, zcmp_lt]
 refine ⟨fun h => h1 (of_decide_eq_true h), fun h => ?_⟩
 have h := of_decide_eq_false h
 rintro _ rfl _ _
 refine ⟨⟨ka, bk_bz bU⟩, ?_⟩
 rintro _ rfl _ _ _
 have e2 : (gcmpAS (rnumS (gcmpAS (rnumS R) (bz L)).2.1) (bz U)).1 = zcmp x U := by
  show zcmp (iv R.a) (iv (bz U)) = _
  rw [hiv, iv_bz]
 rw [e2, zcmp_ge]
 refine ⟨fun h => h2 (of_decide_eq_true h), fun h' => ?_⟩
 have h' := of_decide_eq_false h'
 rintro _ rfl _ _
 refine ⟨ks, ?_⟩
 rintro _ rfl _ _
 show A (iv R.a, 0)
 rw [hiv]
 exact h3 (by omega) (by omega)
set_option maxHeartbeats 0 in
theorem runm_ok (s : Signal) (num den : Int) (h : checkS s 64 = 0) : runm_vc s num den (fun r => r = rawS s num den) := by
 obtain ⟨⟨_, _, z1, z2⟩, ⟨m0, m1, m2, d1, d2, a1, a2⟩, _, _⟩ := check_zero h
 unfold rawS
 rw [if_neg (show ¬ checkS s 64 ≠ 0 by rw [h]; simp)]
 refine ⟨fun h1 => ?_, fun h1 => ?_⟩
 · rw [if_pos]
   simp only [Bool.or_eq_true, decide_eq_true_eq] at h1
   omega
 simp only [Bool.or_eq_false_iff, decide_eq_false_iff_not] at h1
 rw [if_neg (by omega)]
 refine ⟨by omega, ?_⟩
 obtain ⟨g, x, y, hg, hy, hx1, hy1, hq1, _⟩ := nrm_is (a := num) (b := den) (by omega)
 have bx := abs_part2 hg hx1
 have bY := abs_part2 hg hy1
 have e67 : rsf64S (⟨(⟨false, []⟩ : BInt), (⟨false, []⟩ : BInt)⟩ : BRat) num den = ⟨bz x, bz y⟩ := hq1
 rw [e67]
 rintro _ rfl _ _
 refine ⟨by omega, ?_⟩
 have e104 : rsiS (⟨(⟨false, []⟩ : BInt), (⟨false, []⟩ : BInt)⟩ : BRat) s.Add = ⟨bz s.Add, bz 1⟩ := nrm_one _
 rw [e104]
 rintro _ rfl _ _
 have hAy := mul_abs (a := s.Add) (b := y) (A := 1000000) (B := 1000000) ⟨a1, a2⟩ (by omega)
 have rk1 : ∀ z : Int, z.natAbs < 18446744073709551616 → rk ⟨bz z, bz 1⟩ := fun z hz => ⟨bk_bz hz, bk_bz (by decide), by show 0 < iv (bz 1); rw [iv_bz]; decide⟩
 have rk2 : ∀ z w : Int, z.natAbs < 18446744073709551616 → w.natAbs < 18446744073709551616 → 0 < w → rk ⟨bz z, bz w⟩ := fun z w hz hw h0 => ⟨bk_bz hz, bk_bz hw, by show 0 < iv (bz w); rw [iv_bz]; exact h0⟩
 refine ⟨⟨rk2 x y (by omega) (by omega) hy, rk1 s.Add (by omega), ?_⟩, ?_⟩
 · unfold rlows
   dsimp only
   rw [iv_bz, iv_bz, iv_bz, iv_bz, Int.mul_one, Int.mul_one]
   omega
 obtain ⟨g2, x2, y2, hg2, hy2, hx3, hy3, hq2, _⟩ := nrm_is (a := x - s.Add * y) (b := y) (by omega)
 have bx2 := abs_part2 hg2 hx3
 have bY2 := abs_part2 hg2 hy3
 have e125 : rsubS (⟨bz x, bz y⟩ : BRat) ⟨bz s.Add, bz 1⟩ = (⟨bz x2, bz y2⟩, ⟨bz s.Add, bz 1⟩) := by
  unfold rsubS
  dsimp only
  rw [iv_bz, iv_bz, iv_bz, iv_bz, Int.mul_one, Int.mul_one, hq2]
 rw [e125]
 rintro _ rfl _ _ _ _
 refine ⟨by omega, ?_⟩
 have e168 : rsiS (⟨(⟨false, []⟩ : BInt), (⟨false, []⟩ : BInt)⟩ : BRat) s.Div = ⟨bz s.Div, bz 1⟩ := nrm_one _
 rw [e168]
 rintro _ rfl _ _
 have hxd := mul_abs (a := x2) (b := s.Div) (A := 2099511627776) (B := 1000000) (by omega) ⟨by omega, d2⟩
 refine ⟨⟨rk2 x2 y2 (by omega) (by omega) hy2, rk1 s.Div (by omega), ?_⟩, ?_⟩
 · unfold rlowm
   dsimp only
   rw [iv_bz, iv_bz, iv_bz, iv_bz, Int.mul_one]
   omega
 obtain ⟨g3, x3, y3, hg3, hy3', hx4, hy4, hq3, _⟩ := nrm_is (a := x2 * s.Div) (b := y2) (by omega)
 have bx3 := abs_part2 hg3 hx4
 have bY3 := abs_part2 hg3 hy4
 have e189 : rmulS (⟨bz x2, bz y2⟩ : BRat) ⟨bz s.Div, bz 1⟩ = (⟨bz x3, bz y3⟩, ⟨bz s.Div, bz 1⟩) := by
  unfold rmulS
  dsimp only
  rw [iv_bz, iv_bz, iv_bz, iv_bz, Int.mul_one, hq3]
 rw [e189]
 rintro _ rfl _ _ _ _
 refine ⟨by omega, ?_⟩
 have e232 : rsiS (⟨(⟨false, []⟩ : BInt), (⟨false, []⟩ : BInt)⟩ : BRat) s.Mul = ⟨bz s.Mul, bz 1⟩ := nrm_one _
 rw [e232]
 rintro _ rfl _ _
 have hym := mul_abs (a := y3) (b := s.Mul) (A := 1000000) (B := 1000000) (by omega) ⟨m1, m2⟩
 have hym0 : y3 * s.Mul ≠ 0 := Int.mul_ne_zero (by omega) m0
 refine ⟨⟨rk2 x3 y3 (by omega) (by omega) hy3', rk1 s.Mul (by omega), ?_⟩, ?_⟩
 · unfold rlowq
   dsimp only
   rw [iv_bz, iv_bz, iv_bz, iv_bz, Int.mul_one]
   exact ⟨by omega, by omega, m0⟩
 obtain ⟨g4, x4, y4, hg4, hy4', hx5, hy5, hq4, hco⟩ := nrm_is (a := x3) (b := y3 * s.Mul) hym0
 have bx4 := abs_part2 hg4 hx5
 have bY4 := abs_part2 hg4 hy5
 have e253 : rquoS (⟨bz x3, bz y3⟩ : BRat) ⟨bz s.Mul, bz 1⟩ = (⟨bz x4, bz y4⟩, ⟨bz s.Mul, bz 1⟩) := by
  unfold rquoS
  dsimp only
  rw [iv_bz, iv_bz, iv_bz, iv_bz, Int.mul_one, hq4]
 rw [e253]
 rintro _ rfl _ _ _ _
 refine ⟨rk2 x4 y4 (by omega) (by omega) hy4', ?_⟩
 have e286 : risintS (⟨bz x4, bz y4⟩ : BRat) = (decide (y4 = 1), ⟨bz x4, bz y4⟩) := by
  unfold risintS
  dsimp only
  rw [iv_bz]
 rw [e286]
 rintro _ rfl _ _
 have hrel : x4 * (den * s.Mul) = y4 * ((num - s.Add * den) * s.Div) := by
  have r1 : num - s.Add * den = g * (g2 * x2) := by
   rw [hx1, hy1, Int.mul_left_comm s.Add g y, ← Int.mul_sub, hx3]
  have r2 : den = g * (g2 * (g3 * y3)) := by rw [hy1, hy3, hy4]
  have r3 : x4 * (y3 * s.Mul) = y4 * x3 := by
   rw [hy5, hx5, Int.mul_left_comm, Int.mul_left_comm y4 g4, Int.mul_comm x4 y4]
  have r4 : (num - s.Add * den) * s.Div = g * (g2 * (g3 * x3)) := by
   rw [r1, Int.mul_assoc, Int.mul_assoc, hx4]
  rw [r4]
  have r5 : den * s.Mul = g * (g2 * (g3 * (y3 * s.Mul))) := by rw [r2, Int.mul_assoc, Int.mul_assoc, Int.mul_assoc]
  rw [r5, Int.mul_left_comm x4 g, Int.mul_left_comm x4 g2, Int.mul_left_comm x4 g3, r3, Int.mul_left_comm y4 g, Int.mul_left_comm y4 g2, Int.mul_left_comm y4 g3]
 have hdm : den * s.Mul ≠ 0 := Int.mul_ne_zero (by omega) m0
 refine ⟨fun h2 => ?_, fun h2 => ?_⟩
 · have h2 : ¬ y4 = 1 := by simpa using h2
   rw [if_pos]
   cases hr : (rawN s.Mul s.Div s.Add num den).2 with
   | false => rfl
   | true =>
    exfalso
    have hs := rawN_sound hr
    generalize (rawN s.Mul s.Div s.Add num den).1 = n at hs
    have h9 : y4 * (n * s.Mul * den) = (y4 * n) * (den * s.Mul) := by rw [Int.mul_assoc n, Int.mul_comm s.Mul den, ← Int.mul_assoc y4]
    rw [← hs, h9] at hrel
    have := Int.eq_of_mul_eq_mul_right hdm hrel
    rw [this, Int.gcd_mul_right_left] at hco
    omega
 have h2 : y4 = 1 := by simpa using h2
 subst h2
 rw [Int.one_mul] at hrel
 have hraw : rawN s.Mul s.Div s.Add num den = (x4, true) := rawN_back m0 (by omega) (by rw [← hrel, Int.mul_assoc, Int.mul_comm s.Mul den])
 rw [hraw, if_neg (by simp)]
 dsimp only
 obtain ⟨S, hS⟩ : ∃ S : Nat, s.Size = ((S + 1 : Nat) : Int) := ⟨s.Size.toNat - 1, by omega⟩
 have hw : wu64 s.Size = ((S + 1 : Nat) : Int) := by rw [hS, wu64_eq _ (by omega)]
 have hp : (2 : Int) ^ S ≤ 549755813888 := by
  have : 2 ^ S ≤ 2 ^ 39 := Nat.pow_le_pow_right (by omega) (by omega)
  have e : ((2 ^ S : Nat) : Int) = (2 : Int) ^ S := by norm_cast
  omega
 have hp0 : (0 : Int) < 2 ^ S := Int.pow_pos (by decide)
 have hps : (2 : Int) ^ (S + 1) = 2 * 2 ^ S := by rw [Int.pow_succ]; omega
 have eL : glshIS (⟨false, []⟩ : BInt) (bz 1) (wu64 s.Size) = (bz (2 * 2 ^ S), bz 1) := by
  unfold glshIS
  rw [hw, iv_bz, Int.toNat_natCast, hps, Int.one_mul]
 rw [eL]
 refine ⟨by decide, by decide, ⟨bk_bz (by decide), by rw [iv_bz]; decide, by omega, by omega⟩, fun hsg => ⟨⟨bk_bz (by omega), by show 0 ≤ iv (bz _); rw [iv_bz]; omega, rfl⟩, ?_⟩, fun hsg => ?_⟩
 · have eR : grshIS (bz (2 * 2 ^ S)) 1 = bz (2 ^ S) := by
     unfold grshIS
     rw [iv_bz]
     congr 1
     show 2 * 2 ^ S / 2 ^ 1 = _
     omega
   rw [eR]
   rintro _ rfl _
   refine ⟨bk_bz (by omega), ?_⟩
   have eN : gnegIS (bz 0) (bz (2 ^ S)) = (bz (-(2 ^ S)), bz (2 ^ S)) := by
    unfold gnegIS
    rw [iv_bz]
   rw [eN]
   rintro _ rfl _ _
   have hlo : lowS s = -(2 ^ S) := by
    unfold lowS
    rw [if_pos hsg, hS, Int.toNat_natCast, Nat.add_sub_cancel]
   have hhi : highS s = 2 ^ S - 1 := by
    unfold highS
    rw [if_pos hsg, hS, Int.toNat_natCast, Nat.add_sub_cancel]
   rw [hlo, hhi]
   dsimp only
   refine unm_tail ⟨bz x4, bz 1⟩ x4 (-(2 ^ S)) (2 ^ S) rfl (by omega) (by omega) (by omega) (A := fun r => r = if x4 < -2 ^ S ∨ 2 ^ S - 1 < x4 then (0, 3) else (x4, 0)) (fun h => ?_) (fun h => ?_) (fun h h' => ?_)
   · rw [if_pos (by omega)]
   · rw [if_pos (by omega)]
   · rw [if_neg (by omega)]
 · have hlo : lowS s = 0 := by
     unfold lowS
     rw [if_neg (by rw [hsg]; simp)]
   have hhi : highS s = 2 * 2 ^ S - 1 := by
    unfold highS
    rw [if_neg (by rw [hsg]; simp), hS, Int.toNat_natCast, hps]
   rw [hlo, hhi]
   dsimp only
   refine unm_tail ⟨bz x4, bz 1⟩ x4 0 (2 * 2 ^ S) rfl (by omega) (by decide) (by omega) (A := fun r => r = if x4 < 0 ∨ 2 * 2 ^ S - 1 < x4 then (0, 3) else (x4, 0)) (fun h => ?_) (fun h => ?_) (fun h h' => ?_)
   · rw [if_pos (by omega)]
   · rw [if_pos (by omega)]
   · rw [if_neg (by omega)]
def sgrowS (_n : Int) : List Signal := []
theorem sgrow_ok (u1 : Int) (h : 0 ≤ u1 ∧ u1 ≤ 4000000) : sgrow_vc u1 (fun r => r = sgrowS u1) := by
 have e : w64 (u1 - 0) = u1 := by rw [w64_eq _ (by omega)]; omega
 refine ⟨fun h1 => by simp at h1; omega, fun _ => ?_⟩
 rw [e]
 refine ⟨fun h2 => ⟨by omega, ⟨by omega, by omega⟩, rfl⟩, fun _ => rfl⟩
end Go.Proofs.YtdndfbamhnchfaaGreatDoor
set_option linter.unusedVariables false
set_option linter.unusedSimpArgs false
namespace Go.Proofs.YtdndfbamhnchfaaGreatDoor
open Go.Sy Go.RowKit
def sconcat_vc (u0 : List (List Signal)) (K : (List Signal) → Prop) : Prop := (u0.length ≤ 140737488355328 → (∃ inv19 : Int → Int → Prop, ∃ mu19 : Int → Int → Nat, inv19 0 0 ∧ (∀ (x3 : Int) (x11 : Int), inv19 x3 x11 → (((decide (x11 < (u0.length : Int))) = true → ((0 ≤ x11 ∧ x11 < (u0.length : Int)) ∧ (∀ q43, u0[x11.toNat]? = some q43 → (q43.length ≤ 140737488355328 → (((decide ((w64 (x3 + (q43.length : Int))) < 0)) = true → False) ∧ ((decide ((w64 (x3 + (q43.length : Int))) < 0)) = false → (inv19 (w64 (x3 + (q43.length : Int))) (w64 (x11 + 1)) ∧ mu19 (w64 (x3 + (q43.length : Int))) (w64 (x11 + 1)) < mu19 x3 x11))))))) ∧ ((decide (x11 < (u0.length : Int))) = false → ((0 ≤ x3 ∧ x3 ≤ 4000000) ∧ ((sgrowS x3).length ≤ 140737488355328 → (∃ inv108 : (List Signal) → Int → Prop, ∃ mu108 : (List Signal) → Int → Nat, inv108 (sgrowS x3) 0 ∧ (∀ (x6 : List Signal) (x27 : Int), inv108 x6 x27 → (((decide (x27 < (u0.length : Int))) = true → ((0 ≤ x27 ∧ x27 < (u0.length : Int)) ∧ (∀ q132, u0[x27.toNat]? = some q132 → (q132.length ≤ 140737488355328 → (((x6.length + q132.length) * 72 ≤ 140737488355328) ∧ (inv108 (x6 ++ q132) (w64 (x27 + 1)) ∧ mu108 (x6 ++ q132) (w64 (x27 + 1)) < mu108 x6 x27)))))) ∧ ((decide (x27 < (u0.length : Int))) = false → (K x6))))))))))))
def wr1_vc (u0 : Reading) (u1 : Signal) (K : Bool → Prop) : Prop := (K (u0.Name == u1.Name))
def wr1 (u0 : Reading) (u1 : Signal) : Bool :=
 u0.Name == u1.Name
theorem wr1_ok (u0 : Reading) (u1 : Signal) : wr1_vc u0 u1 (fun r => r = wr1 u0 u1) := (by rfl)
def ridxf_vc (u0 : List Reading) (u1 : Reading → Bool) (K : Int → Prop) : Prop := (u0.length ≤ 140737488355328 → (∃ inv20 : Int → Prop, ∃ mu20 : Int → Nat, inv20 0 ∧ (∀ (x8 : Int), inv20 x8 → (((decide (x8 < (u0.length : Int))) = true → ((0 ≤ x8 ∧ x8 < (u0.length : Int)) ∧ (∀ q55, u0[x8.toNat]? = some q55 → (((u1 q55) = true → (K x8)) ∧ ((u1 q55) = false → (inv20 (w64 (x8 + 1)) ∧ mu20 (w64 (x8 + 1)) < mu20 x8)))))) ∧ ((decide (x8 < (u0.length : Int))) = false → (K (-1)))))))
def rsame_vc (u0 : Frame) (u1 : Frame) (K : Bool → Prop) : Prop := (u0.Data.length ≤ 140737488355328 → (u1.Data.length ≤ 140737488355328 → (K ((((((u0.ID == u1.ID) && (u0.Long == u1.Long)) && (u0.Fast == u1.Fast)) && (u0.Remote == u1.Remote)) && (u0.Size == u1.Size)) && (beqS u0.Data u1.Data)))))
theorem rsame_mono {u0 : Frame} {u1 : Frame} {K K1 : Bool → Prop} (hK : ∀ r, K r → K1 r) (h : rsame_vc u0 u1 K) : rsame_vc u0 u1 K1 :=
 fun z0 => fun z1 => hK _ ((h z0) z1)
def nofr_vc (u0 : Frame) (K : Bool → Prop) : Prop := (u0.Data.length ≤ 140737488355328 → (rsame_vc u0 (⟨0, false, false, false, 0, []⟩ : Frame) fun r18 => (K r18)))
def sconcatS (l : List (List Signal)) : List Signal := l.flatten
theorem flat_take (l : List (List Signal)) (k : Nat) (q : List Signal) (hq : l[k]? = some q) : (l.take (k + 1)).flatten = (l.take k).flatten ++ q := by
 rw [take_next l k q hq, List.flatten_append]
 simp
theorem flat_len (l : List (List Signal)) (h : ∀ x ∈ l, x.length ≤ 1048576) (n : Nat) (hn : l.length ≤ n) : l.flatten.length ≤ n * 1048576 := by
 induction l generalizing n with
 | nil => simp
 | cons x l ih =>
  have h1 := h x (by simp)
  simp only [List.length_cons] at hn
  have h2 := ih (fun y hy => h y (by simp [hy])) (n - 1) (by omega)
  rw [List.flatten_cons, List.length_append]
  have : n * 1048576 = (n - 1) * 1048576 + 1048576 := by omega
  omega
theorem sconcat_ok (u0 : List (List Signal)) (h : (∀ l ∈ u0, l.length ≤ 1048576) ∧ u0.length ≤ 2) : sconcat_vc u0 (fun r => r = sconcatS u0) := by
 intro hl
 have hb : ∀ k, (u0.take k).flatten.length ≤ 2 * 1048576 := fun k => flat_len _ (fun x hx => h.1 x (List.mem_of_mem_take hx)) 2 (by rw [List.length_take]; omega)
 refine rg1b hl (fun k (x : Int) => x = (((u0.take k).flatten.length : Nat) : Int)) (by simp) ?_ ?_
 · rintro k _ q hk hq rfl inv mu hn _
   have h1 := hb k
   have h2 := h.1 q (List.mem_of_getElem? hq)
   have e : w64 (((u0.take k).flatten.length : Int) + (q.length : Int)) = (((u0.take (k + 1)).flatten.length : Nat) : Int) := by
    rw [w64_eq _ (by omega), flat_take u0 k q hq, List.length_append]
    omega
   rw [e]
   refine ⟨fun h3 => ?_, fun _ => hn _ rfl⟩
   have h4 := of_decide_eq_true h3
   omega
 · rintro _ rfl
   have h1 := hb u0.length
   refine ⟨by omega, fun _ => ?_⟩
   refine rg1b hl (fun k (x : List Signal) => x = (u0.take k).flatten) (by simp [sgrowS]) ?_ ?_
   · rintro k _ q hk hq rfl inv mu hn _
     have h1 := hb k
     have h2 := h.1 q (List.mem_of_getElem? hq)
     exact ⟨by omega, hn _ (flat_take u0 k q hq).symm⟩
   · rintro _ rfl
     rw [List.take_length]
     rfl
theorem ridxf_ok (l : List Reading) (p : Reading → Bool) : ridxf_vc l p (fun r => r = sidx p l) := by
 intro hl
 refine rg0 hl (fun k => ∀ j y, j < k → l[j]? = some y → p y = false) (fun j y h => absurd h (Nat.not_lt_zero _)) ?_ ?_
 · intro k q hk hq hj inv mu hn
   refine ⟨fun h => (sidx_at _ l k q hq h hj).symm, fun h => hn fun j y hj1 hy => ?_⟩
   rcases Nat.lt_or_ge j k with h1 | h1
   · exact hj j y h1 hy
   · have : j = k := by omega
     subst this
     rw [hq] at hy
     cases hy
     exact h
 · intro hj
   refine (sidx_none _ l fun j y hy => hj j y (List.getElem?_eq_some_iff.1 hy).1 hy).symm
def ridxfS (l : List Reading) (p : Reading → Bool) : Int := sidx p l
def rsameS (a b : Frame) : Bool := (((((a.ID == b.ID) && (a.Long == b.Long)) && (a.Fast == b.Fast)) && (a.Remote == b.Remote)) && (a.Size == b.Size)) && (beqS a.Data b.Data)
theorem rsame_ok (a b : Frame) : rsame_vc a b (fun r => r = rsameS a b) := fun _ _ => rfl
def nofrS (f : Frame) : Bool := rsameS f ⟨0, false, false, false, 0, []⟩
theorem nofr_ok (f : Frame) : nofr_vc f (fun r => r = nofrS f) := fun _ => rsame_mono (fun r h => by subst h; rfl) (rsame_ok f _)
end Go.Proofs.YtdndfbamhnchfaaGreatDoor
set_option linter.unusedVariables false
set_option linter.unusedSimpArgs false
namespace Go.Proofs.YtdndfbamhnchfaaGreatDoor
open Go.Sy Go.RowKit
def lwritten_vc (u0 : Message) (u1 : List Reading) (K : (Frame × Int) → Prop) : Prop := (u0.Signals.length ≤ 140737488355328 → (u1.length ≤ 140737488355328 → ((0 ≤ u0.Size ∧ u0.Size ≤ u0.Size ∧ u0.Size * 1 ≤ 140737488355328) ∧ (∃ inv45 : Prop, (∃ inv561 : Int → Prop, ∃ mu561 : Int → Nat, inv561 0 ∧ (∀ (x23 : Int), inv561 x23 → (((decide (x23 < (u1.length : Int))) = true → (∃ inv580 : Prop, ((0 ≤ x23 ∧ x23 < (u1.length : Int)) ∧ (∀ q606, u1[x23.toNat]? = some q606 → ((0 ≤ x23 ∧ x23 ≤ (u1.length : Int)) ∧ (∃ inv643 : Int → Prop, ∃ mu643 : Int → Nat, inv643 0 ∧ (∀ (x32 : Int), inv643 x32 → (((decide (x32 < ((u1.take x23.toNat).length : Int))) = true → ((0 ≤ x32 ∧ x32 < ((u1.take x23.toNat).length : Int)) ∧ (∀ q667, (u1.take x23.toNat)[x32.toNat]? = some q667 → (((q667.Name == q606.Name) = true → (K ((⟨0, false, false, false, 0, []⟩ : Frame), 9))) ∧ ((q667.Name == q606.Name) = false → (inv643 (w64 (x32 + 1)) ∧ mu643 (w64 (x32 + 1)) < mu643 x32)))))) ∧ ((decide (x32 < ((u1.take x23.toNat).length : Int))) = false → inv580))))))) ∧ (inv580 → (inv561 (w64 (x23 + 1)) ∧ mu561 (w64 (x23 + 1)) < mu561 x23)))) ∧ ((decide (x23 < (u1.length : Int))) = false → inv45)))) ∧ (inv45 → (∃ inv76 : (List Signal) → Prop, (((decide (u0.Chooser ≥ 0)) = true → ((0 ≤ u0.Chooser ∧ u0.Chooser < (u0.Signals.length : Int)) ∧ (∀ q459, u0.Signals[u0.Chooser.toNat]? = some q459 → ((0 ≤ u0.Chooser ∧ u0.Chooser ≤ (u0.Signals.length : Int)) ∧ ((0 ≤ w64 (u0.Chooser + 1) ∧ w64 (u0.Chooser + 1) ≤ (u0.Signals.length : Int)) ∧ (((∀ l ∈ ([u0.Signals.take u0.Chooser.toNat, u0.Signals.drop (w64 (u0.Chooser + 1)).toNat] : List (List Signal)), l.length ≤ 1048576) ∧ ([u0.Signals.take u0.Chooser.toNat, u0.Signals.drop (w64 (u0.Chooser + 1)).toNat] : List (List Signal)).length ≤ 2) ∧ (((([q459] : List Signal).length + (sconcatS ([u0.Signals.take u0.Chooser.toNat, u0.Signals.drop (w64 (u0.Chooser + 1)).toNat] : List (List Signal))).length) * 72 ≤ 140737488355328) ∧ (inv76 (([q459] : List Signal) ++ (sconcatS ([u0.Signals.take u0.Chooser.toNat, u0.Signals.drop (w64 (u0.Chooser + 1)).toNat] : List (List Signal)))))))))))) ∧ ((decide (u0.Chooser ≥ 0)) = false → (inv76 u0.Signals))) ∧ (∀ (x12 : List Signal), inv76 x12 → (∃ inv99 : (List Int) → Int → Prop, (∃ inv162 : (List Int) → Int → Int → Prop, ∃ mu162 : (List Int) → Int → Int → Nat, inv162 (List.replicate u0.Size.toNat (0 : Int)) 0 0 ∧ (∀ (x6v : List Int) (x11v : Int) (x72 : Int), inv162 x6v x11v x72 → (((decide (x72 < (x12.length : Int))) = true → (∃ inv187 : (List Int) → Int → Prop, ((0 ≤ x72 ∧ x72 < (x12.length : Int)) ∧ (∀ q220, x12[x72.toNat]? = some q220 → ((-1 ≤ q220.Key ∧ therepre u0 q220 x6v) ∧ (((!(mthereS u0 q220 x6v)) = true → (inv187 x6v x11v)) ∧ ((!(mthereS u0 q220 x6v)) = false → (((decide ((ridxfS u1 (fun x0 => wr1 x0 q220)) < 0)) = true → (K ((⟨0, false, false, false, 0, []⟩ : Frame), 14))) ∧ ((decide ((ridxfS u1 (fun x0 => wr1 x0 q220)) < 0)) = false → ((0 ≤ (ridxfS u1 (fun x0 => wr1 x0 q220)) ∧ (ridxfS u1 (fun x0 => wr1 x0 q220)) < (u1.length : Int)) ∧ (∀ q304, u1[(ridxfS u1 (fun x0 => wr1 x0 q220)).toNat]? = some q304 → ((0 ≤ (ridxfS u1 (fun x0 => wr1 x0 q220)) ∧ (ridxfS u1 (fun x0 => wr1 x0 q220)) < (u1.length : Int)) ∧ (∀ q329, u1[(ridxfS u1 (fun x0 => wr1 x0 q220)).toNat]? = some q329 → ((checkS q220 64 = 0) ∧ ((((rawS q220 q304.Num q329.Den).2 != 0) = true → (K ((⟨0, false, false, false, 0, []⟩ : Frame), (rawS q220 q304.Num q329.Den).2))) ∧ (((rawS q220 q304.Num q329.Den).2 != 0) = false → ((inD q220 x6v) ∧ ((putS q220 x6v (rawS q220 q304.Num q329.Den).1).length ≤ 140737488355328 → (inv187 (putS q220 x6v (rawS q220 q304.Num q329.Den).1) (w64 (x11v + 1))))))))))))))))))) ∧ (∀ (x6vv : List Int) (x11vv : Int), inv187 x6vv x11vv → (inv162 x6vv x11vv (w64 (x72 + 1)) ∧ mu162 x6vv x11vv (w64 (x72 + 1)) < mu162 x6v x11v x72)))) ∧ ((decide (x72 < (x12.length : Int))) = false → (inv99 x6v x11v))))) ∧ (∀ (x6 : List Int) (x11 : Int), inv99 x6 x11 → (((decide (x11 < (u1.length : Int))) = true → (K ((⟨0, false, false, false, 0, []⟩ : Frame), 8))) ∧ ((decide (x11 < (u1.length : Int))) = false → (K ((⟨u0.ID, u0.Long, false, false, 0, x6⟩ : Frame), 0)))))))))))))
theorem mput_new : ∀ (t : Told) (k : List UInt8) (v : Reading), mget t k = none → mput t k v = t ++ [(k, v)] := by
 intro t
 induction t with
 | nil => intro k v _; rfl
 | cons x r ih =>
  intro k v h
  unfold mget at h
  rw [List.find?_cons] at h
  by_cases hk : k = x.1
  · rw [decide_eq_true hk] at h
    cases h
  · rw [decide_eq_false hk] at h
    rw [mput, if_neg hk, ih k v h]
    rfl
theorem mget_none {t : Told} {k : List UInt8} (h : k ∉ t.map (·.1)) : mget t k = none := by
 unfold mget
 rw [Option.map_eq_none_iff, List.find?_eq_none]
 intro x hx hc
 rw [decide_eq_true_eq] at hc
 exact h (hc ▸ List.mem_map_of_mem hx)
theorem tell_map {α : Type} {f : α → Reading} {nm : α → List UInt8} (hf : ∀ x, (f x).Name = nm x) : ∀ (L : List α) (t : Told), (L.map nm).Nodup → (∀ x ∈ L, nm x ∉ t.map (·.1)) → tell (L.map f) t = some (t ++ L.map fun x => (nm x, f x)) := by
 intro L
 induction L with
 | nil => intro t _ _; simp [tell]
 | cons x r ih =>
  intro t hn ht
  rw [List.map_cons, List.nodup_cons] at hn
  have h0 := mget_none (ht x (by simp))
  rw [List.map_cons, tell, hf, if_neg (by rw [h0]; simp), mput_new t _ _ h0, ih _ hn.2 (fun y hy hc => ?_)]
  · rw [List.map_cons, List.append_assoc]
    rfl
  · rw [List.map_append, List.mem_append] at hc
    rcases hc with hc | hc
    · exact ht y (by simp [hy]) hc
    · have : nm y = nm x := by simpa using hc
      exact hn.1 (this ▸ List.mem_map_of_mem hy)
theorem names_nodup {m : Message} (H : MOk m) : (m.Signals.map (·.Name)).Nodup := by
 rw [List.Nodup, List.pairwise_map, List.pairwise_iff_getElem]
 intro i j hi hj hij hc
 have h2 := inner_zero (H.apart j _ (List.getElem?_eq_getElem hj)) m.Signals[i] ?_
 · exact h2.1 hc
 · rw [List.mem_take_iff_getElem]
   exact ⟨i, by omega, rfl⟩
theorem ch_sig {m : Message} (H : MOk m) (h : 0 ≤ m.Chooser) : m.Signals[m.Chooser.toNat]? = some (chooserOf m) := by
 have := H.ch
 unfold chooserOf
 rw [List.getElem?_eq_getElem (by omega)]
 rfl
theorem ch_key {m : Message} (H : MOk m) (h : 0 ≤ m.Chooser) : (chooserOf m).Key < 0 := by
 have h2 := H.chooser
 unfold chBad at h2
 rw [decide_eq_true h, Bool.true_and, Bool.or_eq_false_iff, Bool.or_eq_false_iff] at h2
 have := of_decide_eq_false h2.1.2
 omega
theorem there_key {m : Message} {s : Signal} (h : s.Key < 0) (d : List Int) : mthereS m s d = true := by
 unfold mthereS
 rw [decide_eq_true h]
 rfl
def refT (m : Message) : List Signal → Told → List Int → Except Int (Told × List Int)
 | [], t, d => .ok (t, d)
 | s :: l, t, d => if mthereS m s d = false then refT m l t d else match putW s t d with
  | .error e => .error e
  | .ok q => refT m l q.1 q.2
def orderOf (m : Message) : List Signal := if 0 ≤ m.Chooser then chooserOf m :: (m.Signals.take m.Chooser.toNat ++ m.Signals.drop (m.Chooser.toNat + 1)) else m.Signals
theorem writeL_skip (m : Message) : ∀ (l : List Signal) (i : Int) (t : Told) (d : List Int), (∀ j : Nat, j < l.length → i + j ≠ m.Chooser) → writeL m i l t d = refT m l t d
 | [], _, _, _, _ => rfl
 | s :: l, i, t, d, h => by
  have h0 : i ≠ m.Chooser := by have := h 0 (by simp); simpa using this
  have hr : ∀ j : Nat, j < l.length → i + 1 + j ≠ m.Chooser := fun j hj => by have := h (j + 1) (by simp; omega); push_cast at this; omega
  rw [writeL, refT]
  by_cases hth : mthereS m s d = false
  · rw [if_pos (.inr hth), if_pos hth]
    exact writeL_skip m l (i + 1) t d hr
  · rw [if_neg (by simp [h0, hth]), if_neg hth]
    cases putW s t d with
    | error e => rfl
    | ok q => exact writeL_skip m l (i + 1) q.1 q.2 hr
theorem writeL_cut (m : Message) (x : Signal) (B : List Signal) : ∀ (A : List Signal) (i : Int) (t : Told) (d : List Int), i + A.length = m.Chooser → writeL m i (A ++ x :: B) t d = refT m (A ++ B) t d
 | [], i, t, d, h => by
  have h0 : i = m.Chooser := by simpa using h
  rw [List.nil_append, List.nil_append, writeL, if_pos (.inl h0)]
  exact writeL_skip m B (i + 1) t d (fun j _ => by omega)
 | s :: A, i, t, d, h => by
  have h : i + 1 + A.length = m.Chooser := by simp at h; omega
  have h0 : i ≠ m.Chooser := by omega
  rw [List.cons_append, List.cons_append, writeL, refT]
  by_cases hth : mthereS m s d = false
  · rw [if_pos (.inr hth), if_pos hth]
    exact writeL_cut m x B A (i + 1) t d h
  · rw [if_neg (by simp [h0, hth]), if_neg hth]
    cases putW s t d with
    | error e => rfl
    | ok q => exact writeL_cut m x B A (i + 1) q.1 q.2 h
theorem goW_eq {m : Message} (H : MOk m) (t : Told) (d : List Int) : goW m (chW m t d) = endW m (refT m (orderOf m) t d) := by
 unfold chW orderOf
 by_cases h : 0 ≤ m.Chooser
 · rw [if_pos h, if_pos h, refT, if_neg (by rw [there_key (ch_key H h)]; simp)]
   have hc := ch_sig H h
   have hlt := (List.getElem?_eq_some_iff.1 hc).1
   have hs : m.Signals = m.Signals.take m.Chooser.toNat ++ chooserOf m :: m.Signals.drop (m.Chooser.toNat + 1) := by
    conv => lhs; rw [← List.take_append_drop m.Chooser.toNat m.Signals, List.drop_eq_getElem_cons hlt]
    rw [(List.getElem?_eq_some_iff.1 hc).2]
   cases putW (chooserOf m) t d with
   | error e => rfl
   | ok q =>
    show endW m (writeL m 0 m.Signals q.1 q.2) = _
    congr 1
    conv => lhs; rw [hs]
    exact writeL_cut m _ _ _ 0 q.1 q.2 (by rw [List.length_take]; omega)
 · rw [if_neg h, if_neg h]
   show endW m (writeL m 0 m.Signals t d) = _
   rw [writeL_skip m m.Signals 0 t d (fun j _ => by omega)]
theorem tell_dup : ∀ (l : List Reading) (t : Told), ((∃ r ∈ l, r.Name ∈ t.map (·.1)) ∨ ¬ (l.map (·.Name)).Nodup) → tell l t = none
 | [], t, h => by simp at h
 | r :: l, t, h => by
  rw [tell]
  split
  · rfl
  · rename_i hr
    have hr : mget t r.Name = none := by simpa using hr
    have hnot : r.Name ∉ t.map (·.1) := by
     intro hc
     obtain ⟨x, hx, e⟩ := List.mem_map.1 hc
     unfold mget at hr
     rw [Option.map_eq_none_iff, List.find?_eq_none] at hr
     exact hr x hx (by simp [e])
    rw [mput_new t _ _ hr]
    refine tell_dup l _ ?_
    rcases h with ⟨q, hq, hm⟩ | h
    · rcases List.mem_cons.1 hq with rfl | hq
      · exact absurd hm hnot
      · exact .inl ⟨q, hq, by simp [hm]⟩
    · rw [List.map_cons, List.nodup_cons] at h
      by_cases hm : r.Name ∈ l.map (·.Name)
      · obtain ⟨q, hq, e⟩ := List.mem_map.1 hm
        exact .inl ⟨q, hq, by simp [e]⟩
      · exact .inr fun hn => h ⟨hm, hn⟩
theorem tell_all {l : List Reading} (h : (l.map (·.Name)).Nodup) : tell l [] = some (l.map fun r => (r.Name, r)) := by
 have := tell_map (f := fun r : Reading => r) (nm := fun r => r.Name) (fun _ => rfl) l [] h (fun _ _ => by simp)
 simpa using this
theorem mget_find : ∀ (l : List Reading) (k : List UInt8), mget (l.map fun r => (r.Name, r)) k = l.find? fun r => r.Name == k
 | [], k => rfl
 | r :: l, k => by
  have ih := mget_find l k
  unfold mget at ih ⊢
  rw [List.map_cons, List.find?_cons, List.find?_cons]
  by_cases h : k = r.Name
  · simp [h]
  · have h' : (r.Name == k) = false := by simpa using fun e => h e.symm
    rw [decide_eq_false h, h']
    exact ih
theorem sidx_find {α : Type} (p : α → Bool) (l : List α) : (sidx p l < 0 ∧ l.find? p = none) ∨ ∃ (k : Nat) (q : α), sidx p l = k ∧ l[k]? = some q ∧ l.find? p = some q := by
 unfold sidx
 cases h : l.findIdx? p with
 | none =>
  refine .inl ⟨by simp, ?_⟩
  rw [List.findIdx?_eq_none_iff] at h
  rw [List.find?_eq_none]
  intro x hx
  simp [h x hx]
 | some i =>
  rw [List.findIdx?_eq_some_iff_getElem] at h
  obtain ⟨h1, h2, h3⟩ := h
  refine .inr ⟨i, l[i], rfl, List.getElem?_eq_getElem h1, ?_⟩
  rw [List.find?_eq_some_iff_getElem]
  exact ⟨h2, i, h1, rfl, fun j hj => by simpa using h3 j hj⟩
theorem mdel_len : ∀ (t : Told) (k : List UInt8) (r : Reading), mget t k = some r → (mdel t k).length + 1 = t.length
 | [], k, r, h => by simp [mget] at h
 | x :: t, k, r, h => by
  rw [mdel]
  by_cases hk : k = x.1
  · rw [if_pos hk]; rfl
  · rw [if_neg hk]
    have : mget t k = some r := by
     unfold mget at h ⊢
     rw [List.find?_cons, decide_eq_false hk] at h
     exact h
    rw [List.length_cons, mdel_len t k r this, List.length_cons]
theorem mdel_get : ∀ (t : Told) (k n : List UInt8), n ≠ k → mget (mdel t k) n = mget t n
 | [], _, _, _ => rfl
 | x :: t, k, n, h => by
  rw [mdel]
  by_cases hk : k = x.1
  · rw [if_pos hk]
    unfold mget
    rw [List.find?_cons, decide_eq_false (show ¬ n = x.1 by rw [← hk]; exact h)]
  · rw [if_neg hk]
    have ih := mdel_get t k n h
    unfold mget at ih ⊢
    rw [List.find?_cons, List.find?_cons]
    cases decide (n = x.1) with
    | true => rfl
    | false => exact ih
theorem order_names {m : Message} (H : MOk m) : ((orderOf m).map (·.Name)).Nodup ∧ (∀ s ∈ orderOf m, s ∈ m.Signals) ∧ (orderOf m).length ≤ 17 := by
 unfold orderOf
 have hn := names_nodup H
 have hf := H.few
 by_cases h : 0 ≤ m.Chooser
 · rw [if_pos h]
   have hc := ch_sig H h
   have hlt := (List.getElem?_eq_some_iff.1 hc).1
   have hs : m.Signals = m.Signals.take m.Chooser.toNat ++ chooserOf m :: m.Signals.drop (m.Chooser.toNat + 1) := by
    conv => lhs; rw [← List.take_append_drop m.Chooser.toNat m.Signals, List.drop_eq_getElem_cons hlt]
    rw [(List.getElem?_eq_some_iff.1 hc).2]
   refine ⟨?_, fun s hs2 => ?_, ?_⟩
   · rw [hs] at hn
     have hp : (m.Signals.take m.Chooser.toNat ++ chooserOf m :: m.Signals.drop (m.Chooser.toNat + 1)).Perm (chooserOf m :: (m.Signals.take m.Chooser.toNat ++ m.Signals.drop (m.Chooser.toNat + 1))) := List.perm_middle
     exact (hp.map _).nodup_iff.1 hn
   · rcases List.mem_cons.1 hs2 with rfl | hs2
     · exact List.mem_of_getElem? hc
     · rcases List.mem_append.1 hs2 with hs2 | hs2
       · exact List.mem_of_mem_take hs2
       · exact List.mem_of_mem_drop hs2
   · simp; omega
 · rw [if_neg h]
   exact ⟨hn, fun _ h => h, by omega⟩
theorem order_loop {m : Message} (h00 : mcheckS m = 0) (H : MOk m) {l : List Reading} (hl : l.length ≤ 140737488355328) (hnd : (l.map (·.Name)).Nodup) (L : List Signal) (hLo : L = orderOf m) {K : Frame × Int → Prop} (hK : K (writeS m l)) : ∃ inv : (List Int) → Int → Int → Prop, ∃ mu : (List Int) → Int → Int → Nat, inv (List.replicate m.Size.toNat (0 : Int)) 0 0 ∧ (∀ (x6 : List Int) (x11 : Int) (x72 : Int), inv x6 x11 x72 → (((decide (x72 < (L.length : Int))) = true → (∃ inv2 : (List Int) → Int → Prop, ((0 ≤ x72 ∧ x72 < (L.length : Int)) ∧ (∀ q, L[x72.toNat]? = some q → ((-1 ≤ q.Key ∧ therepre m q x6) ∧ (((!(mthereS m q x6)) = true → (inv2 x6 x11)) ∧ ((!(mthereS m q x6)) = false → (((decide ((ridxfS l (fun x0 => wr1 x0 q)) < 0)) = true → (K ((⟨0, false, false, false, 0, []⟩ : Frame), 14))) ∧ ((decide ((ridxfS l (fun x0 => wr1 x0 q)) < 0)) = false → ((0 ≤ (ridxfS l (fun x0 => wr1 x0 q)) ∧ (ridxfS l (fun x0 => wr1 x0 q)) < (l.length : Int)) ∧ (∀ q1, l[(ridxfS l (fun x0 => wr1 x0 q)).toNat]? = some q1 → ((0 ≤ (ridxfS l (fun x0 => wr1 x0 q)) ∧ (ridxfS l (fun x0 => wr1 x0 q)) < (l.length : Int)) ∧ (∀ q2, l[(ridxfS l (fun x0 => wr1 x0 q)).toNat]? = some q2 → ((checkS q 64 = 0) ∧ ((((rawS q q1.Num q2.Den).2 != 0) = true → (K ((⟨0, false, false, false, 0, []⟩ : Frame), (rawS q q1.Num q2.Den).2))) ∧ (((rawS q q1.Num q2.Den).2 != 0) = false → ((inD q x6) ∧ ((putS q x6 (rawS q q1.Num q2.Den).1).length ≤ 140737488355328 → (inv2 (putS q x6 (rawS q q1.Num q2.Den).1) (w64 (x11 + 1))))))))))))))))))) ∧ (∀ (x6v : List Int) (x11v : Int), inv2 x6v x11v → (inv x6v x11v (w64 (x72 + 1)) ∧ mu x6v x11v (w64 (x72 + 1)) < mu x6 x11 x72)))) ∧ ((decide (x72 < (L.length : Int))) = false → (((decide (x11 < (l.length : Int))) = true → (K ((⟨0, false, false, false, 0, []⟩ : Frame), 8))) ∧ ((decide (x11 < (l.length : Int))) = false → (K ((⟨m.ID, m.Long, false, false, 0, x6⟩ : Frame), 0))))))) := by
 obtain ⟨o1, o2, o3⟩ := order_names H
 rw [← hLo] at o1 o2 o3
 have hsz := H.size
 have hw : writeS m l = endW m (refT m L (l.map fun r => (r.Name, r)) (List.replicate m.Size.toNat 0)) := by
  unfold writeS
  by_cases h0 : mcheckS m ≠ 0
  · exact absurd h00 h0
  · rw [if_neg h0, tell_all hnd, hLo]
    exact goW_eq H _ _
 rw [hw] at hK
 refine ⟨fun d u x => ∃ (k : Nat) (t : Told), x = k ∧ k ≤ L.length ∧ isBytes d ∧ d.length = m.Size.toNat ∧ 0 ≤ u ∧ u + t.length = l.length ∧ (∀ s ∈ L.drop k, mget t s.Name = l.find? fun r => r.Name == s.Name) ∧ K (endW m (refT m (L.drop k) t d)),
  fun _ _ x => L.length - x.toNat, ⟨0, _, rfl, Nat.zero_le _, rep_bytes _, by simp, by omega, by simp, fun s _ => mget_find l s.Name, hK⟩, ?_⟩
 rintro d u _ ⟨k, t, rfl, hk, hd, hdl, hu, hut, hg, hK⟩
 refine ⟨fun h1 => ?_, fun h1 => ?_⟩
 · have h1 : k < L.length := by have := of_decide_eq_true h1; omega
   refine ⟨fun d' u' => ∃ t' : Told, isBytes d' ∧ d'.length = m.Size.toNat ∧ 0 ≤ u' ∧ u' + t'.length = l.length ∧ (∀ s ∈ L.drop (k + 1), mget t' s.Name = l.find? fun r => r.Name == s.Name) ∧ K (endW m (refT m (L.drop (k + 1)) t' d')), ⟨by omega, fun s hs => ?_⟩, ?_⟩
   · rw [Int.toNat_natCast] at hs
     have hsm := o2 s (List.mem_of_getElem? hs)
     have hck := H.sigs s hsm
     have hdrop := drop_this _ _ _ hs
     rw [hdrop, refT] at hK
     rw [hdrop] at hg
     refine ⟨⟨(check_key hck).1, there_pre H hsm hd (by omega)⟩, fun h2 => ?_, fun h2 => ?_⟩
     · have h2 : mthereS m s d = false := by simpa using h2
       rw [if_pos h2] at hK
       exact ⟨t, hd, hdl, hu, hut, fun s' hs' => hg s' (by simp [hs']), hK⟩
     · have h2 : mthereS m s d = true := by simpa using h2
       rw [if_neg (by simp [h2])] at hK
       unfold putW at hK
       have hgs := hg s (by simp)
       have hp : (fun x0 : Reading => wr1 x0 s) = fun r => r.Name == s.Name := rfl
       unfold ridxfS
       rw [hp]
       rcases sidx_find (fun r : Reading => r.Name == s.Name) l with ⟨e1, e2⟩ | ⟨i, q, e1, e2, e3⟩
       · rw [hgs, e2] at hK
         refine ⟨fun _ => hK, fun h3 => ?_⟩
         have := of_decide_eq_false h3
         omega
       · rw [hgs, e3] at hK
         have hil := (List.getElem?_eq_some_iff.1 e2).1
         rw [e1]
         refine ⟨fun h3 => absurd (of_decide_eq_true h3) (by omega), fun _ => ⟨by omega, fun q1 hq1 => ⟨by omega, fun q2 hq2 => ⟨check_up hck, ?_⟩⟩⟩⟩
         rw [Int.toNat_natCast, e2] at hq1 hq2
         obtain rfl : q = q1 := by simpa using hq1
         obtain rfl : q = q2 := by simpa using hq2
         dsimp only at hK
         refine ⟨fun h4 => ?_, fun h4 => ⟨inD_le hck hd (by omega), fun _ => ?_⟩⟩
         · have h4 : (rawS s q.Num q.Den).2 ≠ 0 := by simpa using h4
           rw [if_pos h4] at hK
           exact hK
         · have h4 : (rawS s q.Num q.Den).2 = 0 := by simpa using h4
           rw [if_neg (fun hc => hc h4)] at hK
           have hml := mdel_len t s.Name q (hgs.trans e3)
           rw [w64_eq (u + 1) (by omega)]
           refine ⟨mdel t s.Name, putS_bytes hd _, by rw [putS_len]; exact hdl, by omega, by omega, fun s' hs' => ?_, hK⟩
           rw [mdel_get t s.Name s'.Name ?_]
           · exact hg s' (by simp [hs'])
           · have hnd2 : ((L.drop k).map (·.Name)).Nodup := by rw [List.map_drop]; exact List.Nodup.sublist (List.drop_sublist _ _) o1
             rw [hdrop, List.map_cons, List.nodup_cons] at hnd2
             intro e
             exact hnd2.1 (e ▸ List.mem_map_of_mem hs')
   · rintro d' u' ⟨t', h⟩
     rw [w64_succ k (by omega)]
     exact ⟨⟨k + 1, t', rfl, h1, h⟩, by simp only [Int.toNat_natCast]; omega⟩
 · have h1 : k = L.length := by have := of_decide_eq_false h1; omega
   subst h1
   rw [List.drop_length, refT] at hK
   have hK : K (if 0 < t.length then (zeroF, (8 : Int)) else (⟨m.ID, m.Long, false, false, 0, d⟩, 0)) := hK
   refine ⟨fun h2 => ?_, fun h2 => ?_⟩
   · rw [if_pos (by have := of_decide_eq_true h2; omega)] at hK
     exact hK
   · rw [if_neg (by have := of_decide_eq_false h2; omega)] at hK
     exact hK
theorem lwritten_ok (m : Message) (l : List Reading) (h0 : mcheckS m = 0) : lwritten_vc m l (fun r => r = writeS m l) := by
 have H := mcheck_zero h0
 have hsz := H.size
 have hfew := H.few
 intro _ hl
 refine ⟨by omega, (l.map (·.Name)).Nodup, ⟨fun x => ∃ k : Nat, x = k ∧ k ≤ l.length ∧ ((l.take k).map (·.Name)).Nodup, fun x => l.length - x.toNat, ⟨0, rfl, Nat.zero_le _, by simp⟩, ?_⟩, fun hn => ?_⟩
 rotate_left
 · refine ⟨fun L => L = orderOf m, ⟨fun h2 => ?_, fun h2 => ?_⟩, fun L hL => ?_⟩
   · have h2 : 0 ≤ m.Chooser := of_decide_eq_true h2
     have hch := H.ch
     have e : w64 (m.Chooser + 1) = m.Chooser + 1 := w64_eq _ (by omega)
     rw [e]
     refine ⟨⟨h2, hch.2⟩, fun c hc => ⟨⟨h2, by omega⟩, ⟨by omega, by omega⟩, ⟨?_, by simp⟩, ?_, ?_⟩⟩
     · intro x hx
       simp only [List.mem_cons, List.not_mem_nil, or_false] at hx
       rcases hx with rfl | rfl
       · simp; omega
       · simp; omega
     · unfold sconcatS
       simp
       omega
     · show _ = orderOf m
       unfold orderOf sconcatS
       rw [if_pos h2]
       have hcc : chooserOf m = c := by unfold chooserOf; rw [hc]; rfl
       rw [hcc, show (m.Chooser + 1).toNat = m.Chooser.toNat + 1 by omega]
       simp
   · have h2 : ¬ 0 ≤ m.Chooser := of_decide_eq_false h2
     show _ = orderOf m
     unfold orderOf
     rw [if_neg h2]
   · obtain ⟨inv, mu, i1, i2⟩ := order_loop (K := fun r => r = writeS m l) h0 H hl hn L hL rfl
     exact ⟨_, ⟨inv, mu, i1, i2⟩, fun _ _ h => h⟩
 rintro _ ⟨k, rfl, hk, hn⟩
 refine ⟨fun h1 => ?_, fun h1 => ?_⟩
 · have h1 : k < l.length := by have := of_decide_eq_true h1; omega
   refine ⟨((l.take (k + 1)).map (·.Name)).Nodup, ⟨by omega, fun q hq => ⟨by omega, ?_⟩⟩, fun h2 => ?_⟩
   · rw [Int.toNat_natCast] at hq ⊢
     refine rg0 (by simp; omega) (fun i => ∀ r ∈ (l.take k).take i, r.Name ≠ q.Name) (by simp) ?_ ?_
     · intro i r hi hr hj inv mu hnx
       refine ⟨fun h3 => ?_, fun h3 => hnx fun r' hr' => ?_⟩
       · have h3 : r.Name = q.Name := by simpa using h3
         have hdup : tell l [] = none := by
          refine tell_dup l [] (.inr fun hc => ?_)
          have hc2 : ((l.take (k + 1)).map (·.Name)).Nodup := by rw [List.map_take]; exact List.Nodup.sublist (List.take_sublist _ _) hc
          rw [List.take_add_one, hq, Option.toList_some, List.map_append, List.nodup_append] at hc2
          exact hc2.2.2 r.Name (List.mem_map_of_mem (List.mem_of_getElem? hr)) q.Name (by simp) h3
         show _ = writeS m l
         unfold writeS
         rw [if_neg (by simp [h0]), hdup]
         rfl
       · have h3 : r.Name ≠ q.Name := by simpa using h3
         rw [List.take_add_one, hr] at hr'
         rcases List.mem_append.1 hr' with hr' | hr'
         · exact hj r' hr'
         · obtain rfl : r' = r := by simpa using hr'
           exact h3
     · intro hj
       rw [List.take_length] at hj
       rw [List.take_add_one, hq, Option.toList_some, List.map_append, List.nodup_append]
       refine ⟨hn, by simp, fun a ha b hb e => ?_⟩
       obtain ⟨r, hr, rfl⟩ := List.mem_map.1 ha
       obtain rfl : b = q.Name := by simpa using hb
       exact hj r hr e
   · rw [w64_succ k (by omega)]
     exact ⟨⟨k + 1, rfl, h1, h2⟩, by simp only [Int.toNat_natCast]; omega⟩
 · have h1 : k = l.length := by have := of_decide_eq_false h1; omega
   subst h1
   rw [List.take_length] at hn
   exact hn
end Go.Proofs.YtdndfbamhnchfaaGreatDoor
set_option linter.unusedVariables false
set_option linter.unusedSimpArgs false
namespace Go.Proofs.YtdndfbamhnchfaaGreatDoor
open Go.Sy Go.RowKit
def LMWrite_vc (u0 : Message) (u1 : List Reading) (K : Bool → Prop) : Prop := (u0.Signals.length ≤ 140737488355328 → (u1.length ≤ 140737488355328 → ((writeS u0 u1).1.Data.length ≤ 140737488355328 → ((((mcheckS u0) != 0) = true → (K (((writeS u0 u1).2 == (mcheckS u0)) && (nofrS (writeS u0 u1).1)))) ∧ (((mcheckS u0) != 0) = false → ((mcheckS u0 = 0) ∧ ((writeS u0 u1).1.Data.length ≤ 140737488355328 → (K (((writeS u0 u1).2 == (writeS u0 u1).2) && (rsameS (writeS u0 u1).1 (writeS u0 u1).1))))))))))
theorem rsame_self (f : Frame) : rsameS f f = true := by simp [rsameS, beqS]
theorem LMWrite_ok (m : Message) (l : List Reading) (k0 : okMessage m) (k1 : (∀ y0 ∈ l, okReading y0) ∧ l.length * 32 ≤ lim) : LMWrite_vc m l (fun r => r = true) := by
 intro _ _ _
 refine ⟨fun h => ?_, fun h => ?_⟩
 · have h : mcheckS m ≠ 0 := by simpa using h
   have e : writeS m l = (zeroF, mcheckS m) := by unfold writeS; rw [if_pos h]
   rw [e]
   simp [nofrS, rsameS, zeroF, beqS]
 · have h : mcheckS m = 0 := by simpa using h
   refine ⟨h, fun _ => ?_⟩
   rw [rsame_self]
   simp
end Go.Proofs.YtdndfbamhnchfaaGreatDoor
