/- The walks, made by program: each call does what its pure predicate says. -/
import Derived.Test.YtfafpnacflcgmaaDoorPBd
import Derived.Test.YtfafpnacflcgmaaDoorWBc
set_option linter.unusedVariables false
set_option linter.unusedSimpArgs false
namespace Go.Proofs.YtfafpnacflcgmaaDoor
open Go.Sy Go.RowKit
theorem gint64_fun (u0 : BInt) (hpre : u0.neg = false ∧ wok u0.abs ∧ wv u0.abs < 9223372036854775808) (b1 : Nat) (ao2 : Option Addr) (cap3 : Nat) (B : Nat) (w0 : World) (Z0 : Fz) (Rr : List Res) (Z : Fz) (w : World) (hs4 : SlR (tyInt .u32) Z ao2 cap3 u0.abs) (hM0 : Mem B [] w0 Z0 ((.row b1 [.bool u0.neg, .slice ao2 u0.abs.length cap3] 71) :: Rr) Z w) (hZ : Z.on w) : Calls Tryd.prog 24 #[.pointer (some ⟨b1, 0, none⟩)] w fun e w' => ∃ (ao1001 : Option Addr) (cap1002 : Nat) (Z' : Fz), e = .returned (.int .i64 (gint64S u0).1) ∧ Fz.le Z Z' ∧ SlR (tyInt .u32) Z' ao1001 cap1002 (gint64S u0).2.abs ∧ Mem B [] w0 Z0 ((.row b1 [.bool (gint64S u0).2.neg, .slice ao1001 (gint64S u0).2.abs.length cap1002] 71) :: Rr) Z' w' :=
  (gint64_walk u0 b1 ao2 cap3 B w0 Z0 Rr Z w hs4 hM0 hZ (gint64_ok u0 hpre)).mono fun _ _ ⟨r, h0, h1, h2, he, hk, f0, f1, hm⟩ => by subst hk; exact ⟨h0, h1, h2, he, f0, f1, hm⟩

theorem gsetstr_fun (u0 : BInt) (u1 : List UInt8) (hpre : isRow u1 = true ∧ u1 ≠ [] ∧ u1.length ≤ 1000) (b1 : Nat) (ao2 : Option Addr) (cap3 : Nat) (B : Nat) (w0 : World) (Z0 : Fz) (Rr : List Res) (Z : Fz) (w : World) (hs4 : SlR (tyInt .u32) Z ao2 cap3 u0.abs) (hM0 : Mem B [] w0 Z0 ((.row b1 [.bool u0.neg, .slice ao2 u0.abs.length cap3] 71) :: Rr) Z w) (hZ : Z.on w) : Calls Tryd.prog 44 #[.pointer (some ⟨b1, 0, none⟩), str u1, .int .i64 2] w fun e w' => ∃ (ao1001 : Option Addr) (cap1002 : Nat) (Z' : Fz), e = .returned (.tuple #[.pointer (if (gsetstrS u0 u1).1 = true then some ⟨b1, 0, none⟩ else none), .bool (gsetstrS u0 u1).2.1]) ∧ Fz.le Z Z' ∧ SlR (tyInt .u32) Z' ao1001 cap1002 (gsetstrS u0 u1).2.2.abs ∧ Mem B [] w0 Z0 ((.row b1 [.bool (gsetstrS u0 u1).2.2.neg, .slice ao1001 (gsetstrS u0 u1).2.2.abs.length cap1002] 71) :: Rr) Z' w' :=
  (gsetstr_walk u0 u1 b1 ao2 cap3 B w0 Z0 Rr Z w hs4 hM0 hZ (gsetstr_ok u0 u1 hpre)).mono fun _ _ ⟨r, h0, h1, h2, he, hk, f0, f1, hm⟩ => by subst hk; exact ⟨h0, h1, h2, he, f0, f1, hm⟩

set_option maxRecDepth 100000 in
set_option maxHeartbeats 0 in
theorem rvalue_walk (u0 : List UInt8)  (Z : Fz) (w : World)  (hZ : Z.on w) {K : BInt → Prop} (hp : rvalue_vc u0 K) : Calls Tryd.prog 23 #[str u0] w fun e w' => ∃ (r : BInt) (b1001 : Nat) (ao1002 : Option Addr) (cap1003 : Nat) (Z' : Fz), e = .returned (.pointer (some ⟨b1001, 0, none⟩)) ∧ K r ∧ SlR (tyInt .u32) Z' ao1002 cap1003 r.abs ∧ Mem w.heap.size [] w Z [.row b1001 [.bool r.neg, .slice ao1002 r.abs.length cap1003] 71] Z' w' := by
 refine enter0 Tryd.func23 rfl rfl (by kernel_rfl) ?_; intro a0 hF0; have hM0 := Mem.start w Z hZ; have hle0 := Fz.le.refl Z
 refine sqH ?_; intro hQ1Q hQ1
 refine s1 hF0 2 (.pointer none) ?_; intro a2 hF3; clear hF0
 refine nlH (hQ1 _ _ ?_); clear hQ1 hQ1Q
 refine sqH ?_; intro hQ4Q hQ4
 refine sn hF3 hM0 (fun b => .pointer (some ⟨b, 0, none⟩)) [.bool false, .slice none 0 0] 71 (nog rfl _) rfl (by kernel_rfl) (by kernel_rfl) ?_; intro b5 a6 wd8 hF7 hM9; clear hF3 hM0
 refine s1 hF7 3 (.pointer (some ⟨b5, 0, none⟩)) ?_; intro a10 hF11; clear hF7
 refine nlH (hQ4 _ _ ?_); clear hQ4 hQ4Q
 refine wp_seq ?_
 refine sqH ?_; intro hQ12Q hQ12
 refine s1 hF11 5 (str u0) ?_; intro a13 hF14; clear hF11
 refine st hF14 (.bool (u0 != ([] : List UInt8))) (nog rfl _) rfl (by kernel_rfl) (strcmp_run hF14 (g := []) (op := .neq) rfl (by kernel_rfl) (by kernel_rfl) (by decide) rfl) ?_; intro a15 hF16; clear hF14
 refine nlH (hQ12 _ _ ?_); clear hQ12 hQ12Q
 refine cd hF16 (t := u0 != ([] : List UInt8)) (by kernel_rfl) (fun hb17 => ?_) (fun hb17 => ?_)
 · -- yes
  have hp18 := hp.1 hb17; clear hp
  refine rgH ?_; intro hQ19Q hQ19
  refine s1 hF16 7 (.pointer (some ⟨b5, 0, none⟩)) ?_; intro a20 hF21; clear hF16
  refine s1 hF21 8 (str u0) ?_; intro a22 hF23; clear hF21
  have hc24 := hp18.1; have hp25 := hp18.2; clear hp18
  refine cl hF23 44 #[.pointer (some ⟨b5, 0, none⟩), str u0, .int .i64 2] (nog rfl _) rfl (by kernel_rfl) (by kernel_rfl) ?_
  obtain ⟨r30, hr31⟩ : ∃ x, (gsetstrS (⟨false, []⟩ : BInt) u0) = x := ⟨_, rfl⟩; have hp32 := hp25 r30 hr31; clear hp25
  have h9 := gsetstr_fun (⟨false, []⟩ : BInt) u0 hc24 b5 none 0 _ _ _ _ _ _ (SlR.nil _ _) hM9 hM9.fz; rw [hr31] at h9; refine h9.mono ?_; clear h9; rintro _ wd26 ⟨ao34, cap35, Z37, rfl, hle38, hs36, hm⟩; refine ⟨_, rfl, ?_⟩; intro a27 hF28; have hM29 := hm; clear hm hM9 hF23
  replace hle0 := Fz.le.trans hle0 hle38
  have hM39 : Mem w.heap.size [] w Z [.row b5 [.bool r30.2.2.neg, .slice ao34 r30.2.2.abs.length cap35] 71] Z37 wd26 := hM29; clear hM29
  have hp40 := hp32 (hs36.small); clear hp32
  refine nlH (hQ19 _ _ ?_); clear hQ19 hQ19Q
  refine thn ?_
  refine sqH ?_; intro hQ41Q hQ41
  refine s1 hF28 10 (.pointer (some ⟨b5, 0, none⟩)) ?_; intro a42 hF43; clear hF28
  refine s1 hF43 2 (.pointer (some ⟨b5, 0, none⟩)) ?_; intro a44 hF45; clear hF43
  refine nlH (hQ41 _ _ ?_); clear hQ41 hQ41Q
  refine wp_ret ?_
  refine rt (fn := Tryd.f23) (v := .pointer (some ⟨b5, 0, none⟩)) hF45 (re1 hF45 (fn := Tryd.f23) rfl (by kernel_rfl)) ?_
  exact ⟨r30.2.2, b5, ao34, cap35, Z37, rfl, hp40, hs36, hM39.keep (List.Sublist.cons_cons _ (List.Sublist.slnil))⟩
 · -- no
  have hp46 := hp.2 hb17; clear hp
  refine wp_skip ?_
  refine thn ?_
  refine sqH ?_; intro hQ47Q hQ47
  refine s1 hF16 10 (.pointer (some ⟨b5, 0, none⟩)) ?_; intro a48 hF49; clear hF16
  refine s1 hF49 2 (.pointer (some ⟨b5, 0, none⟩)) ?_; intro a50 hF51; clear hF49
  refine nlH (hQ47 _ _ ?_); clear hQ47 hQ47Q
  refine wp_ret ?_
  refine rt (fn := Tryd.f23) (v := .pointer (some ⟨b5, 0, none⟩)) hF51 (re1 hF51 (fn := Tryd.f23) rfl (by kernel_rfl)) ?_
  exact ⟨(⟨false, []⟩ : BInt), b5, none, 0, Z, rfl, hp46, (SlR.nil _ _), hM9.keep (List.Sublist.cons_cons _ (List.Sublist.slnil))⟩

end Go.Proofs.YtfafpnacflcgmaaDoor
