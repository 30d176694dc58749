/- The walks, made by program: each call does what its pure predicate says. -/
import Derived.Test.YtinegicenfndkaaDoorPGb
import Derived.Test.YtinegicenfndkaaDoorWGa
set_option linter.unusedVariables false
set_option linter.unusedSimpArgs false
namespace Go.Proofs.YtinegicenfndkaaDoor
open Go.Sy Go.RowKit
theorem bclone_fun (u0 : List Int) (hpre : u0.length ≤ 140737488355328) (ao1 : Option Addr) (cap2 : Nat) (Z : Fz) (w : World) (hs3 : SlR (tyInt .u8) Z ao1 cap2 u0) (hZ : Z.on w) : Calls Tryd.prog 43 #[.slice ao1 u0.length cap2] w fun e w' => ∃ (ao1001 : Option Addr) (cap1002 : Nat) (Z' : Fz), e = .returned (.slice ao1001 (bcloneS u0).length cap1002) ∧ Mem w.heap.size [] w Z [.own (tyInt .u8) 5 ao1001 cap1002 (bcloneS u0)] Z' w' :=
  (bclone_walk u0 ao1 cap2 Z w hs3 hZ (bclone_ok u0 hpre)).mono fun _ _ ⟨r, h0, h1, h2, he, hk, hm⟩ => by subst hk; exact ⟨h0, h1, h2, he, hm⟩

theorem cbyte_fun (u0 : List Int) (hpre : ∀ x ∈ u0, 0 ≤ x ∧ x ≤ 255) (ao1 : Option Addr) (cap2 : Nat) (Z : Fz) (w : World) (hs3 : SlR (tyInt .u8) Z ao1 cap2 u0) (hZ : Z.on w) : Calls Tryd.prog 111 #[.slice ao1 u0.length cap2] w fun e w' => e = .returned (.int .u8 (cbyteS u0)) ∧ Below w.heap.size w w' :=
  (cbyte_walk u0 ao1 cap2 Z w hs3 hZ (cbyte_ok u0 hpre)).mono fun _ _ ⟨r, he, hk, hb⟩ => ⟨by subst hk; exact he, hb⟩

set_option maxRecDepth 100000 in
set_option maxHeartbeats 0 in
theorem gsum_walk (u0 : Int) (u1 : List Int) (ao1 : Option Addr) (cap2 : Nat) (Z : Fz) (w : World) (hs3 : SlR (tyInt .u8) Z ao1 cap2 u1) (hZ : Z.on w) {K : Int → Prop} (hp : gsum_vc u0 u1 K) : Calls Tryd.prog 75 #[.int .i64 u0, .slice ao1 u1.length cap2] w fun e w' => ∃ r : Int, e = .returned (.int .u8 r) ∧ K r ∧ Below w.heap.size w w' := by
 refine enter0 Tryd.func75 rfl rfl (by kernel_rfl) ?_; intro a0 hF0; have hM0 := Mem.start w Z hZ; have hle0 := Fz.le.refl Z
 have hp4 := hp (hs3.small); clear hp
 refine sqH ?_; intro hQ5Q hQ5
 refine s1 hF0 4 (.int .u8 0) ?_; intro a6 hF7; clear hF0
 refine nlH (hQ5 _ _ ?_); clear hQ5 hQ5Q
 refine sqH ?_; intro hQ8Q hQ8
 refine s1 hF7 5 (.int .i64 u0) ?_; intro a9 hF10; clear hF7
 refine s1 hF10 6 (.int .i64 (bShr .i64 u0 8)) ?_; intro a11 hF12; clear hF10
 refine s1 hF12 7 (.int .u8 (w8 (bShr .i64 u0 8))) ?_; intro a13 hF14; clear hF12
 refine s1 hF14 8 (.int .i64 u0) ?_; intro a15 hF16; clear hF14
 refine s1 hF16 9 (.int .u8 (w8 u0)) ?_; intro a17 hF18; clear hF16
 refine sn hF18 hM0 (fun b => .slice (some ⟨b, 0, none⟩) 2 2) [.int .u8 (w8 (bShr .i64 u0 8)), .int .u8 (w8 u0)] 5 (nog rfl _) rfl (by kernel_rfl) (by kernel_rfl) ?_; intro b19 a20 wd22 hF21 hM23; clear hF18 hM0
 refine s1 hF21 11 (.slice ao1 u1.length cap2) ?_; intro a24 hF25; clear hF21
 have hc26 := hp4.1; have hp27 := hp4.2; clear hp4
 refine slL hF25 (T := (tyInt .u8)) (xs := u1) hs3 (1 : Int) hc26 (k := .i64) (e := 5) (bytes := 1) (nog rfl _) rfl (by kernel_rfl) rfl (by kernel_rfl) (by kernel_rfl) (by kernel_rfl) ?_; intro ao28 cap29 a32 hn30 hs31 hF33; clear hF25
 have hM34 : Mem w.heap.size [] w Z [.own (tyInt .u8) 5 (some ⟨b19, 0, none⟩) 2 ([w8 (bShr .i64 u0 8), w8 u0] : List Int)] Z wd22 := hM23.rowOwn (T := (tyInt .u8)) (xs := ([w8 (bShr .i64 u0 8), w8 u0] : List Int)) 0 rfl (by decide) (by show 2 ≤ lim; decide) ((RepAll.one (T := (tyInt .u8)) (x := w8 (bShr .i64 u0 8)) rfl).append (RepAll.one (T := (tyInt .u8)) (x := w8 u0) rfl)); clear hM23
 have hc35 := hp27.1; have hp36 := hp27.2; clear hp27
 refine ap hF33 hM34 0 (T := (tyInt .u8)) (xs := ([w8 (bShr .i64 u0 8), w8 u0] : List Int)) (ys := u1.drop (1 : Int).toNat) (ao := (some ⟨b19, 0, none⟩)) (cap := 2) (ao2 := ao28) (cap2 := cap29) (t := 32) (e := 5) (bytes := 1) (nog rfl _) rfl (by kernel_rfl) rfl (by kernel_rfl) (by kernel_rfl) (by kernel_rfl) rfl (Src.fz (by decide) hM34.fz hs31) hc35 ?_; intro ao37 cap38 a42 wd39 hnil40 hF43 hM41; clear hF33 hM34
 have hM44 : Mem w.heap.size [] w Z [.own (tyInt .u8) 5 ao37 cap38 (([w8 (bShr .i64 u0 8), w8 u0] : List Int) ++ (u1.drop (1 : Int).toNat))] Z wd39 := hM41; clear hM41
 obtain ⟨Z45, hle46, hM47, hs48⟩ := hM44.freeze 0 rfl
 replace hs3 := hs3.mono hle46
 replace hs31 := hs31.mono hle46
 replace hle0 := Fz.le.trans hle0 hle46
 have hM49 : Mem w.heap.size [] w Z [] Z45 wd39 := hM47; clear hM47
 have hc50 := hp36.1; have hp51 := hp36.2; clear hp36
 refine fcl hF43 hM49 (.int .u8 (cbyteS (([w8 (bShr .i64 u0 8), w8 u0] : List Int) ++ (u1.drop (1 : Int).toNat)))) 111 #[.slice ao37 (([w8 (bShr .i64 u0 8), w8 u0] : List Int) ++ (u1.drop (1 : Int).toNat)).length cap38] (nog rfl _) rfl (by kernel_rfl) (fun _ => by kernel_rfl) (cbyte_fun (([w8 (bShr .i64 u0 8), w8 u0] : List Int) ++ (u1.drop (1 : Int).toNat)) hc50 ao37 cap38 _ _ hs48 hM49.fz) ?_; intro a52 wd54 hF53 hM55; clear hF43 hM49
 refine s1 hF53 4 (.int .u8 (cbyteS (([w8 (bShr .i64 u0 8), w8 u0] : List Int) ++ (u1.drop (1 : Int).toNat)))) ?_; intro a56 hF57; clear hF53
 refine nlH (hQ8 _ _ ?_); clear hQ8 hQ8Q
 refine wp_ret ?_
 refine rt (fn := Tryd.f75) (v := .int .u8 (cbyteS (([w8 (bShr .i64 u0 8), w8 u0] : List Int) ++ (u1.drop (1 : Int).toNat)))) hF57 (re1 hF57 (fn := Tryd.f75) rfl (by kernel_rfl)) ?_
 exact ⟨(cbyteS (([w8 (bShr .i64 u0 8), w8 u0] : List Int) ++ (u1.drop (1 : Int).toNat))), rfl, hp51, hM55.below⟩

end Go.Proofs.YtinegicenfndkaaDoor
