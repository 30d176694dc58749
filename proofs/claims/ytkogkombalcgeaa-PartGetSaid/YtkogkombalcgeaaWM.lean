/- The walks, made by program: each call does what its pure predicate says. -/
import Derived.Test.YtkogkombalcgeaaPM
import Derived.Test.YtkogkombalcgeaaWL
set_option linter.unusedVariables false
set_option linter.unusedSimpArgs false
namespace Go.Proofs.Ytkogkombalcgeaa
open Go.Sy Go.RowKit
theorem bconcat_fun (u0 : List (List Int)) (hpre : (∀ l ∈ u0, l.length ≤ 1048576) ∧ u0.length ≤ 2) (ao1 : Option Addr) (cap2 : Nat) (Z : Fz) (w : World) (hs3 : SlR (tySl (tyInt .u8)) Z ao1 cap2 u0) (hZ : Z.on w) : Calls Try.prog 46 #[.slice ao1 u0.length cap2] w fun e w' => ∃ (ao1001 : Option Addr) (cap1002 : Nat) (Z' : Fz), e = .returned (.slice ao1001 (bconcatS u0).length cap1002) ∧ Mem w.heap.size [] w Z [.own (tyInt .u8) 5 ao1001 cap1002 (bconcatS u0)] Z' w' :=
  (bconcat_walk u0 ao1 cap2 Z w hs3 hZ (bconcat_ok u0 hpre)).mono fun _ _ ⟨r, h0, h1, h2, he, hk, hm⟩ => by subst hk; exact ⟨h0, h1, h2, he, hm⟩

theorem psplit_fun (u0 : List Int) (ao1 : Option Addr) (cap2 : Nat) (Z : Fz) (w : World) (hs3 : SlR (tyInt .u8) Z ao1 cap2 u0) (hZ : Z.on w) : Calls Try.prog 40 #[.slice ao1 u0.length cap2] w fun e w' => ∃ (ao1001 : Option Addr) (cap1002 : Nat) (Z' : Fz), e = .returned (.tuple #[.slice ao1001 (psplitS u0).1.length cap1002, .int .i64 (psplitS u0).2]) ∧ Mem w.heap.size [] w Z [.own (tySl (tyInt .u8)) 36 ao1001 cap1002 (psplitS u0).1] Z' w' :=
  (psplit_walk u0 ao1 cap2 Z w hs3 hZ (psplit_ok u0)).mono fun _ _ ⟨r, h0, h1, h2, he, hk, hm⟩ => by subst hk; exact ⟨h0, h1, h2, he, hm⟩

theorem ppartsof_fun (u0 : List Int) (hpre : u0.length ≤ 300) (ao1 : Option Addr) (cap2 : Nat) (Z : Fz) (w : World) (hs3 : SlR (tyInt .u8) Z ao1 cap2 u0) (hZ : Z.on w) : Calls Try.prog 36 #[.slice ao1 u0.length cap2] w fun e w' => ∃ (ao1001 : Option Addr) (cap1002 : Nat) (Z' : Fz), e = .returned (.slice ao1001 (ppartsofS u0).length cap1002) ∧ Mem w.heap.size [] w Z [.own (tySl (tyInt .u8)) 36 ao1001 cap1002 (ppartsofS u0)] Z' w' :=
  (ppartsof_walk u0 ao1 cap2 Z w hs3 hZ (ppartsof_ok u0 hpre)).mono fun _ _ ⟨r, h0, h1, h2, he, hk, hm⟩ => by subst hk; exact ⟨h0, h1, h2, he, hm⟩

theorem peqf_fun (u0 : List (List Int)) (u1 : List (List Int)) (u2 : (List Int) → (List Int) → Bool) (ao1 : Option Addr) (cap2 : Nat) (ao4 : Option Addr) (cap5 : Nat) (fid7 : Nat) (caps8 : Array Value) (Z : Fz) (w : World) (hs3 : SlR (tySl (tyInt .u8)) Z ao1 cap2 u0) (hs6 : SlR (tySl (tyInt .u8)) Z ao4 cap5 u1) (hf9 : ∀ (Z1 : Fz) (w1 : World), Z.le Z1 → Z1.on w1 → ∀ (x0 : List Int) (x1 : List Int) (xao0 : Option Addr) (xcap0 : Nat) (xao1 : Option Addr) (xcap1 : Nat), SlR (tyInt .u8) Z1 xao0 xcap0 x0 → SlR (tyInt .u8) Z1 xao1 xcap1 x1 → Calls Try.prog fid7 (#[.slice xao0 x0.length xcap0, .slice xao1 x1.length xcap1] ++ caps8) w1 fun e w2 => e = .returned (.bool (u2 x0 x1)) ∧ Below w1.heap.size w1 w2) (hg10 : ∀ x w, Sem.run Try.prog (callFunc fid7 x) w = .ok (.enter fid7 x) w) (hZ : Z.on w) : Calls Try.prog 60 #[.slice ao1 u0.length cap2, .slice ao4 u1.length cap5, .func (.func fid7) #[] caps8] w fun e w' => e = .returned (.bool (peqfS u0 u1 u2)) ∧ Below w.heap.size w w' :=
  (peqf_walk u0 u1 u2 ao1 cap2 ao4 cap5 fid7 caps8 Z w hs3 hs6 hf9 hg10 hZ (peqf_ok u0 u1 u2)).mono fun _ _ ⟨r, he, hk, hb⟩ => ⟨by subst hk; exact he, hb⟩

set_option maxRecDepth 100000 in
theorem psamep_walk (u0 : List (List Int)) (u1 : List (List Int)) (ao1 : Option Addr) (cap2 : Nat) (ao4 : Option Addr) (cap5 : Nat) (Z : Fz) (w : World) (hs3 : SlR (tySl (tyInt .u8)) Z ao1 cap2 u0) (hs6 : SlR (tySl (tyInt .u8)) Z ao4 cap5 u1) (hZ : Z.on w) {K : Bool → Prop} (hp : psamep_vc u0 u1 K) : Calls Try.prog 44 #[.slice ao1 u0.length cap2, .slice ao4 u1.length cap5] w fun e w' => ∃ r : Bool, e = .returned (.bool r) ∧ K r ∧ Below w.heap.size w w' := by
 refine enter0 Try.func44 rfl rfl (by kernel_rfl) ?_; intro a0 hF0; have hM0 := Mem.start w Z hZ; have hle0 := Fz.le.refl Z
 have hp7 := hp (hs3.small); clear hp
 have hp8 := hp7 (hs6.small); clear hp7
 refine sqH ?_; intro hQ9Q hQ9
 refine s1 hF0 4 (.bool false) ?_; intro a10 hF11; clear hF0
 refine nlH (hQ9 _ _ ?_); clear hQ9 hQ9Q
 refine sqH ?_; intro hQ12Q hQ12
 refine s1 hF11 5 (.slice ao1 u0.length cap2) ?_; intro a13 hF14; clear hF11
 refine s1 hF14 6 (.slice ao4 u1.length cap5) ?_; intro a15 hF16; clear hF14
 refine fcl hF16 hM0 (.bool (peqfS u0 u1 (fun x0 x1 => beqS x0 x1 ))) 60 #[.slice ao1 u0.length cap2, .slice ao4 u1.length cap5, .func (.func 37) #[] #[]] (nog rfl _) rfl (by kernel_rfl) (fun _ => by kernel_rfl) (peqf_fun u0 u1 (fun x0 x1 => beqS x0 x1 ) ao1 cap2 ao4 cap5 37 #[] _ _ hs3 hs6 (fun Z1 w1 h1 h2 x0 x1 m0 n0 m1 n1 s0 s1 => beq_fun x0 x1  m0 n0 m1 n1 Z1 w1 s0 s1 h2) (fun _ _ => by kernel_rfl) hM0.fz) ?_; intro a17 wd19 hF18 hM20; clear hF16 hM0
 refine s1 hF18 4 (.bool (peqfS u0 u1 (fun x0 x1 => beqS x0 x1 ))) ?_; intro a21 hF22; clear hF18
 refine nlH (hQ12 _ _ ?_); clear hQ12 hQ12Q
 refine wp_ret ?_
 refine rt (fn := Try.f44) (v := .bool (peqfS u0 u1 (fun x0 x1 => beqS x0 x1 ))) hF22 (re1 hF22 (fn := Try.f44) rfl (by kernel_rfl)) ?_
 exact ⟨(peqfS u0 u1 (fun x0 x1 => beqS x0 x1 )), rfl, hp8, hM20.below⟩
theorem psamep_fun (u0 : List (List Int)) (u1 : List (List Int)) (ao1 : Option Addr) (cap2 : Nat) (ao4 : Option Addr) (cap5 : Nat) (Z : Fz) (w : World) (hs3 : SlR (tySl (tyInt .u8)) Z ao1 cap2 u0) (hs6 : SlR (tySl (tyInt .u8)) Z ao4 cap5 u1) (hZ : Z.on w) : Calls Try.prog 44 #[.slice ao1 u0.length cap2, .slice ao4 u1.length cap5] w fun e w' => e = .returned (.bool (psamep u0 u1)) ∧ Below w.heap.size w w' :=
  (psamep_walk u0 u1 ao1 cap2 ao4 cap5 Z w hs3 hs6 hZ (psamep_ok u0 u1)).mono fun _ _ ⟨r, he, hk, hb⟩ => ⟨by subst hk; exact he, hb⟩

set_option maxRecDepth 100000 in
theorem pbegin_walk (u0 : List Int) (ao1 : Option Addr) (cap2 : Nat) (Z : Fz) (w : World) (hs3 : SlR (tyInt .u8) Z ao1 cap2 u0) (hZ : Z.on w) {K : (Sender × (List Int) × Int) → Prop} (hp : pbegin_vc u0 K) : Calls Try.prog 43 #[.slice ao1 u0.length cap2] w fun e w' => ∃ (r : Sender × (List Int) × Int) (ao1001 : Option Addr) (cap1002 : Nat) (ao1004 : Option Addr) (cap1005 : Nat) (Z' : Fz), e = .returned (.tuple #[.agg #[.slice ao1001 r.1.Data.length cap1002, .int .i64 r.1.At, .int .i64 r.1.Next, .int .i64 r.1.Left, .bool r.1.Done], .slice ao1004 r.2.1.length cap1005, .int .i64 r.2.2]) ∧ K r ∧ SlR (tyInt .u8) Z' ao1001 cap1002 r.1.Data ∧ SlR (tyInt .u8) Z' ao1004 cap1005 r.2.1 ∧ Mem w.heap.size [] w Z [] Z' w' := by
 refine enter0 Try.func43 rfl rfl (by kernel_rfl) ?_; intro a0 hF0; have hM0 := Mem.start w Z hZ; have hle0 := Fz.le.refl Z
 have hp4 := hp (hs3.small); clear hp
 refine sqH ?_; intro hQ5Q hQ5
 refine sn hF0 hM0 (fun b => .pointer (some ⟨b, 0, none⟩)) [.slice none 0 0, .int .i64 0, .int .i64 0, .int .i64 0, .bool false] 53 (nog rfl _) rfl (by kernel_rfl) (by kernel_rfl) ?_; intro b6 a7 wd9 hF8 hM10; clear hF0 hM0
 refine s1 hF8 3 (.slice none 0 0) ?_; intro a11 hF12; clear hF8
 refine s1 hF12 4 (.int .i64 0) ?_; intro a13 hF14; clear hF12
 refine nlH (hQ5 _ _ ?_); clear hQ5 hQ5Q
 refine sqH ?_; intro hQ15Q hQ15
 refine s1 hF14 9 (.slice ao1 u0.length cap2) ?_; intro a16 hF17; clear hF14
 refine cl hF17 40 #[.slice ao1 u0.length cap2] (nog rfl _) rfl (by kernel_rfl) (by kernel_rfl) ?_
 refine (psplit_fun u0 ao1 cap2 _ _ hs3 hM10.fz).mono ?_; rintro _ wd18 ⟨ao22, cap23, Z24, rfl, hm⟩; refine ⟨_, rfl, ?_⟩; intro a19 hF20; have hM21 := hM10.callZ hm; have hle25 := hm.ext.le; clear hm hM10 hF17
 replace hs3 := hs3.mono hle25
 replace hle0 := Fz.le.trans hle0 hle25
 have hM26 : Mem w.heap.size [] w Z [.own (tySl (tyInt .u8)) 36 ao22 cap23 ((psplitS u0).1), .row b6 [.slice none 0 0, .int .i64 0, .int .i64 0, .int .i64 0, .bool false] 53] Z24 wd18 := hM21; clear hM21
 have hp27 := hp4 (hM26.ownSmall 0 rfl); clear hp4
 refine s1 hF20 8 (.tuple #[.slice ao22 ((psplitS u0).1).length cap23, .int .i64 ((psplitS u0).2)]) ?_; intro a28 hF29; clear hF20
 refine s1 hF29 11 (.slice ao22 ((psplitS u0).1).length cap23) ?_; intro a30 hF31; clear hF29
 refine s1 hF31 12 (.int .i64 ((psplitS u0).2)) ?_; intro a32 hF33; clear hF31
 refine s1 hF33 5 (.slice ao22 ((psplitS u0).1).length cap23) ?_; intro a34 hF35; clear hF33
 refine s1 hF35 6 (.int .i64 ((psplitS u0).2)) ?_; intro a36 hF37; clear hF35
 refine nlH (hQ15 _ _ ?_); clear hQ15 hQ15Q
 refine wp_seq ?_
 refine sqH ?_; intro hQ38Q hQ38
 refine s1 hF37 13 (.int .i64 ((psplitS u0).2)) ?_; intro a39 hF40; clear hF37
 refine s1 hF40 14 (.bool (((psplitS u0).2) != 0)) ?_; intro a41 hF42; clear hF40
 refine nlH (hQ38 _ _ ?_); clear hQ38 hQ38Q
 refine cd hF42 (t := ((psplitS u0).2) != 0) (by kernel_rfl) (fun hb43 => ?_) (fun hb43 => ?_)
 · -- yes
  have hp44 := hp27.1 hb43; clear hp27
  refine sqH ?_; intro hQ45Q hQ45
  refine s1 hF42 15 (.agg #[.slice none 0 0, .int .i64 0, .int .i64 0, .int .i64 0, .bool false]) ?_; intro a46 hF47; clear hF42
  refine s1 hF47 16 (.int .i64 ((psplitS u0).2)) ?_; intro a48 hF49; clear hF47
  refine sr hF49 hM26 1 [.slice none 0 0, .int .i64 0, .int .i64 0, .int .i64 0, .bool false] (b := b6) (off := 0) (cs := [.slice none 0 0, .int .i64 0, .int .i64 0, .int .i64 0, .bool false]) (ty := 53) (u := .agg #[.slice none 0 0, .int .i64 0, .int .i64 0, .int .i64 0, .bool false]) (nog rfl _) rfl rfl (by kernel_rfl) (by kernel_rfl) (by kernel_rfl) (by kernel_rfl) (by kernel_rfl) (by kernel_rfl) (by kernel_rfl) ?_; intro wd50 hM51; clear hM26
  refine s1 hF49 3 (.slice none 0 0) ?_; intro a52 hF53; clear hF49
  refine s1 hF53 4 (.int .i64 ((psplitS u0).2)) ?_; intro a54 hF55; clear hF53
  have hM56 : Mem w.heap.size [] w Z [.own (tySl (tyInt .u8)) 36 ao22 cap23 ((psplitS u0).1), .row b6 [.slice none 0 0, .int .i64 0, .int .i64 0, .int .i64 0, .bool false] 53] Z24 wd50 := hM51; clear hM51
  refine nlH (hQ45 _ _ ?_); clear hQ45 hQ45Q
  refine wp_ret ?_
  refine thr ?_
  refine rt (fn := Try.f43) (v := .tuple #[.agg #[.slice none 0 0, .int .i64 0, .int .i64 0, .int .i64 0, .bool false], .slice none 0 0, .int .i64 ((psplitS u0).2)]) hF55 (re3c hF55 (fn := Try.f43) rfl (ad := ⟨b6, 0, none⟩) (by kernel_rfl) (loadVar_run hM56 1 (b := b6) (k := 5) (vs := [.slice none 0 0, .int .i64 0, .int .i64 0, .int .i64 0, .bool false]) (ty := 53) rfl (by kernel_rfl) (by kernel_rfl)) (by kernel_rfl) (by kernel_rfl)) ?_
  exact ⟨((⟨[], 0, 0, 0, false⟩ : Sender), [], (psplitS u0).2), none, 0, none, 0, Z24, rfl, hp44, (SlR.nil _ _), (SlR.nil _ _), hM56.keep (List.Sublist.cons _ (List.Sublist.cons _ (List.Sublist.slnil)))⟩
 · -- no
  have hp57 := hp27.2 hb43; clear hp27
  refine wp_skip ?_
  refine thn ?_
  refine sqH ?_; intro hQ58Q hQ58
  refine s1 hF42 17 (.slice ao1 u0.length cap2) ?_; intro a59 hF60; clear hF42
  have hc61 := hp57.1; have hp62 := hp57.2; clear hp57
  refine cl hF60 57 #[.slice ao1 u0.length cap2] (nog rfl _) rfl (by kernel_rfl) (by kernel_rfl) ?_
  refine (bclone_fun u0 hc61 ao1 cap2 _ _ hs3 hM26.fz).mono ?_; rintro _ wd63 ⟨ao67, cap68, Z69, rfl, hm⟩; refine ⟨_, rfl, ?_⟩; intro a64 hF65; have hM66 := hM26.callZ hm; have hle70 := hm.ext.le; clear hm hM26 hF60
  replace hs3 := hs3.mono hle70
  replace hle0 := Fz.le.trans hle0 hle70
  have hM71 : Mem w.heap.size [] w Z [.own (tyInt .u8) 5 ao67 cap68 (bcloneS u0), .own (tySl (tyInt .u8)) 36 ao22 cap23 ((psplitS u0).1), .row b6 [.slice none 0 0, .int .i64 0, .int .i64 0, .int .i64 0, .bool false] 53] Z69 wd63 := hM66; clear hM66
  have hp72 := hp62 (hM71.ownSmall 0 rfl); clear hp62
  refine s1 hF65 19 (.slice ao1 u0.length cap2) ?_; intro a73 hF74; clear hF65
  refine s1 hF74 20 (.int .i64 (u0.length : Int)) ?_; intro a75 hF76; clear hF74
  refine st hF76 (.int .i64 (min (u0.length : Int) 6)) (nog rfl _) rfl (by kernel_rfl) (re_ (p0 hF76 (r := .ok (.value (.int .i64 (if 6 < (u0.length : Int) then 6 else (u0.length : Int)))) wd63) (by kernel_rfl)) (by rw [imin])) ?_; intro a77 hF78; clear hF76
  refine s1 hF78 22 (.agg #[.slice ao67 (bcloneS u0).length cap68, .int .i64 (min (u0.length : Int) 6), .int .i64 1, .int .i64 (-1), .bool false]) ?_; intro a79 hF80; clear hF78
  refine sn hF80 hM71 (fun b => .pointer (some ⟨b, 0, none⟩)) [.slice none 0 0, .int .i64 0, .int .i64 0, .int .i64 0, .bool false] 53 (nog rfl _) rfl (by kernel_rfl) (by kernel_rfl) ?_; intro b81 a82 wd84 hF83 hM85; clear hF80 hM71
  refine sr hF83 hM85 0 [.slice ao67 (bcloneS u0).length cap68, .int .i64 (min (u0.length : Int) 6), .int .i64 1, .int .i64 (-1), .bool false] (b := b81) (off := 0) (cs := [.slice none 0 0, .int .i64 0, .int .i64 0, .int .i64 0, .bool false]) (ty := 53) (u := .agg #[.slice ao67 (bcloneS u0).length cap68, .int .i64 (min (u0.length : Int) 6), .int .i64 1, .int .i64 (-1), .bool false]) (nog rfl _) rfl rfl (by kernel_rfl) (by kernel_rfl) (by kernel_rfl) (by kernel_rfl) (by kernel_rfl) (by kernel_rfl) (by kernel_rfl) ?_; intro wd86 hM87; clear hM85
  have hM88 : Mem w.heap.size [] w Z [.row b81 [.slice ao67 (bcloneS u0).length cap68, .int .i64 (min (u0.length : Int) 6), .int .i64 1, .int .i64 (-1), .bool false] 53, .own (tyInt .u8) 5 ao67 cap68 (bcloneS u0), .own (tySl (tyInt .u8)) 36 ao22 cap23 ((psplitS u0).1), .row b6 [.slice none 0 0, .int .i64 0, .int .i64 0, .int .i64 0, .bool false] 53] Z69 wd86 := hM87; clear hM87
  refine nlH (hQ58 _ _ ?_); clear hQ58 hQ58Q
  refine wp_seq ?_
  have hF89 : Fr 35 [] [⟨0, [], .slice ao1 u0.length cap2⟩, ⟨2, [], .pointer (some ⟨b6, 0, none⟩)⟩, ⟨5, [], .slice ao22 ((psplitS u0).1).length cap23⟩, ⟨7, [], .pointer (some ⟨b81, 0, none⟩)⟩] a82 := hF83.region (by kernel_rfl) (by kernel_rfl); clear hF83
  refine sqH ?_; intro hQ90Q hQ90
  refine s1 hF89 23 (.slice ao22 ((psplitS u0).1).length cap23) ?_; intro a91 hF92; clear hF89
  refine s1 hF92 24 (.int .i64 (((psplitS u0).1).length : Int)) ?_; intro a93 hF94; clear hF92
  refine s1 hF94 25 (.bool ((((psplitS u0).1).length : Int) == 1)) ?_; intro a95 hF96; clear hF94
  refine nlH (hQ90 _ _ ?_); clear hQ90 hQ90Q
  refine cd hF96 (t := (((psplitS u0).1).length : Int) == 1) (by kernel_rfl) (fun hb97 => ?_) (fun hb97 => ?_)
  · -- yes
   have hp98 := hp72.1 hb97; clear hp72
   refine rgH ?_; intro hQ99Q hQ99
   refine s1 hF96 26 (.slice ao1 u0.length cap2) ?_; intro a100 hF101; clear hF96
   refine s1 hF101 27 (.int .i64 (u0.length : Int)) ?_; intro a102 hF103; clear hF101
   refine s1 hF103 28 (.pointer (some ⟨b81, 1, none⟩)) ?_; intro a104 hF105; clear hF103
   refine sr hF105 hM88 0 [.slice ao67 (bcloneS u0).length cap68, .int .i64 (u0.length : Int), .int .i64 1, .int .i64 (-1), .bool false] (b := b81) (off := 1) (cs := [.slice ao67 (bcloneS u0).length cap68, .int .i64 (min (u0.length : Int) 6), .int .i64 1, .int .i64 (-1), .bool false]) (ty := 53) (u := .int .i64 (u0.length : Int)) (nog rfl _) rfl rfl (by kernel_rfl) (by kernel_rfl) (by kernel_rfl) (by kernel_rfl) (by kernel_rfl) (by kernel_rfl) (by kernel_rfl) ?_; intro wd106 hM107; clear hM88
   refine s1 hF105 29 (.pointer (some ⟨b81, 3, none⟩)) ?_; intro a108 hF109; clear hF105
   refine sr hF109 hM107 0 [.slice ao67 (bcloneS u0).length cap68, .int .i64 (u0.length : Int), .int .i64 1, .int .i64 0, .bool false] (b := b81) (off := 3) (cs := [.slice ao67 (bcloneS u0).length cap68, .int .i64 (u0.length : Int), .int .i64 1, .int .i64 (-1), .bool false]) (ty := 53) (u := .int .i64 0) (nog rfl _) rfl rfl (by kernel_rfl) (by kernel_rfl) (by kernel_rfl) (by kernel_rfl) (by kernel_rfl) (by kernel_rfl) (by kernel_rfl) ?_; intro wd110 hM111; clear hM107
   refine s1 hF109 30 (.pointer (some ⟨b81, 4, none⟩)) ?_; intro a112 hF113; clear hF109
   refine sr hF113 hM111 0 [.slice ao67 (bcloneS u0).length cap68, .int .i64 (u0.length : Int), .int .i64 1, .int .i64 0, .bool true] (b := b81) (off := 4) (cs := [.slice ao67 (bcloneS u0).length cap68, .int .i64 (u0.length : Int), .int .i64 1, .int .i64 0, .bool false]) (ty := 53) (u := .bool true) (nog rfl _) rfl rfl (by kernel_rfl) (by kernel_rfl) (by kernel_rfl) (by kernel_rfl) (by kernel_rfl) (by kernel_rfl) (by kernel_rfl) ?_; intro wd114 hM115; clear hM111
   have hM116 : Mem w.heap.size [] w Z [.row b81 [.slice ao67 (bcloneS u0).length cap68, .int .i64 (u0.length : Int), .int .i64 1, .int .i64 0, .bool true] 53, .own (tyInt .u8) 5 ao67 cap68 (bcloneS u0), .own (tySl (tyInt .u8)) 36 ao22 cap23 ((psplitS u0).1), .row b6 [.slice none 0 0, .int .i64 0, .int .i64 0, .int .i64 0, .bool false] 53] Z69 wd114 := hM115; clear hM115
   refine nlH (hQ99 _ _ ?_); clear hQ99 hQ99Q
   refine thn ?_
   have hF117 : Fr 35 [] [⟨2, [], .pointer (some ⟨b6, 0, none⟩)⟩, ⟨5, [], .slice ao22 ((psplitS u0).1).length cap23⟩, ⟨7, [], .pointer (some ⟨b81, 0, none⟩)⟩] a112 := hF113.region (by kernel_rfl) (by kernel_rfl); clear hF113
   have hcd2_0 := hp98.1; have hp140 := hp98.2; clear hp98
   obtain ⟨qd3_0, hqd3_0⟩ : ∃ q, ((psplitS u0).1)[(0 : Int).toNat]? = some q := ⟨_, List.getElem?_eq_getElem (by omega)⟩; have hp141 := hp140 qd3_0 hqd3_0; clear hp140
   refine wp_seq (any_invE mixed [[], [], [1], [2], [0], [0, 1, 2, 3, 4], [0, 1, 2, 3, 4, 5]] 7 (fun S a w1 => ∃ (g122 : Nat) (ao129 : Option Addr) (cap130 : Nat) (ud3 : Value) (ud4 : Value) (ud31 : Value) (ud32 : Value) (ud33 : Value) (ud34 : Value) (rh0 : Res) (rh1 : Res) (rh2 : Res) (rh3 : Res), Fz.le Z69 Z69 ∧ Fr 35 [] [⟨2, [], .pointer (some ⟨b6, 0, none⟩)⟩, ⟨3, [], ud3⟩, ⟨4, [], ud4⟩, ⟨5, [], .slice ao22 ((psplitS u0).1).length cap23⟩, ⟨7, [], .pointer (some ⟨b81, 0, none⟩)⟩, ⟨31, [], ud31⟩, ⟨32, [], ud32⟩, ⟨33, [], ud33⟩, ⟨34, [], ud34⟩] a ∧ Mem w.heap.size [] w Z [rh0, rh1, rh2, rh3] Z69 w1 ∧ (S 5 = true → ud3 = .slice ao129 qd3_0.length cap130) ∧ (S 6 = true → ud4 = .int .i64 0) ∧ (S 0 = true → ud31 = .agg #[.slice ao67 (bcloneS u0).length cap68, .int .i64 (u0.length : Int), .int .i64 1, .int .i64 0, .bool true]) ∧ (S 1 = true → ud32 = .slice ao22 ((psplitS u0).1).length cap23) ∧ (S 2 = true → ud33 = .pointer (some ⟨g122, (0 : Int).toNat * 1, none⟩)) ∧ (S 3 = true → ud34 = .slice ao129 qd3_0.length cap130) ∧ (rh0 = .row b81 [.slice ao67 (bcloneS u0).length cap68, .int .i64 (u0.length : Int), .int .i64 1, .int .i64 0, .bool true] 53) ∧ (rh1 = .own (tyInt .u8) 5 ao67 cap68 (bcloneS u0)) ∧ (rh2 = .own (tySl (tyInt .u8)) 36 ao22 cap23 ((psplitS u0).1)) ∧ (S 4 = false → rh3 = .row b6 [.slice none 0 0, .int .i64 0, .int .i64 0, .int .i64 0, .bool false] 53) ∧ (S 4 = true → rh3 = .row b6 [.slice ao67 (bcloneS u0).length cap68, .int .i64 (u0.length : Int), .int .i64 1, .int .i64 0, .bool true] 53) ∧ (S 2 = true → ao22 = some ⟨g122, 0, none⟩) ∧ (S 3 = true → SlR (tyInt .u8) Z69 ao129 cap130 qd3_0)) ?h0 ?hs ?hE)
   case h0 =>
    have hF143 := hF117.any 3
    have hF144 := hF143.any 4
    have hF145 := hF144.any 31
    have hF146 := hF145.any 32
    have hF147 := hF146.any 33
    have hF148 := hF147.any 34
    have hM149 := (hM116.perm (List.Perm.refl _)).drew
    exact ⟨0, none, 0, a112.tmps.getD 3 undef, a112.tmps.getD 4 undef, a112.tmps.getD 31 undef, a112.tmps.getD 32 undef, a112.tmps.getD 33 undef, a112.tmps.getD 34 undef, .row b81 [.slice ao67 (bcloneS u0).length cap68, .int .i64 (u0.length : Int), .int .i64 1, .int .i64 0, .bool true] 53, .own (tyInt .u8) 5 ao67 cap68 (bcloneS u0), .own (tySl (tyInt .u8)) 36 ao22 cap23 ((psplitS u0).1), .row b6 [.slice none 0 0, .int .i64 0, .int .i64 0, .int .i64 0, .bool false] 53, Fz.le.refl _, hF148.region (by kernel_rfl) (by kernel_rfl), hM149, ff, ff, ff, ff, ff, ff, rfl, rfl, rfl, kf, ff, ff, ff⟩
   case hs =>
    intro S hcl i o hil hi hSi hpre a w1 hI; refine hid ?_; intro G hG; obtain ⟨g122, hI⟩ := hI; obtain ⟨ao129, hI⟩ := hI; obtain ⟨cap130, hI⟩ := hI; obtain ⟨ud3, hI⟩ := hI; obtain ⟨ud4, hI⟩ := hI; obtain ⟨ud31, hI⟩ := hI; obtain ⟨ud32, hI⟩ := hI; obtain ⟨ud33, hI⟩ := hI; obtain ⟨ud34, hI⟩ := hI; obtain ⟨rh0, hI⟩ := hI; obtain ⟨rh1, hI⟩ := hI; obtain ⟨rh2, hI⟩ := hI; obtain ⟨rh3, hI⟩ := hI; obtain ⟨hle142, hI⟩ := hI; obtain ⟨hFx, hI⟩ := hI; obtain ⟨hMx, hI⟩ := hI; obtain ⟨cu3, hI⟩ := hI; obtain ⟨cu4, hI⟩ := hI; obtain ⟨cu31, hI⟩ := hI; obtain ⟨cu32, hI⟩ := hI; obtain ⟨cu33, hI⟩ := hI; obtain ⟨cu34, hI⟩ := hI; obtain ⟨cr0_0, hI⟩ := hI; obtain ⟨cr1_0, hI⟩ := hI; obtain ⟨cr2_0, hI⟩ := hI; obtain ⟨cr3_0, hI⟩ := hI; obtain ⟨cr3_1, hI⟩ := hI; obtain ⟨cf0, hI⟩ := hI; have cf1 := hI; clear hI
    have hcase : i = 0 ∨ i = 1 ∨ i = 2 ∨ i = 3 ∨ i = 4 ∨ i = 5 ∨ i = 6 := by clear hi; omega
    rcases hcase with rfl | rfl | rfl | rfl | rfl | rfl | rfl
    · -- 0: load
     obtain rfl := Option.some.inj hi
     have hx0 := hSi
     have hx4 := negF hcl 4 0 (by kernel_rfl) hx0
     have hx5 := negF hcl 5 0 (by kernel_rfl) hx0
     have hx6 := negF hcl 6 0 (by kernel_rfl) hx0
     obtain rfl := cr0_0
     obtain rfl := cr1_0
     obtain rfl := cr2_0
     obtain rfl := cr3_0 hx4
     refine hG (any_step ?_); clear hG G; intro A J hJ
     have hle0 := Fz.le.trans hle0 hle142
     have hs150 := hs3.mono hle142
     refine l2 hFx hMx 31 0 0 5 [.slice ao67 (bcloneS u0).length cap68, .int .i64 (u0.length : Int), .int .i64 1, .int .i64 0, .bool true] rfl rfl ?_; intro a151 hF152; clear hFx
     refine nl (qnI (hJ _ _ ?_)); clear hJ J
     exact ⟨g122, ao129, cap130, ud3, ud4, .agg #[.slice ao67 (bcloneS u0).length cap68, .int .i64 (u0.length : Int), .int .i64 1, .int .i64 0, .bool true], ud32, ud33, ud34, .row b81 [.slice ao67 (bcloneS u0).length cap68, .int .i64 (u0.length : Int), .int .i64 1, .int .i64 0, .bool true] 53, .own (tyInt .u8) 5 ao67 cap68 (bcloneS u0), .own (tySl (tyInt .u8)) 36 ao22 cap23 ((psplitS u0).1), .row b6 [.slice none 0 0, .int .i64 0, .int .i64 0, .int .i64 0, .bool false] 53, hle142, hF152.region (by kernel_rfl) (by kernel_rfl), hMx.perm (List.Perm.refl _), (nt hx5), (nt hx6), kf, cu32, cu33, cu34, rfl, rfl, rfl, kf, (nt hx4), cf0, cf1⟩
    · -- 1: move
     obtain rfl := Option.some.inj hi
     have hx1 := hSi
     have hx2 := negF hcl 2 1 (by kernel_rfl) hx1
     have hx3 := negF hcl 3 2 (by kernel_rfl) hx2
     have hx5 := negF hcl 5 1 (by kernel_rfl) hx1
     have hx6 := negF hcl 6 1 (by kernel_rfl) hx1
     obtain rfl := cr0_0
     obtain rfl := cr1_0
     obtain rfl := cr2_0
     refine hG (any_step ?_); clear hG G; intro A J hJ
     have hle0 := Fz.le.trans hle0 hle142
     have hs154 := hs3.mono hle142
     refine s1 hFx 32 (.slice ao22 ((psplitS u0).1).length cap23) ?_; intro a155 hF156; clear hFx
     refine nl (qnI (hJ _ _ ?_)); clear hJ J
     exact ⟨g122, ao129, cap130, ud3, ud4, ud31, .slice ao22 ((psplitS u0).1).length cap23, ud33, ud34, .row b81 [.slice ao67 (bcloneS u0).length cap68, .int .i64 (u0.length : Int), .int .i64 1, .int .i64 0, .bool true] 53, .own (tyInt .u8) 5 ao67 cap68 (bcloneS u0), .own (tySl (tyInt .u8)) 36 ao22 cap23 ((psplitS u0).1), rh3, hle142, hF156.region (by kernel_rfl) (by kernel_rfl), hMx.perm (List.Perm.refl _), (nt hx5), (nt hx6), cu31, kf, (nt hx2), (nt hx3), rfl, rfl, rfl, cr3_0, cr3_1, (nt hx2), (nt hx3)⟩
    · -- 2: indexAddr
     obtain rfl := Option.some.inj hi
     have hx1 := hpre 1 (by kernel_rfl)
     have hx2 := hSi
     have hx3 := negF hcl 3 2 (by kernel_rfl) hx2
     have hx5 := negF hcl 5 2 (by kernel_rfl) hx2
     have hx6 := negF hcl 6 2 (by kernel_rfl) hx2
     obtain rfl := cu32 hx1
     obtain rfl := cr0_0
     obtain rfl := cr1_0
     obtain rfl := cr2_0
     refine hG (any_step ?_); clear hG G; intro A J hJ
     have hle0 := Fz.le.trans hle0 hle142
     have hs158 := hs3.mono hle142
     refine ixo hFx hMx 2 (T := (tySl (tyInt .u8))) (xs := (psplitS u0).1) (0 : Int) hcd2_0 (k := .i64) (e := 36) (bytes := 24) (nog rfl _) rfl (by kernel_rfl) rfl (by kernel_rfl) (by kernel_rfl) rfl (by kernel_rfl) ?_; intro g159 a161 hg160 hF162; clear hFx
     refine nl (qnI (hJ _ _ ?_)); clear hJ J
     exact ⟨g159, ao129, cap130, ud3, ud4, ud31, .slice ao22 ((psplitS u0).1).length cap23, .pointer (some ⟨g159, (0 : Int).toNat * 1, none⟩), ud34, .row b81 [.slice ao67 (bcloneS u0).length cap68, .int .i64 (u0.length : Int), .int .i64 1, .int .i64 0, .bool true] 53, .own (tyInt .u8) 5 ao67 cap68 (bcloneS u0), .own (tySl (tyInt .u8)) 36 ao22 cap23 ((psplitS u0).1), rh3, hle142, hF162.region (by kernel_rfl) (by kernel_rfl), hMx.perm (List.Perm.refl _), (nt hx5), (nt hx6), cu31, kf, kf, (nt hx3), rfl, rfl, rfl, cr3_0, cr3_1, (fun _ => hg160), (nt hx3)⟩
    · -- 3: load
     obtain rfl := Option.some.inj hi
     have hx2 := hpre 2 (by kernel_rfl)
     have hx1 := hcl 2 1 (by kernel_rfl) hx2
     have hx3 := hSi
     have hx5 := negF hcl 5 3 (by kernel_rfl) hx3
     have hx6 := negF hcl 6 3 (by kernel_rfl) hx3
     obtain rfl := cu32 hx1
     obtain rfl := cu33 hx2
     obtain rfl := cr0_0
     obtain rfl := cr1_0
     obtain rfl := cr2_0
     refine hG (any_step ?_); clear hG G; intro A J hJ
     have hle0 := Fz.le.trans hle0 hle142
     have hs164 := hs3.mono hle142
     have hs165 := cf0 hx2
     obtain ⟨cs166, hT167, hcl168⟩ := own_elx hMx 2 (T := (tySl (tyInt .u8))) (xs := (psplitS u0).1) rfl hs165 (0 : Int).toNat hqd3_0
     obtain ⟨ao169, cap170, rfl, hs171⟩ := hT167
     refine lc1 hFx 34 (.slice ao169 qd3_0.length cap170) (hcl168 0 _ rfl) rfl ?_; intro a172 hF173; clear hFx
     refine nl (qnI (hJ _ _ ?_)); clear hJ J
     exact ⟨g122, ao169, cap170, ud3, ud4, ud31, .slice ao22 ((psplitS u0).1).length cap23, .pointer (some ⟨g122, (0 : Int).toNat * 1, none⟩), .slice ao169 qd3_0.length cap170, .row b81 [.slice ao67 (bcloneS u0).length cap68, .int .i64 (u0.length : Int), .int .i64 1, .int .i64 0, .bool true] 53, .own (tyInt .u8) 5 ao67 cap68 (bcloneS u0), .own (tySl (tyInt .u8)) 36 ao22 cap23 ((psplitS u0).1), rh3, hle142, hF173.region (by kernel_rfl) (by kernel_rfl), hMx.perm (List.Perm.refl _), (nt hx5), (nt hx6), cu31, kf, kf, kf, rfl, rfl, rfl, cr3_0, cr3_1, (fun _ => hs165), (fun _ => hs171)⟩
    · -- 4: store
     obtain rfl := Option.some.inj hi
     have hx0 := hpre 0 (by kernel_rfl)
     have hx4 := hSi
     have hx5 := negF hcl 5 4 (by kernel_rfl) hx4
     have hx6 := negF hcl 6 4 (by kernel_rfl) hx4
     obtain rfl := cu31 hx0
     obtain rfl := cr0_0
     obtain rfl := cr1_0
     obtain rfl := cr2_0
     obtain rfl := cr3_0 hx4
     refine hG (any_step ?_); clear hG G; intro A J hJ
     have hle0 := Fz.le.trans hle0 hle142
     have hs175 := hs3.mono hle142
     refine sr hFx hMx 3 [.slice ao67 (bcloneS u0).length cap68, .int .i64 (u0.length : Int), .int .i64 1, .int .i64 0, .bool true] (b := b6) (off := 0) (cs := [.slice none 0 0, .int .i64 0, .int .i64 0, .int .i64 0, .bool false]) (ty := 53) (u := .agg #[.slice ao67 (bcloneS u0).length cap68, .int .i64 (u0.length : Int), .int .i64 1, .int .i64 0, .bool true]) (nog rfl _) rfl rfl (by kernel_rfl) (by kernel_rfl) (by kernel_rfl) (by kernel_rfl) (by kernel_rfl) (by kernel_rfl) (by kernel_rfl) ?_; intro wd176 hM177; clear hMx
     refine nl (qnI (hJ _ _ ?_)); clear hJ J
     exact ⟨g122, ao129, cap130, ud3, ud4, .agg #[.slice ao67 (bcloneS u0).length cap68, .int .i64 (u0.length : Int), .int .i64 1, .int .i64 0, .bool true], ud32, ud33, ud34, .row b81 [.slice ao67 (bcloneS u0).length cap68, .int .i64 (u0.length : Int), .int .i64 1, .int .i64 0, .bool true] 53, .own (tyInt .u8) 5 ao67 cap68 (bcloneS u0), .own (tySl (tyInt .u8)) 36 ao22 cap23 ((psplitS u0).1), .row b6 [.slice ao67 (bcloneS u0).length cap68, .int .i64 (u0.length : Int), .int .i64 1, .int .i64 0, .bool true] 53, hle142, hFx.region (by kernel_rfl) (by kernel_rfl), hM177.perm (List.Perm.refl _), (nt hx5), (nt hx6), kf, cu32, cu33, cu34, rfl, rfl, rfl, nu, kf, cf0, cf1⟩
    · -- 5: assign
     obtain rfl := Option.some.inj hi
     have hx4 := hpre 4 (by kernel_rfl)
     have hx3 := hpre 3 (by kernel_rfl)
     have hx2 := hpre 2 (by kernel_rfl)
     have hx1 := hpre 1 (by kernel_rfl)
     have hx0 := hpre 0 (by kernel_rfl)
     have hx5 := hSi
     have hx6 := negF hcl 6 5 (by kernel_rfl) hx5
     obtain rfl := cu31 hx0
     obtain rfl := cu32 hx1
     obtain rfl := cu33 hx2
     obtain rfl := cu34 hx3
     obtain rfl := cr0_0
     obtain rfl := cr1_0
     obtain rfl := cr2_0
     obtain rfl := cr3_1 hx4
     refine hG (any_step ?_); clear hG G; intro A J hJ
     have hle0 := Fz.le.trans hle0 hle142
     have hs179 := hs3.mono hle142
     have hs180 := cf0 hx2
     have hs181 := cf1 hx3
     refine s1 hFx 3 (.slice ao129 qd3_0.length cap130) ?_; intro a182 hF183; clear hFx
     refine nl (qnI (hJ _ _ ?_)); clear hJ J
     exact ⟨g122, ao129, cap130, .slice ao129 qd3_0.length cap130, ud4, .agg #[.slice ao67 (bcloneS u0).length cap68, .int .i64 (u0.length : Int), .int .i64 1, .int .i64 0, .bool true], .slice ao22 ((psplitS u0).1).length cap23, .pointer (some ⟨g122, (0 : Int).toNat * 1, none⟩), .slice ao129 qd3_0.length cap130, .row b81 [.slice ao67 (bcloneS u0).length cap68, .int .i64 (u0.length : Int), .int .i64 1, .int .i64 0, .bool true] 53, .own (tyInt .u8) 5 ao67 cap68 (bcloneS u0), .own (tySl (tyInt .u8)) 36 ao22 cap23 ((psplitS u0).1), .row b6 [.slice ao67 (bcloneS u0).length cap68, .int .i64 (u0.length : Int), .int .i64 1, .int .i64 0, .bool true] 53, hle142, hF183.region (by kernel_rfl) (by kernel_rfl), hMx.perm (List.Perm.refl _), kf, (nt hx6), kf, kf, kf, kf, rfl, rfl, rfl, (tn hx4), kf, (fun _ => hs180), (fun _ => hs181)⟩
    · -- 6: assign
     obtain rfl := Option.some.inj hi
     have hx5 := hpre 5 (by kernel_rfl)
     have hx4 := hpre 4 (by kernel_rfl)
     have hx3 := hpre 3 (by kernel_rfl)
     have hx2 := hpre 2 (by kernel_rfl)
     have hx1 := hpre 1 (by kernel_rfl)
     have hx0 := hpre 0 (by kernel_rfl)
     have hx6 := hSi
     obtain rfl := cu3 hx5
     obtain rfl := cu31 hx0
     obtain rfl := cu32 hx1
     obtain rfl := cu33 hx2
     obtain rfl := cu34 hx3
     obtain rfl := cr0_0
     obtain rfl := cr1_0
     obtain rfl := cr2_0
     obtain rfl := cr3_1 hx4
     refine hG (any_step ?_); clear hG G; intro A J hJ
     have hle0 := Fz.le.trans hle0 hle142
     have hs185 := hs3.mono hle142
     have hs186 := cf0 hx2
     have hs187 := cf1 hx3
     refine s1 hFx 4 (.int .i64 0) ?_; intro a188 hF189; clear hFx
     refine nl (qnI (hJ _ _ ?_)); clear hJ J
     exact ⟨g122, ao129, cap130, .slice ao129 qd3_0.length cap130, .int .i64 0, .agg #[.slice ao67 (bcloneS u0).length cap68, .int .i64 (u0.length : Int), .int .i64 1, .int .i64 0, .bool true], .slice ao22 ((psplitS u0).1).length cap23, .pointer (some ⟨g122, (0 : Int).toNat * 1, none⟩), .slice ao129 qd3_0.length cap130, .row b81 [.slice ao67 (bcloneS u0).length cap68, .int .i64 (u0.length : Int), .int .i64 1, .int .i64 0, .bool true] 53, .own (tyInt .u8) 5 ao67 cap68 (bcloneS u0), .own (tySl (tyInt .u8)) 36 ao22 cap23 ((psplitS u0).1), .row b6 [.slice ao67 (bcloneS u0).length cap68, .int .i64 (u0.length : Int), .int .i64 1, .int .i64 0, .bool true] 53, hle142, hF189.region (by kernel_rfl) (by kernel_rfl), hMx.perm (List.Perm.refl _), kf, kf, kf, kf, kf, kf, rfl, rfl, rfl, (tn hx4), kf, (fun _ => hs186), (fun _ => hs187)⟩
   case hE =>
    intro S hS a191 wd192 hI; refine hid ?_; intro G hG; obtain ⟨g122, hI⟩ := hI; obtain ⟨ao129, hI⟩ := hI; obtain ⟨cap130, hI⟩ := hI; obtain ⟨ud3, hI⟩ := hI; obtain ⟨ud4, hI⟩ := hI; obtain ⟨ud31, hI⟩ := hI; obtain ⟨ud32, hI⟩ := hI; obtain ⟨ud33, hI⟩ := hI; obtain ⟨ud34, hI⟩ := hI; obtain ⟨rh0, hI⟩ := hI; obtain ⟨rh1, hI⟩ := hI; obtain ⟨rh2, hI⟩ := hI; obtain ⟨rh3, hI⟩ := hI; obtain ⟨hle142, hI⟩ := hI; obtain ⟨hFx, hI⟩ := hI; obtain ⟨hMx, hI⟩ := hI; obtain ⟨cu3, hI⟩ := hI; obtain ⟨cu4, hI⟩ := hI; obtain ⟨cu31, hI⟩ := hI; obtain ⟨cu32, hI⟩ := hI; obtain ⟨cu33, hI⟩ := hI; obtain ⟨cu34, hI⟩ := hI; obtain ⟨cr0_0, hI⟩ := hI; obtain ⟨cr1_0, hI⟩ := hI; obtain ⟨cr2_0, hI⟩ := hI; obtain ⟨cr3_0, hI⟩ := hI; obtain ⟨cr3_1, hI⟩ := hI; obtain ⟨cf0, hI⟩ := hI; have cf1 := hI; clear hI; refine hG ?_; clear hG G
    obtain rfl := cu3 (hS 5 (by decide))
    obtain rfl := cu4 (hS 6 (by decide))
    obtain rfl := cu31 (hS 0 (by decide))
    obtain rfl := cu32 (hS 1 (by decide))
    obtain rfl := cu33 (hS 2 (by decide))
    obtain rfl := cu34 (hS 3 (by decide))
    obtain rfl := cr0_0
    obtain rfl := cr1_0
    obtain rfl := cr2_0
    obtain rfl := cr3_1 (hS 4 (by decide))
    have hle0 := Fz.le.trans hle0 hle142
    have hs193 := hs3.mono hle142
    have hs194 := cf0 (hS 2 (by decide))
    have hs195 := cf1 (hS 3 (by decide))
    refine thn ?_
    refine wp_ret ?_
    obtain ⟨Z196, hle197, hM198, hs199⟩ := hMx.freeze 1 rfl
    replace hs193 := hs193.mono hle197
    replace hs194 := hs194.mono hle197
    replace hs195 := hs195.mono hle197
    replace hle0 := Fz.le.trans hle0 hle197
    have hM200 : Mem w.heap.size [] w Z [.row b81 [.slice ao67 (bcloneS u0).length cap68, .int .i64 (u0.length : Int), .int .i64 1, .int .i64 0, .bool true] 53, .own (tySl (tyInt .u8)) 36 ao22 cap23 ((psplitS u0).1), .row b6 [.slice ao67 (bcloneS u0).length cap68, .int .i64 (u0.length : Int), .int .i64 1, .int .i64 0, .bool true] 53] Z196 wd192 := hM198; clear hM198
    refine rt (fn := Try.f43) (v := .tuple #[.agg #[.slice ao67 (bcloneS u0).length cap68, .int .i64 (u0.length : Int), .int .i64 1, .int .i64 0, .bool true], .slice ao129 qd3_0.length cap130, .int .i64 0]) hFx (re3c hFx (fn := Try.f43) rfl (ad := ⟨b6, 0, none⟩) (by kernel_rfl) (loadVar_run hM200 2 (b := b6) (k := 5) (vs := [.slice ao67 (bcloneS u0).length cap68, .int .i64 (u0.length : Int), .int .i64 1, .int .i64 0, .bool true]) (ty := 53) rfl (by kernel_rfl) (by kernel_rfl)) (by kernel_rfl) (by kernel_rfl)) ?_
    exact ⟨((⟨(bcloneS u0), (u0.length : Int), 1, 0, true⟩ : Sender), qd3_0, 0), ao67, cap68, ao129, cap130, Z196, rfl, hp141, hs199, hs195, hM200.keep (List.Sublist.cons _ (List.Sublist.cons _ (List.Sublist.cons _ (List.Sublist.slnil))))⟩
  · -- no
   have hp201 := hp72.2 hb97; clear hp72
   refine wp_skip ?_
   refine thn ?_
   have hF202 : Fr 35 [] [⟨2, [], .pointer (some ⟨b6, 0, none⟩)⟩, ⟨5, [], .slice ao22 ((psplitS u0).1).length cap23⟩, ⟨7, [], .pointer (some ⟨b81, 0, none⟩)⟩] a95 := hF96.region (by kernel_rfl) (by kernel_rfl); clear hF96
   have hcd2_0 := hp201.1; have hp225 := hp201.2; clear hp201
   obtain ⟨qd3_0, hqd3_0⟩ : ∃ q, ((psplitS u0).1)[(0 : Int).toNat]? = some q := ⟨_, List.getElem?_eq_getElem (by omega)⟩; have hp226 := hp225 qd3_0 hqd3_0; clear hp225
   refine wp_seq (any_invE mixed [[], [], [1], [2], [0], [0, 1, 2, 3, 4], [0, 1, 2, 3, 4, 5]] 7 (fun S a w1 => ∃ (g207 : Nat) (ao214 : Option Addr) (cap215 : Nat) (ud3 : Value) (ud4 : Value) (ud31 : Value) (ud32 : Value) (ud33 : Value) (ud34 : Value) (rh0 : Res) (rh1 : Res) (rh2 : Res) (rh3 : Res), Fz.le Z69 Z69 ∧ Fr 35 [] [⟨2, [], .pointer (some ⟨b6, 0, none⟩)⟩, ⟨3, [], ud3⟩, ⟨4, [], ud4⟩, ⟨5, [], .slice ao22 ((psplitS u0).1).length cap23⟩, ⟨7, [], .pointer (some ⟨b81, 0, none⟩)⟩, ⟨31, [], ud31⟩, ⟨32, [], ud32⟩, ⟨33, [], ud33⟩, ⟨34, [], ud34⟩] a ∧ Mem w.heap.size [] w Z [rh0, rh1, rh2, rh3] Z69 w1 ∧ (S 5 = true → ud3 = .slice ao214 qd3_0.length cap215) ∧ (S 6 = true → ud4 = .int .i64 0) ∧ (S 0 = true → ud31 = .agg #[.slice ao67 (bcloneS u0).length cap68, .int .i64 (min (u0.length : Int) 6), .int .i64 1, .int .i64 (-1), .bool false]) ∧ (S 1 = true → ud32 = .slice ao22 ((psplitS u0).1).length cap23) ∧ (S 2 = true → ud33 = .pointer (some ⟨g207, (0 : Int).toNat * 1, none⟩)) ∧ (S 3 = true → ud34 = .slice ao214 qd3_0.length cap215) ∧ (rh0 = .row b81 [.slice ao67 (bcloneS u0).length cap68, .int .i64 (min (u0.length : Int) 6), .int .i64 1, .int .i64 (-1), .bool false] 53) ∧ (rh1 = .own (tyInt .u8) 5 ao67 cap68 (bcloneS u0)) ∧ (rh2 = .own (tySl (tyInt .u8)) 36 ao22 cap23 ((psplitS u0).1)) ∧ (S 4 = false → rh3 = .row b6 [.slice none 0 0, .int .i64 0, .int .i64 0, .int .i64 0, .bool false] 53) ∧ (S 4 = true → rh3 = .row b6 [.slice ao67 (bcloneS u0).length cap68, .int .i64 (min (u0.length : Int) 6), .int .i64 1, .int .i64 (-1), .bool false] 53) ∧ (S 2 = true → ao22 = some ⟨g207, 0, none⟩) ∧ (S 3 = true → SlR (tyInt .u8) Z69 ao214 cap215 qd3_0)) ?h0 ?hs ?hE)
   case h0 =>
    have hF228 := hF202.any 3
    have hF229 := hF228.any 4
    have hF230 := hF229.any 31
    have hF231 := hF230.any 32
    have hF232 := hF231.any 33
    have hF233 := hF232.any 34
    have hM234 := (hM88.perm (List.Perm.refl _)).drew
    exact ⟨0, none, 0, a95.tmps.getD 3 undef, a95.tmps.getD 4 undef, a95.tmps.getD 31 undef, a95.tmps.getD 32 undef, a95.tmps.getD 33 undef, a95.tmps.getD 34 undef, .row b81 [.slice ao67 (bcloneS u0).length cap68, .int .i64 (min (u0.length : Int) 6), .int .i64 1, .int .i64 (-1), .bool false] 53, .own (tyInt .u8) 5 ao67 cap68 (bcloneS u0), .own (tySl (tyInt .u8)) 36 ao22 cap23 ((psplitS u0).1), .row b6 [.slice none 0 0, .int .i64 0, .int .i64 0, .int .i64 0, .bool false] 53, Fz.le.refl _, hF233.region (by kernel_rfl) (by kernel_rfl), hM234, ff, ff, ff, ff, ff, ff, rfl, rfl, rfl, kf, ff, ff, ff⟩
   case hs =>
    intro S hcl i o hil hi hSi hpre a w1 hI; refine hid ?_; intro G hG; obtain ⟨g207, hI⟩ := hI; obtain ⟨ao214, hI⟩ := hI; obtain ⟨cap215, hI⟩ := hI; obtain ⟨ud3, hI⟩ := hI; obtain ⟨ud4, hI⟩ := hI; obtain ⟨ud31, hI⟩ := hI; obtain ⟨ud32, hI⟩ := hI; obtain ⟨ud33, hI⟩ := hI; obtain ⟨ud34, hI⟩ := hI; obtain ⟨rh0, hI⟩ := hI; obtain ⟨rh1, hI⟩ := hI; obtain ⟨rh2, hI⟩ := hI; obtain ⟨rh3, hI⟩ := hI; obtain ⟨hle227, hI⟩ := hI; obtain ⟨hFx, hI⟩ := hI; obtain ⟨hMx, hI⟩ := hI; obtain ⟨cu3, hI⟩ := hI; obtain ⟨cu4, hI⟩ := hI; obtain ⟨cu31, hI⟩ := hI; obtain ⟨cu32, hI⟩ := hI; obtain ⟨cu33, hI⟩ := hI; obtain ⟨cu34, hI⟩ := hI; obtain ⟨cr0_0, hI⟩ := hI; obtain ⟨cr1_0, hI⟩ := hI; obtain ⟨cr2_0, hI⟩ := hI; obtain ⟨cr3_0, hI⟩ := hI; obtain ⟨cr3_1, hI⟩ := hI; obtain ⟨cf0, hI⟩ := hI; have cf1 := hI; clear hI
    have hcase : i = 0 ∨ i = 1 ∨ i = 2 ∨ i = 3 ∨ i = 4 ∨ i = 5 ∨ i = 6 := by clear hi; omega
    rcases hcase with rfl | rfl | rfl | rfl | rfl | rfl | rfl
    · -- 0: load
     obtain rfl := Option.some.inj hi
     have hx0 := hSi
     have hx4 := negF hcl 4 0 (by kernel_rfl) hx0
     have hx5 := negF hcl 5 0 (by kernel_rfl) hx0
     have hx6 := negF hcl 6 0 (by kernel_rfl) hx0
     obtain rfl := cr0_0
     obtain rfl := cr1_0
     obtain rfl := cr2_0
     obtain rfl := cr3_0 hx4
     refine hG (any_step ?_); clear hG G; intro A J hJ
     have hle0 := Fz.le.trans hle0 hle227
     have hs235 := hs3.mono hle227
     refine l2 hFx hMx 31 0 0 5 [.slice ao67 (bcloneS u0).length cap68, .int .i64 (min (u0.length : Int) 6), .int .i64 1, .int .i64 (-1), .bool false] rfl rfl ?_; intro a236 hF237; clear hFx
     refine nl (qnI (hJ _ _ ?_)); clear hJ J
     exact ⟨g207, ao214, cap215, ud3, ud4, .agg #[.slice ao67 (bcloneS u0).length cap68, .int .i64 (min (u0.length : Int) 6), .int .i64 1, .int .i64 (-1), .bool false], ud32, ud33, ud34, .row b81 [.slice ao67 (bcloneS u0).length cap68, .int .i64 (min (u0.length : Int) 6), .int .i64 1, .int .i64 (-1), .bool false] 53, .own (tyInt .u8) 5 ao67 cap68 (bcloneS u0), .own (tySl (tyInt .u8)) 36 ao22 cap23 ((psplitS u0).1), .row b6 [.slice none 0 0, .int .i64 0, .int .i64 0, .int .i64 0, .bool false] 53, hle227, hF237.region (by kernel_rfl) (by kernel_rfl), hMx.perm (List.Perm.refl _), (nt hx5), (nt hx6), kf, cu32, cu33, cu34, rfl, rfl, rfl, kf, (nt hx4), cf0, cf1⟩
    · -- 1: move
     obtain rfl := Option.some.inj hi
     have hx1 := hSi
     have hx2 := negF hcl 2 1 (by kernel_rfl) hx1
     have hx3 := negF hcl 3 2 (by kernel_rfl) hx2
     have hx5 := negF hcl 5 1 (by kernel_rfl) hx1
     have hx6 := negF hcl 6 1 (by kernel_rfl) hx1
     obtain rfl := cr0_0
     obtain rfl := cr1_0
     obtain rfl := cr2_0
     refine hG (any_step ?_); clear hG G; intro A J hJ
     have hle0 := Fz.le.trans hle0 hle227
     have hs239 := hs3.mono hle227
     refine s1 hFx 32 (.slice ao22 ((psplitS u0).1).length cap23) ?_; intro a240 hF241; clear hFx
     refine nl (qnI (hJ _ _ ?_)); clear hJ J
     exact ⟨g207, ao214, cap215, ud3, ud4, ud31, .slice ao22 ((psplitS u0).1).length cap23, ud33, ud34, .row b81 [.slice ao67 (bcloneS u0).length cap68, .int .i64 (min (u0.length : Int) 6), .int .i64 1, .int .i64 (-1), .bool false] 53, .own (tyInt .u8) 5 ao67 cap68 (bcloneS u0), .own (tySl (tyInt .u8)) 36 ao22 cap23 ((psplitS u0).1), rh3, hle227, hF241.region (by kernel_rfl) (by kernel_rfl), hMx.perm (List.Perm.refl _), (nt hx5), (nt hx6), cu31, kf, (nt hx2), (nt hx3), rfl, rfl, rfl, cr3_0, cr3_1, (nt hx2), (nt hx3)⟩
    · -- 2: indexAddr
     obtain rfl := Option.some.inj hi
     have hx1 := hpre 1 (by kernel_rfl)
     have hx2 := hSi
     have hx3 := negF hcl 3 2 (by kernel_rfl) hx2
     have hx5 := negF hcl 5 2 (by kernel_rfl) hx2
     have hx6 := negF hcl 6 2 (by kernel_rfl) hx2
     obtain rfl := cu32 hx1
     obtain rfl := cr0_0
     obtain rfl := cr1_0
     obtain rfl := cr2_0
     refine hG (any_step ?_); clear hG G; intro A J hJ
     have hle0 := Fz.le.trans hle0 hle227
     have hs243 := hs3.mono hle227
     refine ixo hFx hMx 2 (T := (tySl (tyInt .u8))) (xs := (psplitS u0).1) (0 : Int) hcd2_0 (k := .i64) (e := 36) (bytes := 24) (nog rfl _) rfl (by kernel_rfl) rfl (by kernel_rfl) (by kernel_rfl) rfl (by kernel_rfl) ?_; intro g244 a246 hg245 hF247; clear hFx
     refine nl (qnI (hJ _ _ ?_)); clear hJ J
     exact ⟨g244, ao214, cap215, ud3, ud4, ud31, .slice ao22 ((psplitS u0).1).length cap23, .pointer (some ⟨g244, (0 : Int).toNat * 1, none⟩), ud34, .row b81 [.slice ao67 (bcloneS u0).length cap68, .int .i64 (min (u0.length : Int) 6), .int .i64 1, .int .i64 (-1), .bool false] 53, .own (tyInt .u8) 5 ao67 cap68 (bcloneS u0), .own (tySl (tyInt .u8)) 36 ao22 cap23 ((psplitS u0).1), rh3, hle227, hF247.region (by kernel_rfl) (by kernel_rfl), hMx.perm (List.Perm.refl _), (nt hx5), (nt hx6), cu31, kf, kf, (nt hx3), rfl, rfl, rfl, cr3_0, cr3_1, (fun _ => hg245), (nt hx3)⟩
    · -- 3: load
     obtain rfl := Option.some.inj hi
     have hx2 := hpre 2 (by kernel_rfl)
     have hx1 := hcl 2 1 (by kernel_rfl) hx2
     have hx3 := hSi
     have hx5 := negF hcl 5 3 (by kernel_rfl) hx3
     have hx6 := negF hcl 6 3 (by kernel_rfl) hx3
     obtain rfl := cu32 hx1
     obtain rfl := cu33 hx2
     obtain rfl := cr0_0
     obtain rfl := cr1_0
     obtain rfl := cr2_0
     refine hG (any_step ?_); clear hG G; intro A J hJ
     have hle0 := Fz.le.trans hle0 hle227
     have hs249 := hs3.mono hle227
     have hs250 := cf0 hx2
     obtain ⟨cs251, hT252, hcl253⟩ := own_elx hMx 2 (T := (tySl (tyInt .u8))) (xs := (psplitS u0).1) rfl hs250 (0 : Int).toNat hqd3_0
     obtain ⟨ao254, cap255, rfl, hs256⟩ := hT252
     refine lc1 hFx 34 (.slice ao254 qd3_0.length cap255) (hcl253 0 _ rfl) rfl ?_; intro a257 hF258; clear hFx
     refine nl (qnI (hJ _ _ ?_)); clear hJ J
     exact ⟨g207, ao254, cap255, ud3, ud4, ud31, .slice ao22 ((psplitS u0).1).length cap23, .pointer (some ⟨g207, (0 : Int).toNat * 1, none⟩), .slice ao254 qd3_0.length cap255, .row b81 [.slice ao67 (bcloneS u0).length cap68, .int .i64 (min (u0.length : Int) 6), .int .i64 1, .int .i64 (-1), .bool false] 53, .own (tyInt .u8) 5 ao67 cap68 (bcloneS u0), .own (tySl (tyInt .u8)) 36 ao22 cap23 ((psplitS u0).1), rh3, hle227, hF258.region (by kernel_rfl) (by kernel_rfl), hMx.perm (List.Perm.refl _), (nt hx5), (nt hx6), cu31, kf, kf, kf, rfl, rfl, rfl, cr3_0, cr3_1, (fun _ => hs250), (fun _ => hs256)⟩
    · -- 4: store
     obtain rfl := Option.some.inj hi
     have hx0 := hpre 0 (by kernel_rfl)
     have hx4 := hSi
     have hx5 := negF hcl 5 4 (by kernel_rfl) hx4
     have hx6 := negF hcl 6 4 (by kernel_rfl) hx4
     obtain rfl := cu31 hx0
     obtain rfl := cr0_0
     obtain rfl := cr1_0
     obtain rfl := cr2_0
     obtain rfl := cr3_0 hx4
     refine hG (any_step ?_); clear hG G; intro A J hJ
     have hle0 := Fz.le.trans hle0 hle227
     have hs260 := hs3.mono hle227
     refine sr hFx hMx 3 [.slice ao67 (bcloneS u0).length cap68, .int .i64 (min (u0.length : Int) 6), .int .i64 1, .int .i64 (-1), .bool false] (b := b6) (off := 0) (cs := [.slice none 0 0, .int .i64 0, .int .i64 0, .int .i64 0, .bool false]) (ty := 53) (u := .agg #[.slice ao67 (bcloneS u0).length cap68, .int .i64 (min (u0.length : Int) 6), .int .i64 1, .int .i64 (-1), .bool false]) (nog rfl _) rfl rfl (by kernel_rfl) (by kernel_rfl) (by kernel_rfl) (by kernel_rfl) (by kernel_rfl) (by kernel_rfl) (by kernel_rfl) ?_; intro wd261 hM262; clear hMx
     refine nl (qnI (hJ _ _ ?_)); clear hJ J
     exact ⟨g207, ao214, cap215, ud3, ud4, .agg #[.slice ao67 (bcloneS u0).length cap68, .int .i64 (min (u0.length : Int) 6), .int .i64 1, .int .i64 (-1), .bool false], ud32, ud33, ud34, .row b81 [.slice ao67 (bcloneS u0).length cap68, .int .i64 (min (u0.length : Int) 6), .int .i64 1, .int .i64 (-1), .bool false] 53, .own (tyInt .u8) 5 ao67 cap68 (bcloneS u0), .own (tySl (tyInt .u8)) 36 ao22 cap23 ((psplitS u0).1), .row b6 [.slice ao67 (bcloneS u0).length cap68, .int .i64 (min (u0.length : Int) 6), .int .i64 1, .int .i64 (-1), .bool false] 53, hle227, hFx.region (by kernel_rfl) (by kernel_rfl), hM262.perm (List.Perm.refl _), (nt hx5), (nt hx6), kf, cu32, cu33, cu34, rfl, rfl, rfl, nu, kf, cf0, cf1⟩
    · -- 5: assign
     obtain rfl := Option.some.inj hi
     have hx4 := hpre 4 (by kernel_rfl)
     have hx3 := hpre 3 (by kernel_rfl)
     have hx2 := hpre 2 (by kernel_rfl)
     have hx1 := hpre 1 (by kernel_rfl)
     have hx0 := hpre 0 (by kernel_rfl)
     have hx5 := hSi
     have hx6 := negF hcl 6 5 (by kernel_rfl) hx5
     obtain rfl := cu31 hx0
     obtain rfl := cu32 hx1
     obtain rfl := cu33 hx2
     obtain rfl := cu34 hx3
     obtain rfl := cr0_0
     obtain rfl := cr1_0
     obtain rfl := cr2_0
     obtain rfl := cr3_1 hx4
     refine hG (any_step ?_); clear hG G; intro A J hJ
     have hle0 := Fz.le.trans hle0 hle227
     have hs264 := hs3.mono hle227
     have hs265 := cf0 hx2
     have hs266 := cf1 hx3
     refine s1 hFx 3 (.slice ao214 qd3_0.length cap215) ?_; intro a267 hF268; clear hFx
     refine nl (qnI (hJ _ _ ?_)); clear hJ J
     exact ⟨g207, ao214, cap215, .slice ao214 qd3_0.length cap215, ud4, .agg #[.slice ao67 (bcloneS u0).length cap68, .int .i64 (min (u0.length : Int) 6), .int .i64 1, .int .i64 (-1), .bool false], .slice ao22 ((psplitS u0).1).length cap23, .pointer (some ⟨g207, (0 : Int).toNat * 1, none⟩), .slice ao214 qd3_0.length cap215, .row b81 [.slice ao67 (bcloneS u0).length cap68, .int .i64 (min (u0.length : Int) 6), .int .i64 1, .int .i64 (-1), .bool false] 53, .own (tyInt .u8) 5 ao67 cap68 (bcloneS u0), .own (tySl (tyInt .u8)) 36 ao22 cap23 ((psplitS u0).1), .row b6 [.slice ao67 (bcloneS u0).length cap68, .int .i64 (min (u0.length : Int) 6), .int .i64 1, .int .i64 (-1), .bool false] 53, hle227, hF268.region (by kernel_rfl) (by kernel_rfl), hMx.perm (List.Perm.refl _), kf, (nt hx6), kf, kf, kf, kf, rfl, rfl, rfl, (tn hx4), kf, (fun _ => hs265), (fun _ => hs266)⟩
    · -- 6: assign
     obtain rfl := Option.some.inj hi
     have hx5 := hpre 5 (by kernel_rfl)
     have hx4 := hpre 4 (by kernel_rfl)
     have hx3 := hpre 3 (by kernel_rfl)
     have hx2 := hpre 2 (by kernel_rfl)
     have hx1 := hpre 1 (by kernel_rfl)
     have hx0 := hpre 0 (by kernel_rfl)
     have hx6 := hSi
     obtain rfl := cu3 hx5
     obtain rfl := cu31 hx0
     obtain rfl := cu32 hx1
     obtain rfl := cu33 hx2
     obtain rfl := cu34 hx3
     obtain rfl := cr0_0
     obtain rfl := cr1_0
     obtain rfl := cr2_0
     obtain rfl := cr3_1 hx4
     refine hG (any_step ?_); clear hG G; intro A J hJ
     have hle0 := Fz.le.trans hle0 hle227
     have hs270 := hs3.mono hle227
     have hs271 := cf0 hx2
     have hs272 := cf1 hx3
     refine s1 hFx 4 (.int .i64 0) ?_; intro a273 hF274; clear hFx
     refine nl (qnI (hJ _ _ ?_)); clear hJ J
     exact ⟨g207, ao214, cap215, .slice ao214 qd3_0.length cap215, .int .i64 0, .agg #[.slice ao67 (bcloneS u0).length cap68, .int .i64 (min (u0.length : Int) 6), .int .i64 1, .int .i64 (-1), .bool false], .slice ao22 ((psplitS u0).1).length cap23, .pointer (some ⟨g207, (0 : Int).toNat * 1, none⟩), .slice ao214 qd3_0.length cap215, .row b81 [.slice ao67 (bcloneS u0).length cap68, .int .i64 (min (u0.length : Int) 6), .int .i64 1, .int .i64 (-1), .bool false] 53, .own (tyInt .u8) 5 ao67 cap68 (bcloneS u0), .own (tySl (tyInt .u8)) 36 ao22 cap23 ((psplitS u0).1), .row b6 [.slice ao67 (bcloneS u0).length cap68, .int .i64 (min (u0.length : Int) 6), .int .i64 1, .int .i64 (-1), .bool false] 53, hle227, hF274.region (by kernel_rfl) (by kernel_rfl), hMx.perm (List.Perm.refl _), kf, kf, kf, kf, kf, kf, rfl, rfl, rfl, (tn hx4), kf, (fun _ => hs271), (fun _ => hs272)⟩
   case hE =>
    intro S hS a276 wd277 hI; refine hid ?_; intro G hG; obtain ⟨g207, hI⟩ := hI; obtain ⟨ao214, hI⟩ := hI; obtain ⟨cap215, hI⟩ := hI; obtain ⟨ud3, hI⟩ := hI; obtain ⟨ud4, hI⟩ := hI; obtain ⟨ud31, hI⟩ := hI; obtain ⟨ud32, hI⟩ := hI; obtain ⟨ud33, hI⟩ := hI; obtain ⟨ud34, hI⟩ := hI; obtain ⟨rh0, hI⟩ := hI; obtain ⟨rh1, hI⟩ := hI; obtain ⟨rh2, hI⟩ := hI; obtain ⟨rh3, hI⟩ := hI; obtain ⟨hle227, hI⟩ := hI; obtain ⟨hFx, hI⟩ := hI; obtain ⟨hMx, hI⟩ := hI; obtain ⟨cu3, hI⟩ := hI; obtain ⟨cu4, hI⟩ := hI; obtain ⟨cu31, hI⟩ := hI; obtain ⟨cu32, hI⟩ := hI; obtain ⟨cu33, hI⟩ := hI; obtain ⟨cu34, hI⟩ := hI; obtain ⟨cr0_0, hI⟩ := hI; obtain ⟨cr1_0, hI⟩ := hI; obtain ⟨cr2_0, hI⟩ := hI; obtain ⟨cr3_0, hI⟩ := hI; obtain ⟨cr3_1, hI⟩ := hI; obtain ⟨cf0, hI⟩ := hI; have cf1 := hI; clear hI; refine hG ?_; clear hG G
    obtain rfl := cu3 (hS 5 (by decide))
    obtain rfl := cu4 (hS 6 (by decide))
    obtain rfl := cu31 (hS 0 (by decide))
    obtain rfl := cu32 (hS 1 (by decide))
    obtain rfl := cu33 (hS 2 (by decide))
    obtain rfl := cu34 (hS 3 (by decide))
    obtain rfl := cr0_0
    obtain rfl := cr1_0
    obtain rfl := cr2_0
    obtain rfl := cr3_1 (hS 4 (by decide))
    have hle0 := Fz.le.trans hle0 hle227
    have hs278 := hs3.mono hle227
    have hs279 := cf0 (hS 2 (by decide))
    have hs280 := cf1 (hS 3 (by decide))
    refine thn ?_
    refine wp_ret ?_
    obtain ⟨Z281, hle282, hM283, hs284⟩ := hMx.freeze 1 rfl
    replace hs278 := hs278.mono hle282
    replace hs279 := hs279.mono hle282
    replace hs280 := hs280.mono hle282
    replace hle0 := Fz.le.trans hle0 hle282
    have hM285 : Mem w.heap.size [] w Z [.row b81 [.slice ao67 (bcloneS u0).length cap68, .int .i64 (min (u0.length : Int) 6), .int .i64 1, .int .i64 (-1), .bool false] 53, .own (tySl (tyInt .u8)) 36 ao22 cap23 ((psplitS u0).1), .row b6 [.slice ao67 (bcloneS u0).length cap68, .int .i64 (min (u0.length : Int) 6), .int .i64 1, .int .i64 (-1), .bool false] 53] Z281 wd277 := hM283; clear hM283
    refine rt (fn := Try.f43) (v := .tuple #[.agg #[.slice ao67 (bcloneS u0).length cap68, .int .i64 (min (u0.length : Int) 6), .int .i64 1, .int .i64 (-1), .bool false], .slice ao214 qd3_0.length cap215, .int .i64 0]) hFx (re3c hFx (fn := Try.f43) rfl (ad := ⟨b6, 0, none⟩) (by kernel_rfl) (loadVar_run hM285 2 (b := b6) (k := 5) (vs := [.slice ao67 (bcloneS u0).length cap68, .int .i64 (min (u0.length : Int) 6), .int .i64 1, .int .i64 (-1), .bool false]) (ty := 53) rfl (by kernel_rfl) (by kernel_rfl)) (by kernel_rfl) (by kernel_rfl)) ?_
    exact ⟨((⟨(bcloneS u0), min (u0.length : Int) 6, 1, -1, false⟩ : Sender), qd3_0, 0), ao67, cap68, ao214, cap215, Z281, rfl, hp226, hs284, hs280, hM285.keep (List.Sublist.cons _ (List.Sublist.cons _ (List.Sublist.cons _ (List.Sublist.slnil))))⟩

set_option maxRecDepth 100000 in
theorem pget_walk (u0 : Getter) (u1 : List Int) (ao1 : Option Addr) (cap2 : Nat) (ao4 : Option Addr) (cap5 : Nat) (Z : Fz) (w : World) (hs3 : SlR (tyInt .u8) Z ao1 cap2 u0.Data) (hs6 : SlR (tyInt .u8) Z ao4 cap5 u1) (hZ : Z.on w) {K : (Getter × (List Int) × (List Int) × Int × Bool × Bool) → Prop} (hp : pget_vc u0 u1 K) : Calls Try.prog 41 #[.agg #[.int .i64 u0.Want, .slice ao1 u0.Data.length cap2, .int .i64 u0.Next, .int .i64 u0.Block, .int .i64 u0.Left], .slice ao4 u1.length cap5] w fun e w' => ∃ (r : Getter × (List Int) × (List Int) × Int × Bool × Bool) (ao1001 : Option Addr) (cap1002 : Nat) (ao1004 : Option Addr) (cap1005 : Nat) (ao1007 : Option Addr) (cap1008 : Nat) (Z' : Fz), e = .returned (.tuple #[.agg #[.int .i64 r.1.Want, .slice ao1001 r.1.Data.length cap1002, .int .i64 r.1.Next, .int .i64 r.1.Block, .int .i64 r.1.Left], .slice ao1004 r.2.1.length cap1005, .slice ao1007 r.2.2.1.length cap1008, .int .i64 r.2.2.2.1]) ∧ K r ∧ SlR (tyInt .u8) Z' ao1001 cap1002 r.1.Data ∧ (ao1004.isNone = r.2.2.2.2.1) ∧ (ao1007.isNone = r.2.2.2.2.2) ∧ Mem w.heap.size [] w Z [.own (tyInt .u8) 5 ao1004 cap1005 r.2.1, .own (tyInt .u8) 5 ao1007 cap1008 r.2.2.1] Z' w' := by
 refine enter0 Try.func41 rfl rfl (by kernel_rfl) ?_; intro a0 hF0; have hM0 := Mem.start w Z hZ; have hle0 := Fz.le.refl Z
 have hp7 := hp (hs3.small); clear hp
 have hp8 := hp7 (hs6.small); clear hp7
 refine sqH ?_; intro hQ9Q hQ9
 refine sn hF0 hM0 (fun b => .pointer (some ⟨b, 0, none⟩)) [.int .i64 u0.Want, .slice ao1 u0.Data.length cap2, .int .i64 u0.Next, .int .i64 u0.Block, .int .i64 u0.Left] 71 (nog rfl _) rfl (by kernel_rfl) (by kernel_rfl) ?_; intro b10 a11 wd13 hF12 hM14; clear hF0 hM0
 refine sn hF12 hM14 (fun b => .pointer (some ⟨b, 0, none⟩)) [.int .i64 0, .slice none 0 0, .int .i64 0, .int .i64 0, .int .i64 0] 71 (nog rfl _) rfl (by kernel_rfl) (by kernel_rfl) ?_; intro b15 a16 wd18 hF17 hM19; clear hF12 hM14
 refine s1 hF17 5 (.slice none 0 0) ?_; intro a20 hF21; clear hF17
 refine s1 hF21 6 (.slice none 0 0) ?_; intro a22 hF23; clear hF21
 refine s1 hF23 7 (.int .i64 0) ?_; intro a24 hF25; clear hF23
 refine nlH (hQ9 _ _ ?_); clear hQ9 hQ9Q
 refine wp_seq ?_
 refine sqH ?_; intro hQ26Q hQ26
 refine l2 hF25 hM19 14 1 0 5 [.int .i64 u0.Want, .slice ao1 u0.Data.length cap2, .int .i64 u0.Next, .int .i64 u0.Block, .int .i64 u0.Left] rfl rfl ?_; intro a27 hF28; clear hF25
 refine fcl hF28 hM19 (.int .i64 (pcheckg u0)) 42 #[.agg #[.int .i64 u0.Want, .slice ao1 u0.Data.length cap2, .int .i64 u0.Next, .int .i64 u0.Block, .int .i64 u0.Left]] (nog rfl _) rfl (by kernel_rfl) (fun _ => by kernel_rfl) (pcheckg_fun u0 ao1 cap2 _ _ hs3 hM19.fz) ?_; intro a29 wd31 hF30 hM32; clear hF28 hM19
 refine s1 hF30 8 (.int .i64 (pcheckg u0)) ?_; intro a33 hF34; clear hF30
 refine nlH (hQ26 _ _ ?_); clear hQ26 hQ26Q
 refine sqH ?_; intro hQ35Q hQ35
 refine s1 hF34 16 (.int .i64 (pcheckg u0)) ?_; intro a36 hF37; clear hF34
 refine s1 hF37 17 (.bool ((pcheckg u0) != 0)) ?_; intro a38 hF39; clear hF37
 refine nlH (hQ35 _ _ ?_); clear hQ35 hQ35Q
 refine cd hF39 (t := (pcheckg u0) != 0) (by kernel_rfl) (fun hb40 => ?_) (fun hb40 => ?_)
 · -- yes
  have hp41 := hp8.1 hb40; clear hp8
  refine sqH ?_; intro hQ42Q hQ42
  refine s1 hF39 18 (.agg #[.int .i64 0, .slice none 0 0, .int .i64 0, .int .i64 0, .int .i64 0]) ?_; intro a43 hF44; clear hF39
  refine s1 hF44 19 (.int .i64 (pcheckg u0)) ?_; intro a45 hF46; clear hF44
  refine sr hF46 hM32 0 [.int .i64 0, .slice none 0 0, .int .i64 0, .int .i64 0, .int .i64 0] (b := b15) (off := 0) (cs := [.int .i64 0, .slice none 0 0, .int .i64 0, .int .i64 0, .int .i64 0]) (ty := 71) (u := .agg #[.int .i64 0, .slice none 0 0, .int .i64 0, .int .i64 0, .int .i64 0]) (nog rfl _) rfl rfl (by kernel_rfl) (by kernel_rfl) (by kernel_rfl) (by kernel_rfl) (by kernel_rfl) (by kernel_rfl) (by kernel_rfl) ?_; intro wd47 hM48; clear hM32
  refine s1 hF46 5 (.slice none 0 0) ?_; intro a49 hF50; clear hF46
  refine s1 hF50 6 (.slice none 0 0) ?_; intro a51 hF52; clear hF50
  refine s1 hF52 7 (.int .i64 (pcheckg u0)) ?_; intro a53 hF54; clear hF52
  have hM55 : Mem w.heap.size [] w Z [.row b15 [.int .i64 0, .slice none 0 0, .int .i64 0, .int .i64 0, .int .i64 0] 71, .row b10 [.int .i64 u0.Want, .slice ao1 u0.Data.length cap2, .int .i64 u0.Next, .int .i64 u0.Block, .int .i64 u0.Left] 71] Z wd47 := hM48; clear hM48
  refine nlH (hQ42 _ _ ?_); clear hQ42 hQ42Q
  refine wp_ret ?_
  refine thr ?_
  have hM56 : Mem w.heap.size [] w Z [.own (tyInt .u8) 5 none 0 ([] : List Int), .row b15 [.int .i64 0, .slice none 0 0, .int .i64 0, .int .i64 0, .int .i64 0] 71, .row b10 [.int .i64 u0.Want, .slice ao1 u0.Data.length cap2, .int .i64 u0.Next, .int .i64 u0.Block, .int .i64 u0.Left] 71] Z wd47 := hM55.addNil (tyInt .u8) 5 (by decide); clear hM55
  have hM57 : Mem w.heap.size [] w Z [.own (tyInt .u8) 5 none 0 ([] : List Int), .own (tyInt .u8) 5 none 0 ([] : List Int), .row b15 [.int .i64 0, .slice none 0 0, .int .i64 0, .int .i64 0, .int .i64 0] 71, .row b10 [.int .i64 u0.Want, .slice ao1 u0.Data.length cap2, .int .i64 u0.Next, .int .i64 u0.Block, .int .i64 u0.Left] 71] Z wd47 := hM56.addNil (tyInt .u8) 5 (by decide); clear hM56
  refine rt (fn := Try.f41) (v := .tuple #[.agg #[.int .i64 0, .slice none 0 0, .int .i64 0, .int .i64 0, .int .i64 0], .slice none ([] : List Int).length 0, .slice none ([] : List Int).length 0, .int .i64 (pcheckg u0)]) hF54 (re4c hF54 (fn := Try.f41) rfl (ad := ⟨b15, 0, none⟩) (by kernel_rfl) (loadVar_run hM57 2 (b := b15) (k := 5) (vs := [.int .i64 0, .slice none 0 0, .int .i64 0, .int .i64 0, .int .i64 0]) (ty := 71) rfl (by kernel_rfl) (by kernel_rfl)) (by kernel_rfl) (by kernel_rfl) (by kernel_rfl)) ?_
  exact ⟨((⟨0, [], 0, 0, 0⟩ : Getter), ([] : List Int), ([] : List Int), (pcheckg u0), true, true), none, 0, none, 0, none, 0, Z, rfl, hp41, (SlR.nil _ _), rfl, rfl, hM57.keep (List.Sublist.cons_cons _ (List.Sublist.cons_cons _ (List.Sublist.cons _ (List.Sublist.cons _ (List.Sublist.slnil)))))⟩
 · -- no
  have hp58 := hp8.2 hb40; clear hp8
  refine wp_skip ?_
  refine thn ?_
  refine wp_seq ?_
  refine sqH ?_; intro hQ59Q hQ59
  refine s1 hF39 20 (.slice ao4 u1.length cap5) ?_; intro a60 hF61; clear hF39
  refine s1 hF61 21 (.int .i64 (u1.length : Int)) ?_; intro a62 hF63; clear hF61
  refine s1 hF63 22 (.bool ((u1.length : Int) == 0)) ?_; intro a64 hF65; clear hF63
  refine nlH (hQ59 _ _ ?_); clear hQ59 hQ59Q
  refine cd hF65 (t := (u1.length : Int) == 0) (by kernel_rfl) (fun hb66 => ?_) (fun hb66 => ?_)
  · -- yes
   have hp67 := hp58.1 hb66; clear hp58
   refine sqH ?_; intro hQ68Q hQ68
   refine s1 hF65 23 (.agg #[.int .i64 0, .slice none 0 0, .int .i64 0, .int .i64 0, .int .i64 0]) ?_; intro a69 hF70; clear hF65
   refine sr hF70 hM32 0 [.int .i64 0, .slice none 0 0, .int .i64 0, .int .i64 0, .int .i64 0] (b := b15) (off := 0) (cs := [.int .i64 0, .slice none 0 0, .int .i64 0, .int .i64 0, .int .i64 0]) (ty := 71) (u := .agg #[.int .i64 0, .slice none 0 0, .int .i64 0, .int .i64 0, .int .i64 0]) (nog rfl _) rfl rfl (by kernel_rfl) (by kernel_rfl) (by kernel_rfl) (by kernel_rfl) (by kernel_rfl) (by kernel_rfl) (by kernel_rfl) ?_; intro wd71 hM72; clear hM32
   refine s1 hF70 5 (.slice none 0 0) ?_; intro a73 hF74; clear hF70
   refine s1 hF74 6 (.slice none 0 0) ?_; intro a75 hF76; clear hF74
   refine s1 hF76 7 (.int .i64 7) ?_; intro a77 hF78; clear hF76
   have hM79 : Mem w.heap.size [] w Z [.row b15 [.int .i64 0, .slice none 0 0, .int .i64 0, .int .i64 0, .int .i64 0] 71, .row b10 [.int .i64 u0.Want, .slice ao1 u0.Data.length cap2, .int .i64 u0.Next, .int .i64 u0.Block, .int .i64 u0.Left] 71] Z wd71 := hM72; clear hM72
   refine nlH (hQ68 _ _ ?_); clear hQ68 hQ68Q
   refine wp_ret ?_
   refine thr ?_
   have hM80 : Mem w.heap.size [] w Z [.own (tyInt .u8) 5 none 0 ([] : List Int), .row b15 [.int .i64 0, .slice none 0 0, .int .i64 0, .int .i64 0, .int .i64 0] 71, .row b10 [.int .i64 u0.Want, .slice ao1 u0.Data.length cap2, .int .i64 u0.Next, .int .i64 u0.Block, .int .i64 u0.Left] 71] Z wd71 := hM79.addNil (tyInt .u8) 5 (by decide); clear hM79
   have hM81 : Mem w.heap.size [] w Z [.own (tyInt .u8) 5 none 0 ([] : List Int), .own (tyInt .u8) 5 none 0 ([] : List Int), .row b15 [.int .i64 0, .slice none 0 0, .int .i64 0, .int .i64 0, .int .i64 0] 71, .row b10 [.int .i64 u0.Want, .slice ao1 u0.Data.length cap2, .int .i64 u0.Next, .int .i64 u0.Block, .int .i64 u0.Left] 71] Z wd71 := hM80.addNil (tyInt .u8) 5 (by decide); clear hM80
   refine rt (fn := Try.f41) (v := .tuple #[.agg #[.int .i64 0, .slice none 0 0, .int .i64 0, .int .i64 0, .int .i64 0], .slice none ([] : List Int).length 0, .slice none ([] : List Int).length 0, .int .i64 7]) hF78 (re4c hF78 (fn := Try.f41) rfl (ad := ⟨b15, 0, none⟩) (by kernel_rfl) (loadVar_run hM81 2 (b := b15) (k := 5) (vs := [.int .i64 0, .slice none 0 0, .int .i64 0, .int .i64 0, .int .i64 0]) (ty := 71) rfl (by kernel_rfl) (by kernel_rfl)) (by kernel_rfl) (by kernel_rfl) (by kernel_rfl)) ?_
   exact ⟨((⟨0, [], 0, 0, 0⟩ : Getter), ([] : List Int), ([] : List Int), 7, true, true), none, 0, none, 0, none, 0, Z, rfl, hp67, (SlR.nil _ _), rfl, rfl, hM81.keep (List.Sublist.cons_cons _ (List.Sublist.cons_cons _ (List.Sublist.cons _ (List.Sublist.cons _ (List.Sublist.slnil)))))⟩
  · -- no
   have hp82 := hp58.2 hb66; clear hp58
   refine wp_skip ?_
   refine thn ?_
   refine wp_seq ?_
   refine sqH ?_; intro hQ83Q hQ83
   refine s1 hF65 24 (.slice ao4 u1.length cap5) ?_; intro a84 hF85; clear hF65
   refine s1 hF85 25 (.int .i64 (u1.length : Int)) ?_; intro a86 hF87; clear hF85
   refine s1 hF87 26 (.bool (decide ((u1.length : Int) > 8))) ?_; intro a88 hF89; clear hF87
   refine nlH (hQ83 _ _ ?_); clear hQ83 hQ83Q
   refine cd hF89 (t := decide ((u1.length : Int) > 8)) (by kernel_rfl) (fun hb90 => ?_) (fun hb90 => ?_)
   · -- yes
    have hp91 := hp82.1 hb90; clear hp82
    have hF92 : Fr 157 [] [⟨4, [], .pointer (some ⟨b15, 0, none⟩)⟩] a88 := hF89.region (by kernel_rfl) (by kernel_rfl); clear hF89
    refine sqH ?_; intro hQ93Q hQ93
    refine s1 hF92 27 (.agg #[.int .i64 0, .slice none 0 0, .int .i64 0, .int .i64 0, .int .i64 0]) ?_; intro a94 hF95; clear hF92
    refine sr hF95 hM32 0 [.int .i64 0, .slice none 0 0, .int .i64 0, .int .i64 0, .int .i64 0] (b := b15) (off := 0) (cs := [.int .i64 0, .slice none 0 0, .int .i64 0, .int .i64 0, .int .i64 0]) (ty := 71) (u := .agg #[.int .i64 0, .slice none 0 0, .int .i64 0, .int .i64 0, .int .i64 0]) (nog rfl _) rfl rfl (by kernel_rfl) (by kernel_rfl) (by kernel_rfl) (by kernel_rfl) (by kernel_rfl) (by kernel_rfl) (by kernel_rfl) ?_; intro wd96 hM97; clear hM32
    refine s1 hF95 5 (.slice none 0 0) ?_; intro a98 hF99; clear hF95
    refine s1 hF99 6 (.slice none 0 0) ?_; intro a100 hF101; clear hF99
    refine s1 hF101 7 (.int .i64 2) ?_; intro a102 hF103; clear hF101
    have hM104 : Mem w.heap.size [] w Z [.row b15 [.int .i64 0, .slice none 0 0, .int .i64 0, .int .i64 0, .int .i64 0] 71, .row b10 [.int .i64 u0.Want, .slice ao1 u0.Data.length cap2, .int .i64 u0.Next, .int .i64 u0.Block, .int .i64 u0.Left] 71] Z wd96 := hM97; clear hM97
    refine nlH (hQ93 _ _ ?_); clear hQ93 hQ93Q
    refine wp_ret ?_
    refine thr ?_
    have hM105 : Mem w.heap.size [] w Z [.own (tyInt .u8) 5 none 0 ([] : List Int), .row b15 [.int .i64 0, .slice none 0 0, .int .i64 0, .int .i64 0, .int .i64 0] 71, .row b10 [.int .i64 u0.Want, .slice ao1 u0.Data.length cap2, .int .i64 u0.Next, .int .i64 u0.Block, .int .i64 u0.Left] 71] Z wd96 := hM104.addNil (tyInt .u8) 5 (by decide); clear hM104
    have hM106 : Mem w.heap.size [] w Z [.own (tyInt .u8) 5 none 0 ([] : List Int), .own (tyInt .u8) 5 none 0 ([] : List Int), .row b15 [.int .i64 0, .slice none 0 0, .int .i64 0, .int .i64 0, .int .i64 0] 71, .row b10 [.int .i64 u0.Want, .slice ao1 u0.Data.length cap2, .int .i64 u0.Next, .int .i64 u0.Block, .int .i64 u0.Left] 71] Z wd96 := hM105.addNil (tyInt .u8) 5 (by decide); clear hM105
    refine rt (fn := Try.f41) (v := .tuple #[.agg #[.int .i64 0, .slice none 0 0, .int .i64 0, .int .i64 0, .int .i64 0], .slice none ([] : List Int).length 0, .slice none ([] : List Int).length 0, .int .i64 2]) hF103 (re4c hF103 (fn := Try.f41) rfl (ad := ⟨b15, 0, none⟩) (by kernel_rfl) (loadVar_run hM106 2 (b := b15) (k := 5) (vs := [.int .i64 0, .slice none 0 0, .int .i64 0, .int .i64 0, .int .i64 0]) (ty := 71) rfl (by kernel_rfl) (by kernel_rfl)) (by kernel_rfl) (by kernel_rfl) (by kernel_rfl)) ?_
    exact ⟨((⟨0, [], 0, 0, 0⟩ : Getter), ([] : List Int), ([] : List Int), 2, true, true), none, 0, none, 0, none, 0, Z, rfl, hp91, (SlR.nil _ _), rfl, rfl, hM106.keep (List.Sublist.cons_cons _ (List.Sublist.cons_cons _ (List.Sublist.cons _ (List.Sublist.cons _ (List.Sublist.slnil)))))⟩
   · -- no
    have hp107 := hp82.2 hb90; clear hp82
    refine wp_skip ?_
    refine thn ?_
    have hF108 : Fr 157 [] [⟨1, [], .slice ao4 u1.length cap5⟩, ⟨2, [], .pointer (some ⟨b10, 0, none⟩)⟩, ⟨4, [], .pointer (some ⟨b15, 0, none⟩)⟩] a88 := hF89.region (by kernel_rfl) (by kernel_rfl); clear hF89
    refine sqH ?_; intro hQ109Q hQ109
    refine s1 hF108 28 (.pointer (some ⟨b10, 3, none⟩)) ?_; intro a110 hF111; clear hF108
    refine l1 hF111 hM32 29 1 3 (.int .i64 u0.Block) rfl rfl ?_; intro a112 hF113; clear hF111
    refine s1 hF113 30 (.agg #[.int .i64 0, .slice none 0 0, .int .i64 0, .int .i64 u0.Block, .int .i64 0]) ?_; intro a114 hF115; clear hF113
    refine sn hF115 hM32 (fun b => .pointer (some ⟨b, 0, none⟩)) [.int .i64 0, .slice none 0 0, .int .i64 0, .int .i64 0, .int .i64 0] 71 (nog rfl _) rfl (by kernel_rfl) (by kernel_rfl) ?_; intro b116 a117 wd119 hF118 hM120; clear hF115 hM32
    refine sr hF118 hM120 0 [.int .i64 0, .slice none 0 0, .int .i64 0, .int .i64 u0.Block, .int .i64 0] (b := b116) (off := 0) (cs := [.int .i64 0, .slice none 0 0, .int .i64 0, .int .i64 0, .int .i64 0]) (ty := 71) (u := .agg #[.int .i64 0, .slice none 0 0, .int .i64 0, .int .i64 u0.Block, .int .i64 0]) (nog rfl _) rfl rfl (by kernel_rfl) (by kernel_rfl) (by kernel_rfl) (by kernel_rfl) (by kernel_rfl) (by kernel_rfl) (by kernel_rfl) ?_; intro wd121 hM122; clear hM120
    have hM123 : Mem w.heap.size [] w Z [.row b116 [.int .i64 0, .slice none 0 0, .int .i64 0, .int .i64 u0.Block, .int .i64 0] 71, .row b15 [.int .i64 0, .slice none 0 0, .int .i64 0, .int .i64 0, .int .i64 0] 71, .row b10 [.int .i64 u0.Want, .slice ao1 u0.Data.length cap2, .int .i64 u0.Next, .int .i64 u0.Block, .int .i64 u0.Left] 71] Z wd121 := hM122; clear hM122
    refine nlH (hQ109 _ _ ?_); clear hQ109 hQ109Q
    refine sqH ?_; intro hQ124Q hQ124
    refine s1 hF118 31 (.slice ao4 u1.length cap5) ?_; intro a125 hF126; clear hF118
    have hc127 := hp107.1; have hp128 := hp107.2; clear hp107
    refine ix hF126 (T := (tyInt .u8)) (xs := u1) hs6 (0 : Int) hc127 (k := .i64) (e := 5) (bytes := 1) (nog rfl _) rfl (by kernel_rfl) rfl (by kernel_rfl) (by kernel_rfl) (by kernel_rfl) ?_; intro b129 off130 cs131 q132 a136 hq133 hP134 hT135 hF137; clear hF126
    have hp138 := hp128 q132 hq133; clear hp128
    obtain rfl : cs131 = ([.int .u8 q132] : List Value) := hT135
    refine z1 hF137 hM123 33 hP134 0 (.int .u8 q132) rfl ?_; intro a139 hF140; clear hF137
    refine s1 hF140 34 (.int .u8 (bAnd .u8 q132 15)) ?_; intro a141 hF142; clear hF140
    refine s1 hF142 35 (.int .i64 (w64 (bAnd .u8 q132 15))) ?_; intro a143 hF144; clear hF142
    refine s1 hF144 10 (.int .i64 (w64 (bAnd .u8 q132 15))) ?_; intro a145 hF146; clear hF144
    refine nlH (hQ124 _ _ ?_); clear hQ124 hQ124Q
    refine wp_seq ?_
    refine sqH ?_; intro hQ147Q hQ147
    refine s1 hF146 36 (.slice ao4 u1.length cap5) ?_; intro a148 hF149; clear hF146
    have hc150 := hp138.1; have hp151 := hp138.2; clear hp138
    refine ix hF149 (T := (tyInt .u8)) (xs := u1) hs6 (0 : Int) hc150 (k := .i64) (e := 5) (bytes := 1) (nog rfl _) rfl (by kernel_rfl) rfl (by kernel_rfl) (by kernel_rfl) (by kernel_rfl) ?_; intro b152 off153 cs154 q155 a159 hq156 hP157 hT158 hF160; clear hF149
    have hp161 := hp151 q155 hq156; clear hp151
    obtain rfl : cs154 = ([.int .u8 q155] : List Value) := hT158
    refine z1 hF160 hM123 38 hP157 0 (.int .u8 q155) rfl ?_; intro a162 hF163; clear hF160
    refine s1 hF163 39 (.int .u8 (bShr .u8 q155 4)) ?_; intro a164 hF165; clear hF163
    refine nlH (hQ147 _ _ ?_); clear hQ147 hQ147Q
    refine wp_block ?_
    have hF166 : Fr 157 [] [⟨1, [], .slice ao4 u1.length cap5⟩, ⟨2, [], .pointer (some ⟨b10, 0, none⟩)⟩, ⟨4, [], .pointer (some ⟨b15, 0, none⟩)⟩, ⟨9, [], .pointer (some ⟨b116, 0, none⟩)⟩, ⟨10, [], .int .i64 (w64 (bAnd .u8 q132 15))⟩, ⟨39, [], .int .u8 (bShr .u8 q155 4)⟩] a164 := hF165.region (by kernel_rfl) (by kernel_rfl); clear hF165
    refine sqH ?_; intro hQ167Q hQ167
    refine s1 hF166 41 (.bool ((bShr .u8 q155 4) == 0)) ?_; intro a168 hF169; clear hF166
    refine s1 hF169 40 (.bool ((bShr .u8 q155 4) == 0)) ?_; intro a170 hF171; clear hF169
    refine nlH (hQ167 _ _ ?_); clear hQ167 hQ167Q
    refine cd hF171 (t := (bShr .u8 q155 4) == 0) (by kernel_rfl) (fun hb172 => ?_) (fun hb172 => ?_)
    · -- yes
     have hp173 := hp161.1 hb172; clear hp161
     refine wp_seq ?_
     refine sqH ?_; intro hQ174Q hQ174
     refine s1 hF171 42 (.int .i64 (w64 (bAnd .u8 q132 15))) ?_; intro a175 hF176; clear hF171
     refine s1 hF176 43 (.bool ((w64 (bAnd .u8 q132 15)) == 0)) ?_; intro a177 hF178; clear hF176
     refine s1 hF178 44 (.bool ((w64 (bAnd .u8 q132 15)) == 0)) ?_; intro a179 hF180; clear hF178
     have hF181 := hF180.atom (((w64 (bAnd .u8 q132 15)) == 0) == false) (by kernel_rfl); clear hF180
     refine gp hF181 45 0 [] ((w64 (bAnd .u8 q132 15)) == 0) (.int .i64 (w64 (bAnd .u8 q132 15))) rfl rfl ?_; intro a182 hF183; clear hF181
     refine gp hF183 46 0 [] ((w64 (bAnd .u8 q132 15)) == 0) (.bool (decide ((w64 (bAnd .u8 q132 15)) > 7))) rfl rfl ?_; intro a184 hF185; clear hF183
     refine st hF185 (.bool (((w64 (bAnd .u8 q132 15)) == 0) || (decide ((w64 (bAnd .u8 q132 15)) > 7)))) (nog rfl _) rfl (by kernel_rfl) (pk_or hF185 (g := []) (m := 0) (b := (w64 (bAnd .u8 q132 15)) == 0) (v := decide ((w64 (bAnd .u8 q132 15)) > 7)) rfl (by kernel_rfl) (by kernel_rfl) (by kernel_rfl) rfl) ?_; intro a186 hF187; clear hF185
     refine s1 hF187 48 (.bool (((w64 (bAnd .u8 q132 15)) == 0) || (decide ((w64 (bAnd .u8 q132 15)) > 7)))) ?_; intro a188 hF189; clear hF187
     have hF190 := hF189.atom ((((w64 (bAnd .u8 q132 15)) == 0) || (decide ((w64 (bAnd .u8 q132 15)) > 7))) == false) (by kernel_rfl); clear hF189
     refine gp hF190 49 1 [] (((w64 (bAnd .u8 q132 15)) == 0) || (decide ((w64 (bAnd .u8 q132 15)) > 7))) (.slice ao4 u1.length cap5) rfl rfl ?_; intro a191 hF192; clear hF190
     refine gp hF192 50 1 [] (((w64 (bAnd .u8 q132 15)) == 0) || (decide ((w64 (bAnd .u8 q132 15)) > 7))) (.int .i64 (u1.length : Int)) rfl rfl ?_; intro a193 hF194; clear hF192
     refine gp hF194 51 1 [] (((w64 (bAnd .u8 q132 15)) == 0) || (decide ((w64 (bAnd .u8 q132 15)) > 7))) (.int .i64 (w64 (bAnd .u8 q132 15))) rfl rfl ?_; intro a195 hF196; clear hF194
     refine gp hF196 52 1 [] (((w64 (bAnd .u8 q132 15)) == 0) || (decide ((w64 (bAnd .u8 q132 15)) > 7))) (.int .i64 (w64 ((w64 (bAnd .u8 q132 15)) + 1))) rfl rfl ?_; intro a197 hF198; clear hF196
     refine gp hF198 53 1 [] (((w64 (bAnd .u8 q132 15)) == 0) || (decide ((w64 (bAnd .u8 q132 15)) > 7))) (.bool ((u1.length : Int) != (w64 ((w64 (bAnd .u8 q132 15)) + 1)))) rfl rfl ?_; intro a199 hF200; clear hF198
     refine st hF200 (.bool ((((w64 (bAnd .u8 q132 15)) == 0) || (decide ((w64 (bAnd .u8 q132 15)) > 7))) || ((u1.length : Int) != (w64 ((w64 (bAnd .u8 q132 15)) + 1))))) (nog rfl _) rfl (by kernel_rfl) (pk_or hF200 (g := []) (m := 1) (b := ((w64 (bAnd .u8 q132 15)) == 0) || (decide ((w64 (bAnd .u8 q132 15)) > 7))) (v := (u1.length : Int) != (w64 ((w64 (bAnd .u8 q132 15)) + 1))) rfl (by kernel_rfl) (by kernel_rfl) (by kernel_rfl) rfl) ?_; intro a201 hF202; clear hF200
     refine nlH (hQ174 _ _ ?_); clear hQ174 hQ174Q
     refine cd hF202 (t := (((w64 (bAnd .u8 q132 15)) == 0) || (decide ((w64 (bAnd .u8 q132 15)) > 7))) || ((u1.length : Int) != (w64 ((w64 (bAnd .u8 q132 15)) + 1)))) (by kernel_rfl) (fun hb203 => ?_) (fun hb203 => ?_)
     · -- yes
      have hp204 := hp173.1 hb203; clear hp173
      have hF205 : Fr 157 [] [⟨4, [], .pointer (some ⟨b15, 0, none⟩)⟩] a201 := hF202.region (by kernel_rfl) (by kernel_rfl); clear hF202
      refine sqH ?_; intro hQ206Q hQ206
      refine s1 hF205 55 (.agg #[.int .i64 0, .slice none 0 0, .int .i64 0, .int .i64 0, .int .i64 0]) ?_; intro a207 hF208; clear hF205
      refine sr hF208 hM123 1 [.int .i64 0, .slice none 0 0, .int .i64 0, .int .i64 0, .int .i64 0] (b := b15) (off := 0) (cs := [.int .i64 0, .slice none 0 0, .int .i64 0, .int .i64 0, .int .i64 0]) (ty := 71) (u := .agg #[.int .i64 0, .slice none 0 0, .int .i64 0, .int .i64 0, .int .i64 0]) (nog rfl _) rfl rfl (by kernel_rfl) (by kernel_rfl) (by kernel_rfl) (by kernel_rfl) (by kernel_rfl) (by kernel_rfl) (by kernel_rfl) ?_; intro wd209 hM210; clear hM123
      refine s1 hF208 5 (.slice none 0 0) ?_; intro a211 hF212; clear hF208
      refine s1 hF212 6 (.slice none 0 0) ?_; intro a213 hF214; clear hF212
      refine s1 hF214 7 (.int .i64 4) ?_; intro a215 hF216; clear hF214
      have hM217 : Mem w.heap.size [] w Z [.row b116 [.int .i64 0, .slice none 0 0, .int .i64 0, .int .i64 u0.Block, .int .i64 0] 71, .row b15 [.int .i64 0, .slice none 0 0, .int .i64 0, .int .i64 0, .int .i64 0] 71, .row b10 [.int .i64 u0.Want, .slice ao1 u0.Data.length cap2, .int .i64 u0.Next, .int .i64 u0.Block, .int .i64 u0.Left] 71] Z wd209 := hM210; clear hM210
      refine nlH (hQ206 _ _ ?_); clear hQ206 hQ206Q
      refine wp_ret ?_
      refine thr ?_
      refine ibr ?_
      refine thr ?_
      have hM218 : Mem w.heap.size [] w Z [.own (tyInt .u8) 5 none 0 ([] : List Int), .row b116 [.int .i64 0, .slice none 0 0, .int .i64 0, .int .i64 u0.Block, .int .i64 0] 71, .row b15 [.int .i64 0, .slice none 0 0, .int .i64 0, .int .i64 0, .int .i64 0] 71, .row b10 [.int .i64 u0.Want, .slice ao1 u0.Data.length cap2, .int .i64 u0.Next, .int .i64 u0.Block, .int .i64 u0.Left] 71] Z wd209 := hM217.addNil (tyInt .u8) 5 (by decide); clear hM217
      have hM219 : Mem w.heap.size [] w Z [.own (tyInt .u8) 5 none 0 ([] : List Int), .own (tyInt .u8) 5 none 0 ([] : List Int), .row b116 [.int .i64 0, .slice none 0 0, .int .i64 0, .int .i64 u0.Block, .int .i64 0] 71, .row b15 [.int .i64 0, .slice none 0 0, .int .i64 0, .int .i64 0, .int .i64 0] 71, .row b10 [.int .i64 u0.Want, .slice ao1 u0.Data.length cap2, .int .i64 u0.Next, .int .i64 u0.Block, .int .i64 u0.Left] 71] Z wd209 := hM218.addNil (tyInt .u8) 5 (by decide); clear hM218
      refine rt (fn := Try.f41) (v := .tuple #[.agg #[.int .i64 0, .slice none 0 0, .int .i64 0, .int .i64 0, .int .i64 0], .slice none ([] : List Int).length 0, .slice none ([] : List Int).length 0, .int .i64 4]) hF216 (re4c hF216 (fn := Try.f41) rfl (ad := ⟨b15, 0, none⟩) (by kernel_rfl) (loadVar_run hM219 3 (b := b15) (k := 5) (vs := [.int .i64 0, .slice none 0 0, .int .i64 0, .int .i64 0, .int .i64 0]) (ty := 71) rfl (by kernel_rfl) (by kernel_rfl)) (by kernel_rfl) (by kernel_rfl) (by kernel_rfl)) ?_
      exact ⟨((⟨0, [], 0, 0, 0⟩ : Getter), ([] : List Int), ([] : List Int), 4, true, true), none, 0, none, 0, none, 0, Z, rfl, hp204, (SlR.nil _ _), rfl, rfl, hM219.keep (List.Sublist.cons_cons _ (List.Sublist.cons_cons _ (List.Sublist.cons _ (List.Sublist.cons _ (List.Sublist.cons _ (List.Sublist.slnil))))))⟩
     · -- no
      have hp220 := hp173.2 hb203; clear hp173
      refine wp_skip ?_
      refine thn ?_
      have hF221 : Fr 157 [] [⟨1, [], .slice ao4 u1.length cap5⟩, ⟨4, [], .pointer (some ⟨b15, 0, none⟩)⟩, ⟨9, [], .pointer (some ⟨b116, 0, none⟩)⟩] a201 := hF202.region (by kernel_rfl) (by kernel_rfl); clear hF202
      have hcd2_0 := hp220.1; have hp249 := hp220.2; clear hp220
      have hcd3_0 := hp249.1; have hp250 := hp249.2; clear hp249
      refine wp_seq (any_invE mixed [[], [], [1], [2], [0, 3], [0, 4], [0, 1, 2, 3, 4, 5], [0, 1, 2, 3, 4, 5, 6]] 8 (fun S a w1 => ∃ (ao226 : Option Addr) (cap227 : Nat) (ao236 : Option Addr) (cap237 : Nat) (ud5 : Value) (ud6 : Value) (ud7 : Value) (ud56 : Value) (ud57 : Value) (ud58 : Value) (ud59 : Value) (rh0 : Res) (rh1 : Res) (rh2 : Res) (rh3 : Res) (Z251 : Fz), Fz.le Z Z251 ∧ Fr 157 [] [⟨1, [], .slice ao4 u1.length cap5⟩, ⟨4, [], .pointer (some ⟨b15, 0, none⟩)⟩, ⟨5, [], ud5⟩, ⟨6, [], ud6⟩, ⟨7, [], ud7⟩, ⟨9, [], .pointer (some ⟨b116, 0, none⟩)⟩, ⟨56, [], ud56⟩, ⟨57, [], ud57⟩, ⟨58, [], ud58⟩, ⟨59, [], ud59⟩] a ∧ Mem w.heap.size [] w Z [rh0, rh1, rh2, rh3] Z251 w1 ∧ (S 5 = true → ud5 = .slice none 0 0) ∧ (S 6 = true → ud6 = .slice ao236 (bcloneS (u1.drop (1 : Int).toNat)).length cap237) ∧ (S 7 = true → ud7 = .int .i64 0) ∧ (S 0 = true → ud56 = .agg #[.int .i64 0, .slice none 0 0, .int .i64 0, .int .i64 u0.Block, .int .i64 0]) ∧ (S 1 = true → ud57 = .slice ao4 u1.length cap5) ∧ (S 2 = true → ud58 = .slice ao226 (u1.drop (1 : Int).toNat).length cap227) ∧ (S 3 = true → ud59 = .slice ao236 (bcloneS (u1.drop (1 : Int).toNat)).length cap237) ∧ (rh0 = .row b116 [.int .i64 0, .slice none 0 0, .int .i64 0, .int .i64 u0.Block, .int .i64 0] 71) ∧ (S 4 = false → rh1 = .row b15 [.int .i64 0, .slice none 0 0, .int .i64 0, .int .i64 0, .int .i64 0] 71) ∧ (S 4 = true → rh1 = .row b15 [.int .i64 0, .slice none 0 0, .int .i64 0, .int .i64 u0.Block, .int .i64 0] 71) ∧ (rh2 = .row b10 [.int .i64 u0.Want, .slice ao1 u0.Data.length cap2, .int .i64 u0.Next, .int .i64 u0.Block, .int .i64 u0.Left] 71) ∧ (S 3 = false → rh3 = .nil) ∧ (S 3 = true → rh3 = .own (tyInt .u8) 5 ao236 cap237 (bcloneS (u1.drop (1 : Int).toNat))) ∧ (S 2 = true → SlR (tyInt .u8) Z251 ao226 cap227 (u1.drop (1 : Int).toNat))) ?h0 ?hs ?hE)
      case h0 =>
       have hF253 := hF221.any 5
       have hF254 := hF253.any 6
       have hF255 := hF254.any 7
       have hF256 := hF255.any 56
       have hF257 := hF256.any 57
       have hF258 := hF257.any 58
       have hF259 := hF258.any 59
       have hM260 := hM123.nilRes
       have hM261 := (hM260.perm ((pk 1 rfl).trans (((pk 1 rfl).trans (((pk 1 rfl).trans ((List.Perm.refl _).cons _)).cons _)).cons _))).drew
       exact ⟨none, 0, none, 0, a201.tmps.getD 5 undef, a201.tmps.getD 6 undef, a201.tmps.getD 7 undef, a201.tmps.getD 56 undef, a201.tmps.getD 57 undef, a201.tmps.getD 58 undef, a201.tmps.getD 59 undef, .row b116 [.int .i64 0, .slice none 0 0, .int .i64 0, .int .i64 u0.Block, .int .i64 0] 71, .row b15 [.int .i64 0, .slice none 0 0, .int .i64 0, .int .i64 0, .int .i64 0] 71, .row b10 [.int .i64 u0.Want, .slice ao1 u0.Data.length cap2, .int .i64 u0.Next, .int .i64 u0.Block, .int .i64 u0.Left] 71, .nil, Z, Fz.le.refl _, hF259.region (by kernel_rfl) (by kernel_rfl), hM261, ff, ff, ff, ff, ff, ff, ff, rfl, kf, ff, rfl, kf, ff, ff⟩
      case hs =>
       intro S hcl i o hil hi hSi hpre a w1 hI; refine hid ?_; intro G hG; obtain ⟨ao226, hI⟩ := hI; obtain ⟨cap227, hI⟩ := hI; obtain ⟨ao236, hI⟩ := hI; obtain ⟨cap237, hI⟩ := hI; obtain ⟨ud5, hI⟩ := hI; obtain ⟨ud6, hI⟩ := hI; obtain ⟨ud7, hI⟩ := hI; obtain ⟨ud56, hI⟩ := hI; obtain ⟨ud57, hI⟩ := hI; obtain ⟨ud58, hI⟩ := hI; obtain ⟨ud59, hI⟩ := hI; obtain ⟨rh0, hI⟩ := hI; obtain ⟨rh1, hI⟩ := hI; obtain ⟨rh2, hI⟩ := hI; obtain ⟨rh3, hI⟩ := hI; obtain ⟨Z251, hI⟩ := hI; obtain ⟨hle252, hI⟩ := hI; obtain ⟨hFx, hI⟩ := hI; obtain ⟨hMx, hI⟩ := hI; obtain ⟨cu5, hI⟩ := hI; obtain ⟨cu6, hI⟩ := hI; obtain ⟨cu7, hI⟩ := hI; obtain ⟨cu56, hI⟩ := hI; obtain ⟨cu57, hI⟩ := hI; obtain ⟨cu58, hI⟩ := hI; obtain ⟨cu59, hI⟩ := hI; obtain ⟨cr0_0, hI⟩ := hI; obtain ⟨cr1_0, hI⟩ := hI; obtain ⟨cr1_1, hI⟩ := hI; obtain ⟨cr2_0, hI⟩ := hI; obtain ⟨cr3_0, hI⟩ := hI; obtain ⟨cr3_1, hI⟩ := hI; have cf0 := hI; clear hI
       have hcase : i = 0 ∨ i = 1 ∨ i = 2 ∨ i = 3 ∨ i = 4 ∨ i = 5 ∨ i = 6 ∨ i = 7 := by clear hi; omega
       rcases hcase with rfl | rfl | rfl | rfl | rfl | rfl | rfl | rfl
       · -- 0: load
        obtain rfl := Option.some.inj hi
        have hx0 := hSi
        have hx4 := negF hcl 4 0 (by kernel_rfl) hx0
        have hx5 := negF hcl 5 0 (by kernel_rfl) hx0
        have hx6 := negF hcl 6 0 (by kernel_rfl) hx0
        have hx7 := negF hcl 7 0 (by kernel_rfl) hx0
        obtain rfl := cr0_0
        obtain rfl := cr1_0 hx4
        obtain rfl := cr2_0
        refine hG (any_step ?_); clear hG G; intro A J hJ
        have hle0 := Fz.le.trans hle0 hle252
        have hzst := Fz.le.refl Z251
        have hs262 := hs3.mono hle252
        have hs263 := hs6.mono hle252
        have hs264 := hP134.mono hle252
        have hs265 := hP157.mono hle252
        refine l2 hFx hMx 56 0 0 5 [.int .i64 0, .slice none 0 0, .int .i64 0, .int .i64 u0.Block, .int .i64 0] rfl rfl ?_; intro a266 hF267; clear hFx
        refine nl (qnI (hJ _ _ ?_)); clear hJ J
        exact ⟨ao226, cap227, ao236, cap237, ud5, ud6, ud7, .agg #[.int .i64 0, .slice none 0 0, .int .i64 0, .int .i64 u0.Block, .int .i64 0], ud57, ud58, ud59, .row b116 [.int .i64 0, .slice none 0 0, .int .i64 0, .int .i64 u0.Block, .int .i64 0] 71, .row b15 [.int .i64 0, .slice none 0 0, .int .i64 0, .int .i64 0, .int .i64 0] 71, .row b10 [.int .i64 u0.Want, .slice ao1 u0.Data.length cap2, .int .i64 u0.Next, .int .i64 u0.Block, .int .i64 u0.Left] 71, rh3, Z251, hle252, hF267.region (by kernel_rfl) (by kernel_rfl), hMx.perm (List.Perm.refl _), (nt hx5), (nt hx6), (nt hx7), kf, cu57, cu58, cu59, rfl, kf, (nt hx4), rfl, cr3_0, cr3_1, cf0⟩
       · -- 1: move
        obtain rfl := Option.some.inj hi
        have hx1 := hSi
        have hx2 := negF hcl 2 1 (by kernel_rfl) hx1
        have hx3 := negF hcl 3 2 (by kernel_rfl) hx2
        have hx4 := negF hcl 4 3 (by kernel_rfl) hx3
        have hx5 := negF hcl 5 4 (by kernel_rfl) hx4
        have hx6 := negF hcl 6 1 (by kernel_rfl) hx1
        have hx7 := negF hcl 7 1 (by kernel_rfl) hx1
        obtain rfl := cr0_0
        obtain rfl := cr1_0 hx4
        obtain rfl := cr2_0
        obtain rfl := cr3_0 hx3
        refine hG (any_step ?_); clear hG G; intro A J hJ
        have hle0 := Fz.le.trans hle0 hle252
        have hzst := Fz.le.refl Z251
        have hs269 := hs3.mono hle252
        have hs270 := hs6.mono hle252
        have hs271 := hP134.mono hle252
        have hs272 := hP157.mono hle252
        have hM273 := hMx.keep (List.Sublist.cons_cons _ (List.Sublist.cons_cons _ (List.Sublist.cons_cons _ (List.Sublist.cons _ (List.Sublist.slnil))))); clear hMx
        refine s1 hFx 57 (.slice ao4 u1.length cap5) ?_; intro a274 hF275; clear hFx
        refine nl (qnI (hJ _ _ ?_)); clear hJ J
        have hM276 := hM273.nilRes
        exact ⟨ao226, cap227, ao236, cap237, ud5, ud6, ud7, ud56, .slice ao4 u1.length cap5, ud58, ud59, .row b116 [.int .i64 0, .slice none 0 0, .int .i64 0, .int .i64 u0.Block, .int .i64 0] 71, .row b15 [.int .i64 0, .slice none 0 0, .int .i64 0, .int .i64 0, .int .i64 0] 71, .row b10 [.int .i64 u0.Want, .slice ao1 u0.Data.length cap2, .int .i64 u0.Next, .int .i64 u0.Block, .int .i64 u0.Left] 71, .nil, Z251, hle252, hF275.region (by kernel_rfl) (by kernel_rfl), hM276.perm ((pk 1 rfl).trans (((pk 1 rfl).trans (((pk 1 rfl).trans ((List.Perm.refl _).cons _)).cons _)).cons _)), (nt hx5), (nt hx6), (nt hx7), cu56, kf, (nt hx2), (nt hx3), rfl, kf, (nt hx4), rfl, kf, (nt hx3), (nt hx2)⟩
       · -- 2: slice
        obtain rfl := Option.some.inj hi
        have hx1 := hpre 1 (by kernel_rfl)
        have hx2 := hSi
        have hx3 := negF hcl 3 2 (by kernel_rfl) hx2
        have hx4 := negF hcl 4 3 (by kernel_rfl) hx3
        have hx5 := negF hcl 5 4 (by kernel_rfl) hx4
        have hx6 := negF hcl 6 2 (by kernel_rfl) hx2
        have hx7 := negF hcl 7 2 (by kernel_rfl) hx2
        obtain rfl := cu57 hx1
        obtain rfl := cr0_0
        obtain rfl := cr1_0 hx4
        obtain rfl := cr2_0
        obtain rfl := cr3_0 hx3
        refine hG (any_step ?_); clear hG G; intro A J hJ
        have hle0 := Fz.le.trans hle0 hle252
        have hzst := Fz.le.refl Z251
        have hs278 := hs3.mono hle252
        have hs279 := hs6.mono hle252
        have hs280 := hP134.mono hle252
        have hs281 := hP157.mono hle252
        have hM282 := hMx.keep (List.Sublist.cons_cons _ (List.Sublist.cons_cons _ (List.Sublist.cons_cons _ (List.Sublist.cons _ (List.Sublist.slnil))))); clear hMx
        refine slL hFx (T := (tyInt .u8)) (xs := u1) hs279 (1 : Int) hcd2_0 (k := .i64) (e := 5) (bytes := 1) (nog rfl _) rfl (by kernel_rfl) rfl (by kernel_rfl) (by kernel_rfl) (by kernel_rfl) ?_; intro ao283 cap284 a287 hn285 hs286 hF288; clear hFx
        refine nl (qnI (hJ _ _ ?_)); clear hJ J
        have hM289 := hM282.nilRes
        exact ⟨ao283, cap284, ao236, cap237, ud5, ud6, ud7, ud56, .slice ao4 u1.length cap5, .slice ao283 (u1.drop (1 : Int).toNat).length cap284, ud59, .row b116 [.int .i64 0, .slice none 0 0, .int .i64 0, .int .i64 u0.Block, .int .i64 0] 71, .row b15 [.int .i64 0, .slice none 0 0, .int .i64 0, .int .i64 0, .int .i64 0] 71, .row b10 [.int .i64 u0.Want, .slice ao1 u0.Data.length cap2, .int .i64 u0.Next, .int .i64 u0.Block, .int .i64 u0.Left] 71, .nil, Z251, hle252, hF288.region (by kernel_rfl) (by kernel_rfl), hM289.perm ((pk 1 rfl).trans (((pk 1 rfl).trans (((pk 1 rfl).trans ((List.Perm.refl _).cons _)).cons _)).cons _)), (nt hx5), (nt hx6), (nt hx7), cu56, kf, kf, (nt hx3), rfl, kf, (nt hx4), rfl, kf, (nt hx3), (fun _ => hs286)⟩
       · -- 3: call
        obtain rfl := Option.some.inj hi
        have hx2 := hpre 2 (by kernel_rfl)
        have hx1 := hcl 2 1 (by kernel_rfl) hx2
        have hx3 := hSi
        have hx4 := negF hcl 4 3 (by kernel_rfl) hx3
        have hx5 := negF hcl 5 4 (by kernel_rfl) hx4
        have hx6 := negF hcl 6 3 (by kernel_rfl) hx3
        have hx7 := negF hcl 7 3 (by kernel_rfl) hx3
        obtain rfl := cu57 hx1
        obtain rfl := cu58 hx2
        obtain rfl := cr0_0
        obtain rfl := cr1_0 hx4
        obtain rfl := cr2_0
        obtain rfl := cr3_0 hx3
        refine hG (any_step ?_); clear hG G; intro A J hJ
        have hle0 := Fz.le.trans hle0 hle252
        have hzst := Fz.le.refl Z251
        have hs291 := hs3.mono hle252
        have hs292 := hs6.mono hle252
        have hs293 := hP134.mono hle252
        have hs294 := hP157.mono hle252
        have hs295 := cf0 hx2
        have hM296 := hMx.keep (List.Sublist.cons_cons _ (List.Sublist.cons_cons _ (List.Sublist.cons_cons _ (List.Sublist.cons _ (List.Sublist.slnil))))); clear hMx
        refine cl hFx 57 #[.slice ao226 (u1.drop (1 : Int).toNat).length cap227] (nog rfl _) rfl (by kernel_rfl) (by kernel_rfl) ?_
        refine (bclone_fun (u1.drop (1 : Int).toNat) hcd3_0 ao226 cap227 _ _ hs295 hM296.fz).mono ?_; rintro _ wd297 ⟨ao301, cap302, Z303, rfl, hm⟩; refine ⟨_, rfl, ?_⟩; intro a298 hF299; have hM300 := hM296.callZ hm; have hle304 := hm.ext.le; clear hm hM296 hFx
        replace hzst := hzst.mono hle304
        replace hs291 := hs291.mono hle304
        replace hs292 := hs292.mono hle304
        replace hs293 := hs293.mono hle304
        replace hs294 := hs294.mono hle304
        replace hs295 := hs295.mono hle304
        replace hle0 := Fz.le.trans hle0 hle304
        have hM305 : Mem w.heap.size [] w Z [.own (tyInt .u8) 5 ao301 cap302 (bcloneS (u1.drop (1 : Int).toNat)), .row b116 [.int .i64 0, .slice none 0 0, .int .i64 0, .int .i64 u0.Block, .int .i64 0] 71, .row b15 [.int .i64 0, .slice none 0 0, .int .i64 0, .int .i64 0, .int .i64 0] 71, .row b10 [.int .i64 u0.Want, .slice ao1 u0.Data.length cap2, .int .i64 u0.Next, .int .i64 u0.Block, .int .i64 u0.Left] 71] Z303 wd297 := hM300; clear hM300
        refine nl (qnI (hJ _ _ ?_)); clear hJ J
        exact ⟨ao226, cap227, ao301, cap302, ud5, ud6, ud7, ud56, .slice ao4 u1.length cap5, .slice ao226 (u1.drop (1 : Int).toNat).length cap227, .slice ao301 (bcloneS (u1.drop (1 : Int).toNat)).length cap302, .row b116 [.int .i64 0, .slice none 0 0, .int .i64 0, .int .i64 u0.Block, .int .i64 0] 71, .row b15 [.int .i64 0, .slice none 0 0, .int .i64 0, .int .i64 0, .int .i64 0] 71, .row b10 [.int .i64 u0.Want, .slice ao1 u0.Data.length cap2, .int .i64 u0.Next, .int .i64 u0.Block, .int .i64 u0.Left] 71, .own (tyInt .u8) 5 ao301 cap302 (bcloneS (u1.drop (1 : Int).toNat)), Z303, hle252.trans hzst, hF299.region (by kernel_rfl) (by kernel_rfl), hM305.perm ((pk 1 rfl).trans (((pk 1 rfl).trans (((pk 1 rfl).trans ((List.Perm.refl _).cons _)).cons _)).cons _)), (nt hx5), (nt hx6), (nt hx7), cu56, kf, kf, kf, rfl, kf, (nt hx4), rfl, nu, kf, (fun _ => hs295)⟩
       · -- 4: store
        obtain rfl := Option.some.inj hi
        have hx3 := hpre 3 (by kernel_rfl)
        have hx0 := hpre 0 (by kernel_rfl)
        have hx2 := hcl 3 2 (by kernel_rfl) hx3
        have hx1 := hcl 2 1 (by kernel_rfl) hx2
        have hx4 := hSi
        have hx5 := negF hcl 5 4 (by kernel_rfl) hx4
        have hx6 := negF hcl 6 4 (by kernel_rfl) hx4
        have hx7 := negF hcl 7 4 (by kernel_rfl) hx4
        obtain rfl := cu56 hx0
        obtain rfl := cu57 hx1
        obtain rfl := cu58 hx2
        obtain rfl := cu59 hx3
        obtain rfl := cr0_0
        obtain rfl := cr1_0 hx4
        obtain rfl := cr2_0
        obtain rfl := cr3_1 hx3
        refine hG (any_step ?_); clear hG G; intro A J hJ
        have hle0 := Fz.le.trans hle0 hle252
        have hzst := Fz.le.refl Z251
        have hs307 := hs3.mono hle252
        have hs308 := hs6.mono hle252
        have hs309 := hP134.mono hle252
        have hs310 := hP157.mono hle252
        have hs311 := cf0 hx2
        refine sr hFx hMx 1 [.int .i64 0, .slice none 0 0, .int .i64 0, .int .i64 u0.Block, .int .i64 0] (b := b15) (off := 0) (cs := [.int .i64 0, .slice none 0 0, .int .i64 0, .int .i64 0, .int .i64 0]) (ty := 71) (u := .agg #[.int .i64 0, .slice none 0 0, .int .i64 0, .int .i64 u0.Block, .int .i64 0]) (nog rfl _) rfl rfl (by kernel_rfl) (by kernel_rfl) (by kernel_rfl) (by kernel_rfl) (by kernel_rfl) (by kernel_rfl) (by kernel_rfl) ?_; intro wd312 hM313; clear hMx
        refine nl (qnI (hJ _ _ ?_)); clear hJ J
        exact ⟨ao226, cap227, ao236, cap237, ud5, ud6, ud7, .agg #[.int .i64 0, .slice none 0 0, .int .i64 0, .int .i64 u0.Block, .int .i64 0], .slice ao4 u1.length cap5, .slice ao226 (u1.drop (1 : Int).toNat).length cap227, .slice ao236 (bcloneS (u1.drop (1 : Int).toNat)).length cap237, .row b116 [.int .i64 0, .slice none 0 0, .int .i64 0, .int .i64 u0.Block, .int .i64 0] 71, .row b15 [.int .i64 0, .slice none 0 0, .int .i64 0, .int .i64 u0.Block, .int .i64 0] 71, .row b10 [.int .i64 u0.Want, .slice ao1 u0.Data.length cap2, .int .i64 u0.Next, .int .i64 u0.Block, .int .i64 u0.Left] 71, .own (tyInt .u8) 5 ao236 cap237 (bcloneS (u1.drop (1 : Int).toNat)), Z251, hle252, hFx.region (by kernel_rfl) (by kernel_rfl), hM313.perm (List.Perm.refl _), (nt hx5), (nt hx6), (nt hx7), kf, kf, kf, kf, rfl, nu, kf, rfl, (tn hx3), kf, (fun _ => hs311)⟩
       · -- 5: assign
        obtain rfl := Option.some.inj hi
        have hx4 := hpre 4 (by kernel_rfl)
        have hx0 := hpre 0 (by kernel_rfl)
        have hx3 := hcl 4 3 (by kernel_rfl) hx4
        have hx2 := hcl 3 2 (by kernel_rfl) hx3
        have hx1 := hcl 2 1 (by kernel_rfl) hx2
        have hx5 := hSi
        have hx6 := negF hcl 6 5 (by kernel_rfl) hx5
        have hx7 := negF hcl 7 5 (by kernel_rfl) hx5
        obtain rfl := cu56 hx0
        obtain rfl := cu57 hx1
        obtain rfl := cu58 hx2
        obtain rfl := cu59 hx3
        obtain rfl := cr0_0
        obtain rfl := cr1_1 hx4
        obtain rfl := cr2_0
        obtain rfl := cr3_1 hx3
        refine hG (any_step ?_); clear hG G; intro A J hJ
        have hle0 := Fz.le.trans hle0 hle252
        have hzst := Fz.le.refl Z251
        have hs315 := hs3.mono hle252
        have hs316 := hs6.mono hle252
        have hs317 := hP134.mono hle252
        have hs318 := hP157.mono hle252
        have hs319 := cf0 hx2
        refine s1 hFx 5 (.slice none 0 0) ?_; intro a320 hF321; clear hFx
        refine nl (qnI (hJ _ _ ?_)); clear hJ J
        exact ⟨ao226, cap227, ao236, cap237, .slice none 0 0, ud6, ud7, .agg #[.int .i64 0, .slice none 0 0, .int .i64 0, .int .i64 u0.Block, .int .i64 0], .slice ao4 u1.length cap5, .slice ao226 (u1.drop (1 : Int).toNat).length cap227, .slice ao236 (bcloneS (u1.drop (1 : Int).toNat)).length cap237, .row b116 [.int .i64 0, .slice none 0 0, .int .i64 0, .int .i64 u0.Block, .int .i64 0] 71, .row b15 [.int .i64 0, .slice none 0 0, .int .i64 0, .int .i64 u0.Block, .int .i64 0] 71, .row b10 [.int .i64 u0.Want, .slice ao1 u0.Data.length cap2, .int .i64 u0.Next, .int .i64 u0.Block, .int .i64 u0.Left] 71, .own (tyInt .u8) 5 ao236 cap237 (bcloneS (u1.drop (1 : Int).toNat)), Z251, hle252, hF321.region (by kernel_rfl) (by kernel_rfl), hMx.perm (List.Perm.refl _), kf, (nt hx6), (nt hx7), kf, kf, kf, kf, rfl, (tn hx4), kf, rfl, (tn hx3), kf, (fun _ => hs319)⟩
       · -- 6: assign
        obtain rfl := Option.some.inj hi
        have hx5 := hpre 5 (by kernel_rfl)
        have hx4 := hpre 4 (by kernel_rfl)
        have hx3 := hpre 3 (by kernel_rfl)
        have hx2 := hpre 2 (by kernel_rfl)
        have hx1 := hpre 1 (by kernel_rfl)
        have hx0 := hpre 0 (by kernel_rfl)
        have hx6 := hSi
        have hx7 := negF hcl 7 6 (by kernel_rfl) hx6
        obtain rfl := cu5 hx5
        obtain rfl := cu56 hx0
        obtain rfl := cu57 hx1
        obtain rfl := cu58 hx2
        obtain rfl := cu59 hx3
        obtain rfl := cr0_0
        obtain rfl := cr1_1 hx4
        obtain rfl := cr2_0
        obtain rfl := cr3_1 hx3
        refine hG (any_step ?_); clear hG G; intro A J hJ
        have hle0 := Fz.le.trans hle0 hle252
        have hzst := Fz.le.refl Z251
        have hs323 := hs3.mono hle252
        have hs324 := hs6.mono hle252
        have hs325 := hP134.mono hle252
        have hs326 := hP157.mono hle252
        have hs327 := cf0 hx2
        refine s1 hFx 6 (.slice ao236 (bcloneS (u1.drop (1 : Int).toNat)).length cap237) ?_; intro a328 hF329; clear hFx
        refine nl (qnI (hJ _ _ ?_)); clear hJ J
        exact ⟨ao226, cap227, ao236, cap237, .slice none 0 0, .slice ao236 (bcloneS (u1.drop (1 : Int).toNat)).length cap237, ud7, .agg #[.int .i64 0, .slice none 0 0, .int .i64 0, .int .i64 u0.Block, .int .i64 0], .slice ao4 u1.length cap5, .slice ao226 (u1.drop (1 : Int).toNat).length cap227, .slice ao236 (bcloneS (u1.drop (1 : Int).toNat)).length cap237, .row b116 [.int .i64 0, .slice none 0 0, .int .i64 0, .int .i64 u0.Block, .int .i64 0] 71, .row b15 [.int .i64 0, .slice none 0 0, .int .i64 0, .int .i64 u0.Block, .int .i64 0] 71, .row b10 [.int .i64 u0.Want, .slice ao1 u0.Data.length cap2, .int .i64 u0.Next, .int .i64 u0.Block, .int .i64 u0.Left] 71, .own (tyInt .u8) 5 ao236 cap237 (bcloneS (u1.drop (1 : Int).toNat)), Z251, hle252, hF329.region (by kernel_rfl) (by kernel_rfl), hMx.perm (List.Perm.refl _), kf, kf, (nt hx7), kf, kf, kf, kf, rfl, (tn hx4), kf, rfl, (tn hx3), kf, (fun _ => hs327)⟩
       · -- 7: assign
        obtain rfl := Option.some.inj hi
        have hx6 := hpre 6 (by kernel_rfl)
        have hx5 := hpre 5 (by kernel_rfl)
        have hx4 := hpre 4 (by kernel_rfl)
        have hx3 := hpre 3 (by kernel_rfl)
        have hx2 := hpre 2 (by kernel_rfl)
        have hx1 := hpre 1 (by kernel_rfl)
        have hx0 := hpre 0 (by kernel_rfl)
        have hx7 := hSi
        obtain rfl := cu5 hx5
        obtain rfl := cu6 hx6
        obtain rfl := cu56 hx0
        obtain rfl := cu57 hx1
        obtain rfl := cu58 hx2
        obtain rfl := cu59 hx3
        obtain rfl := cr0_0
        obtain rfl := cr1_1 hx4
        obtain rfl := cr2_0
        obtain rfl := cr3_1 hx3
        refine hG (any_step ?_); clear hG G; intro A J hJ
        have hle0 := Fz.le.trans hle0 hle252
        have hzst := Fz.le.refl Z251
        have hs331 := hs3.mono hle252
        have hs332 := hs6.mono hle252
        have hs333 := hP134.mono hle252
        have hs334 := hP157.mono hle252
        have hs335 := cf0 hx2
        refine s1 hFx 7 (.int .i64 0) ?_; intro a336 hF337; clear hFx
        refine nl (qnI (hJ _ _ ?_)); clear hJ J
        exact ⟨ao226, cap227, ao236, cap237, .slice none 0 0, .slice ao236 (bcloneS (u1.drop (1 : Int).toNat)).length cap237, .int .i64 0, .agg #[.int .i64 0, .slice none 0 0, .int .i64 0, .int .i64 u0.Block, .int .i64 0], .slice ao4 u1.length cap5, .slice ao226 (u1.drop (1 : Int).toNat).length cap227, .slice ao236 (bcloneS (u1.drop (1 : Int).toNat)).length cap237, .row b116 [.int .i64 0, .slice none 0 0, .int .i64 0, .int .i64 u0.Block, .int .i64 0] 71, .row b15 [.int .i64 0, .slice none 0 0, .int .i64 0, .int .i64 u0.Block, .int .i64 0] 71, .row b10 [.int .i64 u0.Want, .slice ao1 u0.Data.length cap2, .int .i64 u0.Next, .int .i64 u0.Block, .int .i64 u0.Left] 71, .own (tyInt .u8) 5 ao236 cap237 (bcloneS (u1.drop (1 : Int).toNat)), Z251, hle252, hF337.region (by kernel_rfl) (by kernel_rfl), hMx.perm (List.Perm.refl _), kf, kf, kf, kf, kf, kf, kf, rfl, (tn hx4), kf, rfl, (tn hx3), kf, (fun _ => hs335)⟩
      case hE =>
       intro S hS a339 wd340 hI; refine hid ?_; intro G hG; obtain ⟨ao226, hI⟩ := hI; obtain ⟨cap227, hI⟩ := hI; obtain ⟨ao236, hI⟩ := hI; obtain ⟨cap237, hI⟩ := hI; obtain ⟨ud5, hI⟩ := hI; obtain ⟨ud6, hI⟩ := hI; obtain ⟨ud7, hI⟩ := hI; obtain ⟨ud56, hI⟩ := hI; obtain ⟨ud57, hI⟩ := hI; obtain ⟨ud58, hI⟩ := hI; obtain ⟨ud59, hI⟩ := hI; obtain ⟨rh0, hI⟩ := hI; obtain ⟨rh1, hI⟩ := hI; obtain ⟨rh2, hI⟩ := hI; obtain ⟨rh3, hI⟩ := hI; obtain ⟨Z251, hI⟩ := hI; obtain ⟨hle252, hI⟩ := hI; obtain ⟨hFx, hI⟩ := hI; obtain ⟨hMx, hI⟩ := hI; obtain ⟨cu5, hI⟩ := hI; obtain ⟨cu6, hI⟩ := hI; obtain ⟨cu7, hI⟩ := hI; obtain ⟨cu56, hI⟩ := hI; obtain ⟨cu57, hI⟩ := hI; obtain ⟨cu58, hI⟩ := hI; obtain ⟨cu59, hI⟩ := hI; obtain ⟨cr0_0, hI⟩ := hI; obtain ⟨cr1_0, hI⟩ := hI; obtain ⟨cr1_1, hI⟩ := hI; obtain ⟨cr2_0, hI⟩ := hI; obtain ⟨cr3_0, hI⟩ := hI; obtain ⟨cr3_1, hI⟩ := hI; have cf0 := hI; clear hI; refine hG ?_; clear hG G
       obtain rfl := cu5 (hS 5 (by decide))
       obtain rfl := cu6 (hS 6 (by decide))
       obtain rfl := cu7 (hS 7 (by decide))
       obtain rfl := cu56 (hS 0 (by decide))
       obtain rfl := cu57 (hS 1 (by decide))
       obtain rfl := cu58 (hS 2 (by decide))
       obtain rfl := cu59 (hS 3 (by decide))
       obtain rfl := cr0_0
       obtain rfl := cr1_1 (hS 4 (by decide))
       obtain rfl := cr2_0
       obtain rfl := cr3_1 (hS 3 (by decide))
       have hle0 := Fz.le.trans hle0 hle252
       have hs341 := hs3.mono hle252
       have hs342 := hs6.mono hle252
       have hs343 := hP134.mono hle252
       have hs344 := hP157.mono hle252
       have hs345 := cf0 (hS 2 (by decide))
       refine thn ?_
       refine wp_ret ?_
       refine ibr ?_
       refine thr ?_
       have hM346 : Mem w.heap.size [] w Z [.own (tyInt .u8) 5 none 0 ([] : List Int), .row b116 [.int .i64 0, .slice none 0 0, .int .i64 0, .int .i64 u0.Block, .int .i64 0] 71, .row b15 [.int .i64 0, .slice none 0 0, .int .i64 0, .int .i64 u0.Block, .int .i64 0] 71, .row b10 [.int .i64 u0.Want, .slice ao1 u0.Data.length cap2, .int .i64 u0.Next, .int .i64 u0.Block, .int .i64 u0.Left] 71, .own (tyInt .u8) 5 ao236 cap237 (bcloneS (u1.drop (1 : Int).toNat))] Z251 wd340 := hMx.addNil (tyInt .u8) 5 (by decide); clear hMx
       obtain ⟨nb347, hnb348⟩ : ∃ b, ao236.isNone = b := ⟨_, rfl⟩; have hp349 := hp250 nb347 (by rw [← hnb348]; exact hM346.ownNil 4 rfl); clear hp250
       refine rt (fn := Try.f41) (v := .tuple #[.agg #[.int .i64 0, .slice none 0 0, .int .i64 0, .int .i64 u0.Block, .int .i64 0], .slice none ([] : List Int).length 0, .slice ao236 (bcloneS (u1.drop (1 : Int).toNat)).length cap237, .int .i64 0]) hFx (re4c hFx (fn := Try.f41) rfl (ad := ⟨b15, 0, none⟩) (by kernel_rfl) (loadVar_run hM346 2 (b := b15) (k := 5) (vs := [.int .i64 0, .slice none 0 0, .int .i64 0, .int .i64 u0.Block, .int .i64 0]) (ty := 71) rfl (by kernel_rfl) (by kernel_rfl)) (by kernel_rfl) (by kernel_rfl) (by kernel_rfl)) ?_
       exact ⟨((⟨0, [], 0, u0.Block, 0⟩ : Getter), ([] : List Int), (bcloneS (u1.drop (1 : Int).toNat)), 0, true, nb347), none, 0, none, 0, ao236, cap237, Z251, rfl, hp349, (SlR.nil _ _), rfl, hnb348, hM346.keep (List.Sublist.cons_cons _ (List.Sublist.cons _ (List.Sublist.cons _ (List.Sublist.cons _ (List.Sublist.cons_cons _ (List.Sublist.slnil))))))⟩
    · -- no
     have hp350 := hp161.2 hb172; clear hp161
     refine sqH ?_; intro hQ351Q hQ351
     refine s1 hF171 61 (.bool ((bShr .u8 q155 4) == 1)) ?_; intro a352 hF353; clear hF171
     refine s1 hF353 60 (.bool ((bShr .u8 q155 4) == 1)) ?_; intro a354 hF355; clear hF353
     refine nlH (hQ351 _ _ ?_); clear hQ351 hQ351Q
     refine cd hF355 (t := (bShr .u8 q155 4) == 1) (by kernel_rfl) (fun hb356 => ?_) (fun hb356 => ?_)
     · -- yes
      have hp357 := hp350.1 hb356; clear hp350
      refine wp_seq ?_
      refine sqH ?_; intro hQ358Q hQ358
      refine s1 hF355 62 (.slice ao4 u1.length cap5) ?_; intro a359 hF360; clear hF355
      refine s1 hF360 63 (.int .i64 (u1.length : Int)) ?_; intro a361 hF362; clear hF360
      refine s1 hF362 64 (.bool ((u1.length : Int) != 8)) ?_; intro a363 hF364; clear hF362
      refine nlH (hQ358 _ _ ?_); clear hQ358 hQ358Q
      refine cd hF364 (t := (u1.length : Int) != 8) (by kernel_rfl) (fun hb365 => ?_) (fun hb365 => ?_)
      · -- yes
       have hp366 := hp357.1 hb365; clear hp357
       refine sqH ?_; intro hQ367Q hQ367
       refine s1 hF364 65 (.agg #[.int .i64 0, .slice none 0 0, .int .i64 0, .int .i64 0, .int .i64 0]) ?_; intro a368 hF369; clear hF364
       refine sr hF369 hM123 1 [.int .i64 0, .slice none 0 0, .int .i64 0, .int .i64 0, .int .i64 0] (b := b15) (off := 0) (cs := [.int .i64 0, .slice none 0 0, .int .i64 0, .int .i64 0, .int .i64 0]) (ty := 71) (u := .agg #[.int .i64 0, .slice none 0 0, .int .i64 0, .int .i64 0, .int .i64 0]) (nog rfl _) rfl rfl (by kernel_rfl) (by kernel_rfl) (by kernel_rfl) (by kernel_rfl) (by kernel_rfl) (by kernel_rfl) (by kernel_rfl) ?_; intro wd370 hM371; clear hM123
       refine s1 hF369 5 (.slice none 0 0) ?_; intro a372 hF373; clear hF369
       refine s1 hF373 6 (.slice none 0 0) ?_; intro a374 hF375; clear hF373
       refine s1 hF375 7 (.int .i64 4) ?_; intro a376 hF377; clear hF375
       have hM378 : Mem w.heap.size [] w Z [.row b116 [.int .i64 0, .slice none 0 0, .int .i64 0, .int .i64 u0.Block, .int .i64 0] 71, .row b15 [.int .i64 0, .slice none 0 0, .int .i64 0, .int .i64 0, .int .i64 0] 71, .row b10 [.int .i64 u0.Want, .slice ao1 u0.Data.length cap2, .int .i64 u0.Next, .int .i64 u0.Block, .int .i64 u0.Left] 71] Z wd370 := hM371; clear hM371
       refine nlH (hQ367 _ _ ?_); clear hQ367 hQ367Q
       refine wp_ret ?_
       refine thr ?_
       refine ibr ?_
       refine thr ?_
       have hM379 : Mem w.heap.size [] w Z [.own (tyInt .u8) 5 none 0 ([] : List Int), .row b116 [.int .i64 0, .slice none 0 0, .int .i64 0, .int .i64 u0.Block, .int .i64 0] 71, .row b15 [.int .i64 0, .slice none 0 0, .int .i64 0, .int .i64 0, .int .i64 0] 71, .row b10 [.int .i64 u0.Want, .slice ao1 u0.Data.length cap2, .int .i64 u0.Next, .int .i64 u0.Block, .int .i64 u0.Left] 71] Z wd370 := hM378.addNil (tyInt .u8) 5 (by decide); clear hM378
       have hM380 : Mem w.heap.size [] w Z [.own (tyInt .u8) 5 none 0 ([] : List Int), .own (tyInt .u8) 5 none 0 ([] : List Int), .row b116 [.int .i64 0, .slice none 0 0, .int .i64 0, .int .i64 u0.Block, .int .i64 0] 71, .row b15 [.int .i64 0, .slice none 0 0, .int .i64 0, .int .i64 0, .int .i64 0] 71, .row b10 [.int .i64 u0.Want, .slice ao1 u0.Data.length cap2, .int .i64 u0.Next, .int .i64 u0.Block, .int .i64 u0.Left] 71] Z wd370 := hM379.addNil (tyInt .u8) 5 (by decide); clear hM379
       refine rt (fn := Try.f41) (v := .tuple #[.agg #[.int .i64 0, .slice none 0 0, .int .i64 0, .int .i64 0, .int .i64 0], .slice none ([] : List Int).length 0, .slice none ([] : List Int).length 0, .int .i64 4]) hF377 (re4c hF377 (fn := Try.f41) rfl (ad := ⟨b15, 0, none⟩) (by kernel_rfl) (loadVar_run hM380 3 (b := b15) (k := 5) (vs := [.int .i64 0, .slice none 0 0, .int .i64 0, .int .i64 0, .int .i64 0]) (ty := 71) rfl (by kernel_rfl) (by kernel_rfl)) (by kernel_rfl) (by kernel_rfl) (by kernel_rfl)) ?_
       exact ⟨((⟨0, [], 0, 0, 0⟩ : Getter), ([] : List Int), ([] : List Int), 4, true, true), none, 0, none, 0, none, 0, Z, rfl, hp366, (SlR.nil _ _), rfl, rfl, hM380.keep (List.Sublist.cons_cons _ (List.Sublist.cons_cons _ (List.Sublist.cons _ (List.Sublist.cons _ (List.Sublist.cons _ (List.Sublist.slnil))))))⟩
      · -- no
       have hp381 := hp357.2 hb365; clear hp357
       refine wp_skip ?_
       refine thn ?_
       refine sqH ?_; intro hQ382Q hQ382
       refine s1 hF364 66 (.int .i64 (w64 (bAnd .u8 q132 15))) ?_; intro a383 hF384; clear hF364
       refine s1 hF384 67 (.int .i64 (bShl .i64 (w64 (bAnd .u8 q132 15)) 8)) ?_; intro a385 hF386; clear hF384
       refine s1 hF386 68 (.slice ao4 u1.length cap5) ?_; intro a387 hF388; clear hF386
       have hc389 := hp381.1; have hp390 := hp381.2; clear hp381
       refine ix hF388 (T := (tyInt .u8)) (xs := u1) hs6 (1 : Int) hc389 (k := .i64) (e := 5) (bytes := 1) (nog rfl _) rfl (by kernel_rfl) rfl (by kernel_rfl) (by kernel_rfl) (by kernel_rfl) ?_; intro b391 off392 cs393 q394 a398 hq395 hP396 hT397 hF399; clear hF388
       have hp400 := hp390 q394 hq395; clear hp390
       obtain rfl : cs393 = ([.int .u8 q394] : List Value) := hT397
       refine z1 hF399 hM123 70 hP396 0 (.int .u8 q394) rfl ?_; intro a401 hF402; clear hF399
       refine s1 hF402 71 (.int .i64 (w64 q394)) ?_; intro a403 hF404; clear hF402
       refine s1 hF404 72 (.int .i64 (bOr .i64 (bShl .i64 (w64 (bAnd .u8 q132 15)) 8) (w64 q394))) ?_; intro a405 hF406; clear hF404
       refine s1 hF406 11 (.int .i64 (bOr .i64 (bShl .i64 (w64 (bAnd .u8 q132 15)) 8) (w64 q394))) ?_; intro a407 hF408; clear hF406
       refine nlH (hQ382 _ _ ?_); clear hQ382 hQ382Q
       refine wp_seq ?_
       have hF409 : Fr 157 [] [⟨1, [], .slice ao4 u1.length cap5⟩, ⟨2, [], .pointer (some ⟨b10, 0, none⟩)⟩, ⟨4, [], .pointer (some ⟨b15, 0, none⟩)⟩, ⟨9, [], .pointer (some ⟨b116, 0, none⟩)⟩, ⟨11, [], .int .i64 (bOr .i64 (bShl .i64 (w64 (bAnd .u8 q132 15)) 8) (w64 q394))⟩] a407 := hF408.region (by kernel_rfl) (by kernel_rfl); clear hF408
       refine sqH ?_; intro hQ410Q hQ410
       refine s1 hF409 73 (.int .i64 (bOr .i64 (bShl .i64 (w64 (bAnd .u8 q132 15)) 8) (w64 q394))) ?_; intro a411 hF412; clear hF409
       refine s1 hF412 74 (.bool (decide ((bOr .i64 (bShl .i64 (w64 (bAnd .u8 q132 15)) 8) (w64 q394)) < 8))) ?_; intro a413 hF414; clear hF412
       refine nlH (hQ410 _ _ ?_); clear hQ410 hQ410Q
       refine cd hF414 (t := decide ((bOr .i64 (bShl .i64 (w64 (bAnd .u8 q132 15)) 8) (w64 q394)) < 8)) (by kernel_rfl) (fun hb415 => ?_) (fun hb415 => ?_)
       · -- yes
        have hp416 := hp400.1 hb415; clear hp400
        refine sqH ?_; intro hQ417Q hQ417
        refine s1 hF414 75 (.agg #[.int .i64 0, .slice none 0 0, .int .i64 0, .int .i64 0, .int .i64 0]) ?_; intro a418 hF419; clear hF414
        refine sr hF419 hM123 1 [.int .i64 0, .slice none 0 0, .int .i64 0, .int .i64 0, .int .i64 0] (b := b15) (off := 0) (cs := [.int .i64 0, .slice none 0 0, .int .i64 0, .int .i64 0, .int .i64 0]) (ty := 71) (u := .agg #[.int .i64 0, .slice none 0 0, .int .i64 0, .int .i64 0, .int .i64 0]) (nog rfl _) rfl rfl (by kernel_rfl) (by kernel_rfl) (by kernel_rfl) (by kernel_rfl) (by kernel_rfl) (by kernel_rfl) (by kernel_rfl) ?_; intro wd420 hM421; clear hM123
        refine s1 hF419 5 (.slice none 0 0) ?_; intro a422 hF423; clear hF419
        refine s1 hF423 6 (.slice none 0 0) ?_; intro a424 hF425; clear hF423
        refine s1 hF425 7 (.int .i64 4) ?_; intro a426 hF427; clear hF425
        have hM428 : Mem w.heap.size [] w Z [.row b116 [.int .i64 0, .slice none 0 0, .int .i64 0, .int .i64 u0.Block, .int .i64 0] 71, .row b15 [.int .i64 0, .slice none 0 0, .int .i64 0, .int .i64 0, .int .i64 0] 71, .row b10 [.int .i64 u0.Want, .slice ao1 u0.Data.length cap2, .int .i64 u0.Next, .int .i64 u0.Block, .int .i64 u0.Left] 71] Z wd420 := hM421; clear hM421
        refine nlH (hQ417 _ _ ?_); clear hQ417 hQ417Q
        refine wp_ret ?_
        refine thr ?_
        refine ibr ?_
        refine thr ?_
        have hM429 : Mem w.heap.size [] w Z [.own (tyInt .u8) 5 none 0 ([] : List Int), .row b116 [.int .i64 0, .slice none 0 0, .int .i64 0, .int .i64 u0.Block, .int .i64 0] 71, .row b15 [.int .i64 0, .slice none 0 0, .int .i64 0, .int .i64 0, .int .i64 0] 71, .row b10 [.int .i64 u0.Want, .slice ao1 u0.Data.length cap2, .int .i64 u0.Next, .int .i64 u0.Block, .int .i64 u0.Left] 71] Z wd420 := hM428.addNil (tyInt .u8) 5 (by decide); clear hM428
        have hM430 : Mem w.heap.size [] w Z [.own (tyInt .u8) 5 none 0 ([] : List Int), .own (tyInt .u8) 5 none 0 ([] : List Int), .row b116 [.int .i64 0, .slice none 0 0, .int .i64 0, .int .i64 u0.Block, .int .i64 0] 71, .row b15 [.int .i64 0, .slice none 0 0, .int .i64 0, .int .i64 0, .int .i64 0] 71, .row b10 [.int .i64 u0.Want, .slice ao1 u0.Data.length cap2, .int .i64 u0.Next, .int .i64 u0.Block, .int .i64 u0.Left] 71] Z wd420 := hM429.addNil (tyInt .u8) 5 (by decide); clear hM429
        refine rt (fn := Try.f41) (v := .tuple #[.agg #[.int .i64 0, .slice none 0 0, .int .i64 0, .int .i64 0, .int .i64 0], .slice none ([] : List Int).length 0, .slice none ([] : List Int).length 0, .int .i64 4]) hF427 (re4c hF427 (fn := Try.f41) rfl (ad := ⟨b15, 0, none⟩) (by kernel_rfl) (loadVar_run hM430 3 (b := b15) (k := 5) (vs := [.int .i64 0, .slice none 0 0, .int .i64 0, .int .i64 0, .int .i64 0]) (ty := 71) rfl (by kernel_rfl) (by kernel_rfl)) (by kernel_rfl) (by kernel_rfl) (by kernel_rfl)) ?_
        exact ⟨((⟨0, [], 0, 0, 0⟩ : Getter), ([] : List Int), ([] : List Int), 4, true, true), none, 0, none, 0, none, 0, Z, rfl, hp416, (SlR.nil _ _), rfl, rfl, hM430.keep (List.Sublist.cons_cons _ (List.Sublist.cons_cons _ (List.Sublist.cons _ (List.Sublist.cons _ (List.Sublist.cons _ (List.Sublist.slnil))))))⟩
       · -- no
        have hp431 := hp400.2 hb415; clear hp400
        refine wp_skip ?_
        refine thn ?_
        refine wp_seq ?_
        refine sqH ?_; intro hQ432Q hQ432
        refine s1 hF414 76 (.int .i64 (bOr .i64 (bShl .i64 (w64 (bAnd .u8 q132 15)) 8) (w64 q394))) ?_; intro a433 hF434; clear hF414
        refine s1 hF434 77 (.bool (decide ((bOr .i64 (bShl .i64 (w64 (bAnd .u8 q132 15)) 8) (w64 q394)) > 300))) ?_; intro a435 hF436; clear hF434
        refine nlH (hQ432 _ _ ?_); clear hQ432 hQ432Q
        refine cd hF436 (t := decide ((bOr .i64 (bShl .i64 (w64 (bAnd .u8 q132 15)) 8) (w64 q394)) > 300)) (by kernel_rfl) (fun hb437 => ?_) (fun hb437 => ?_)
        · -- yes
         have hp438 := hp431.1 hb437; clear hp431
         refine sqH ?_; intro hQ439Q hQ439
         refine l2 hF436 hM123 78 0 0 5 [.int .i64 0, .slice none 0 0, .int .i64 0, .int .i64 u0.Block, .int .i64 0] rfl rfl ?_; intro a440 hF441; clear hF436
         refine sn hF441 hM123 (fun b => .slice (some ⟨b, 0, none⟩) 3 3) [.int .u8 50, .int .u8 0, .int .u8 0] 5 (nog rfl _) rfl (by kernel_rfl) (by kernel_rfl) ?_; intro b442 a443 wd445 hF444 hM446; clear hF441 hM123
         refine sr hF444 hM446 2 [.int .i64 0, .slice none 0 0, .int .i64 0, .int .i64 u0.Block, .int .i64 0] (b := b15) (off := 0) (cs := [.int .i64 0, .slice none 0 0, .int .i64 0, .int .i64 0, .int .i64 0]) (ty := 71) (u := .agg #[.int .i64 0, .slice none 0 0, .int .i64 0, .int .i64 u0.Block, .int .i64 0]) (nog rfl _) rfl rfl (by kernel_rfl) (by kernel_rfl) (by kernel_rfl) (by kernel_rfl) (by kernel_rfl) (by kernel_rfl) (by kernel_rfl) ?_; intro wd447 hM448; clear hM446
         refine s1 hF444 5 (.slice (some ⟨b442, 0, none⟩) 3 3) ?_; intro a449 hF450; clear hF444
         refine s1 hF450 6 (.slice none 0 0) ?_; intro a451 hF452; clear hF450
         refine s1 hF452 7 (.int .i64 0) ?_; intro a453 hF454; clear hF452
         have hM455 : Mem w.heap.size [] w Z [.row b442 [.int .u8 50, .int .u8 0, .int .u8 0] 5, .row b116 [.int .i64 0, .slice none 0 0, .int .i64 0, .int .i64 u0.Block, .int .i64 0] 71, .row b15 [.int .i64 0, .slice none 0 0, .int .i64 0, .int .i64 u0.Block, .int .i64 0] 71, .row b10 [.int .i64 u0.Want, .slice ao1 u0.Data.length cap2, .int .i64 u0.Next, .int .i64 u0.Block, .int .i64 u0.Left] 71] Z wd447 := hM448; clear hM448
         refine nlH (hQ439 _ _ ?_); clear hQ439 hQ439Q
         refine wp_ret ?_
         refine thr ?_
         refine ibr ?_
         refine thr ?_
         have hM456 : Mem w.heap.size [] w Z [.own (tyInt .u8) 5 (some ⟨b442, 0, none⟩) 3 ([50, 0, 0] : List Int), .row b116 [.int .i64 0, .slice none 0 0, .int .i64 0, .int .i64 u0.Block, .int .i64 0] 71, .row b15 [.int .i64 0, .slice none 0 0, .int .i64 0, .int .i64 u0.Block, .int .i64 0] 71, .row b10 [.int .i64 u0.Want, .slice ao1 u0.Data.length cap2, .int .i64 u0.Next, .int .i64 u0.Block, .int .i64 u0.Left] 71] Z wd447 := hM455.rowOwn (T := (tyInt .u8)) (xs := ([50, 0, 0] : List Int)) 0 rfl (by decide) (by show 3 ≤ lim; decide) ((RepAll.one (T := (tyInt .u8)) (x := 50) rfl).append ((RepAll.one (T := (tyInt .u8)) (x := 0) rfl).append (RepAll.one (T := (tyInt .u8)) (x := 0) rfl))); clear hM455
         have hM457 : Mem w.heap.size [] w Z [.own (tyInt .u8) 5 none 0 ([] : List Int), .own (tyInt .u8) 5 (some ⟨b442, 0, none⟩) 3 ([50, 0, 0] : List Int), .row b116 [.int .i64 0, .slice none 0 0, .int .i64 0, .int .i64 u0.Block, .int .i64 0] 71, .row b15 [.int .i64 0, .slice none 0 0, .int .i64 0, .int .i64 u0.Block, .int .i64 0] 71, .row b10 [.int .i64 u0.Want, .slice ao1 u0.Data.length cap2, .int .i64 u0.Next, .int .i64 u0.Block, .int .i64 u0.Left] 71] Z wd447 := hM456.addNil (tyInt .u8) 5 (by decide); clear hM456
         refine rt (fn := Try.f41) (v := .tuple #[.agg #[.int .i64 0, .slice none 0 0, .int .i64 0, .int .i64 u0.Block, .int .i64 0], .slice (some ⟨b442, 0, none⟩) ([50, 0, 0] : List Int).length 3, .slice none ([] : List Int).length 0, .int .i64 0]) hF454 (re4c hF454 (fn := Try.f41) rfl (ad := ⟨b15, 0, none⟩) (by kernel_rfl) (loadVar_run hM457 3 (b := b15) (k := 5) (vs := [.int .i64 0, .slice none 0 0, .int .i64 0, .int .i64 u0.Block, .int .i64 0]) (ty := 71) rfl (by kernel_rfl) (by kernel_rfl)) (by kernel_rfl) (by kernel_rfl) (by kernel_rfl)) ?_
         have hM458 := hM457.perm ((pk 1 rfl).trans ((List.Perm.refl _).cons _))
         exact ⟨((⟨0, [], 0, u0.Block, 0⟩ : Getter), ([50, 0, 0] : List Int), ([] : List Int), 0, false, true), none, 0, (some ⟨b442, 0, none⟩), 3, none, 0, Z, rfl, hp438, (SlR.nil _ _), rfl, rfl, hM458.keep (List.Sublist.cons_cons _ (List.Sublist.cons_cons _ (List.Sublist.cons _ (List.Sublist.cons _ (List.Sublist.cons _ (List.Sublist.slnil))))))⟩
        · -- no
         have hp459 := hp431.2 hb437; clear hp431
         refine wp_skip ?_
         refine thn ?_
         have hF460 : Fr 157 [] [⟨1, [], .slice ao4 u1.length cap5⟩, ⟨2, [], .pointer (some ⟨b10, 0, none⟩)⟩, ⟨4, [], .pointer (some ⟨b15, 0, none⟩)⟩, ⟨9, [], .pointer (some ⟨b116, 0, none⟩)⟩, ⟨11, [], .int .i64 (bOr .i64 (bShl .i64 (w64 (bAnd .u8 q132 15)) 8) (w64 q394))⟩] a435 := hF436.region (by kernel_rfl) (by kernel_rfl); clear hF436
         have hcd2_0 := hp459.1; have hp500 := hp459.2; clear hp459
         have hcd3_0 := hp500.1; have hp501 := hp500.2; clear hp500
         refine wp_seq (any_invE mixed [[], [], [1], [2], [], [4], [0], [0, 3, 6], [0, 1, 2, 3, 6, 7], [0, 1, 2, 3, 6, 7, 8], [0, 1, 2, 3, 6, 7, 8, 9], [0, 1, 2, 3, 6, 7, 8, 9, 10], [0, 1, 2, 3, 4, 5, 6, 7, 8, 9, 10, 11], [0, 1, 2, 3, 4, 5, 6, 7, 8, 9, 10, 11, 12]] 14 (fun S a w1 => ∃ (ao465 : Option Addr) (cap466 : Nat) (ao475 : Option Addr) (cap476 : Nat) (ud80 : Value) (ud81 : Value) (ud82 : Value) (ud83 : Value) (ud84 : Value) (ud85 : Value) (ud86 : Value) (ud87 : Value) (ud88 : Value) (ud89 : Value) (rh0 : Res) (rh1 : Res) (rh2 : Res) (rh3 : Res) (Z502 : Fz), Fz.le Z Z502 ∧ Fr 157 [] [⟨1, [], .slice ao4 u1.length cap5⟩, ⟨2, [], .pointer (some ⟨b10, 0, none⟩)⟩, ⟨4, [], .pointer (some ⟨b15, 0, none⟩)⟩, ⟨9, [], .pointer (some ⟨b116, 0, none⟩)⟩, ⟨11, [], .int .i64 (bOr .i64 (bShl .i64 (w64 (bAnd .u8 q132 15)) 8) (w64 q394))⟩, ⟨80, [], ud80⟩, ⟨81, [], ud81⟩, ⟨82, [], ud82⟩, ⟨83, [], ud83⟩, ⟨84, [], ud84⟩, ⟨85, [], ud85⟩, ⟨86, [], ud86⟩, ⟨87, [], ud87⟩, ⟨88, [], ud88⟩, ⟨89, [], ud89⟩] a ∧ Mem w.heap.size [] w Z [rh0, rh1, rh2, rh3] Z502 w1 ∧ (S 0 = true → ud80 = .int .i64 (bOr .i64 (bShl .i64 (w64 (bAnd .u8 q132 15)) 8) (w64 q394))) ∧ (S 1 = true → ud81 = .slice ao4 u1.length cap5) ∧ (S 2 = true → ud82 = .slice ao465 (u1.drop (2 : Int).toNat).length cap466) ∧ (S 3 = true → ud83 = .slice ao475 (bcloneS (u1.drop (2 : Int).toNat)).length cap476) ∧ (S 4 = true → ud84 = .pointer (some ⟨b10, 3, none⟩)) ∧ (S 5 = true → ud85 = .int .i64 u0.Block) ∧ (S 6 = true → ud86 = .pointer (some ⟨b116, 0, none⟩)) ∧ (S 8 = true → ud87 = .pointer (some ⟨b116, 1, none⟩)) ∧ (S 10 = true → ud88 = .pointer (some ⟨b116, 2, none⟩)) ∧ (S 12 = true → ud89 = .pointer (some ⟨b116, 4, none⟩)) ∧ (S 7 = false → rh0 = .row b116 [.int .i64 0, .slice none 0 0, .int .i64 0, .int .i64 u0.Block, .int .i64 0] 71) ∧ (S 7 = true → S 9 = false → rh0 = .row b116 [.int .i64 (bOr .i64 (bShl .i64 (w64 (bAnd .u8 q132 15)) 8) (w64 q394)), .slice none 0 0, .int .i64 0, .int .i64 u0.Block, .int .i64 0] 71) ∧ (S 9 = true → S 11 = false → rh0 = .row b116 [.int .i64 (bOr .i64 (bShl .i64 (w64 (bAnd .u8 q132 15)) 8) (w64 q394)), .slice ao475 (bcloneS (u1.drop (2 : Int).toNat)).length cap476, .int .i64 0, .int .i64 u0.Block, .int .i64 0] 71) ∧ (S 11 = true → S 13 = false → rh0 = .row b116 [.int .i64 (bOr .i64 (bShl .i64 (w64 (bAnd .u8 q132 15)) 8) (w64 q394)), .slice ao475 (bcloneS (u1.drop (2 : Int).toNat)).length cap476, .int .i64 1, .int .i64 u0.Block, .int .i64 0] 71) ∧ (S 13 = true → rh0 = .row b116 [.int .i64 (bOr .i64 (bShl .i64 (w64 (bAnd .u8 q132 15)) 8) (w64 q394)), .slice ao475 (bcloneS (u1.drop (2 : Int).toNat)).length cap476, .int .i64 1, .int .i64 u0.Block, .int .i64 u0.Block] 71) ∧ (rh1 = .row b15 [.int .i64 0, .slice none 0 0, .int .i64 0, .int .i64 0, .int .i64 0] 71) ∧ (rh2 = .row b10 [.int .i64 u0.Want, .slice ao1 u0.Data.length cap2, .int .i64 u0.Next, .int .i64 u0.Block, .int .i64 u0.Left] 71) ∧ (S 3 = false → rh3 = .nil) ∧ (S 3 = true → rh3 = .own (tyInt .u8) 5 ao475 cap476 (bcloneS (u1.drop (2 : Int).toNat))) ∧ (S 2 = true → SlR (tyInt .u8) Z502 ao465 cap466 (u1.drop (2 : Int).toNat))) ?h0 ?hs ?hE)
         case h0 =>
          have hF504 := hF460.any 80
          have hF505 := hF504.any 81
          have hF506 := hF505.any 82
          have hF507 := hF506.any 83
          have hF508 := hF507.any 84
          have hF509 := hF508.any 85
          have hF510 := hF509.any 86
          have hF511 := hF510.any 87
          have hF512 := hF511.any 88
          have hF513 := hF512.any 89
          have hM514 := hM123.nilRes
          have hM515 := (hM514.perm ((pk 1 rfl).trans (((pk 1 rfl).trans (((pk 1 rfl).trans ((List.Perm.refl _).cons _)).cons _)).cons _))).drew
          exact ⟨none, 0, none, 0, a435.tmps.getD 80 undef, a435.tmps.getD 81 undef, a435.tmps.getD 82 undef, a435.tmps.getD 83 undef, a435.tmps.getD 84 undef, a435.tmps.getD 85 undef, a435.tmps.getD 86 undef, a435.tmps.getD 87 undef, a435.tmps.getD 88 undef, a435.tmps.getD 89 undef, .row b116 [.int .i64 0, .slice none 0 0, .int .i64 0, .int .i64 u0.Block, .int .i64 0] 71, .row b15 [.int .i64 0, .slice none 0 0, .int .i64 0, .int .i64 0, .int .i64 0] 71, .row b10 [.int .i64 u0.Want, .slice ao1 u0.Data.length cap2, .int .i64 u0.Next, .int .i64 u0.Block, .int .i64 u0.Left] 71, .nil, Z, Fz.le.refl _, hF513.region (by kernel_rfl) (by kernel_rfl), hM515, ff, ff, ff, ff, ff, ff, ff, ff, ff, ff, kf, ff, ff, ff, ff, rfl, rfl, kf, ff, ff⟩
         case hs =>
          intro S hcl i o hil hi hSi hpre a w1 hI; refine hid ?_; intro G hG; obtain ⟨ao465, hI⟩ := hI; obtain ⟨cap466, hI⟩ := hI; obtain ⟨ao475, hI⟩ := hI; obtain ⟨cap476, hI⟩ := hI; obtain ⟨ud80, hI⟩ := hI; obtain ⟨ud81, hI⟩ := hI; obtain ⟨ud82, hI⟩ := hI; obtain ⟨ud83, hI⟩ := hI; obtain ⟨ud84, hI⟩ := hI; obtain ⟨ud85, hI⟩ := hI; obtain ⟨ud86, hI⟩ := hI; obtain ⟨ud87, hI⟩ := hI; obtain ⟨ud88, hI⟩ := hI; obtain ⟨ud89, hI⟩ := hI; obtain ⟨rh0, hI⟩ := hI; obtain ⟨rh1, hI⟩ := hI; obtain ⟨rh2, hI⟩ := hI; obtain ⟨rh3, hI⟩ := hI; obtain ⟨Z502, hI⟩ := hI; obtain ⟨hle503, hI⟩ := hI; obtain ⟨hFx, hI⟩ := hI; obtain ⟨hMx, hI⟩ := hI; obtain ⟨cu80, hI⟩ := hI; obtain ⟨cu81, hI⟩ := hI; obtain ⟨cu82, hI⟩ := hI; obtain ⟨cu83, hI⟩ := hI; obtain ⟨cu84, hI⟩ := hI; obtain ⟨cu85, hI⟩ := hI; obtain ⟨cu86, hI⟩ := hI; obtain ⟨cu87, hI⟩ := hI; obtain ⟨cu88, hI⟩ := hI; obtain ⟨cu89, hI⟩ := hI; obtain ⟨cr0_0, hI⟩ := hI; obtain ⟨cr0_1, hI⟩ := hI; obtain ⟨cr0_2, hI⟩ := hI; obtain ⟨cr0_3, hI⟩ := hI; obtain ⟨cr0_4, hI⟩ := hI; obtain ⟨cr1_0, hI⟩ := hI; obtain ⟨cr2_0, hI⟩ := hI; obtain ⟨cr3_0, hI⟩ := hI; obtain ⟨cr3_1, hI⟩ := hI; have cf0 := hI; clear hI
          have hcase : i = 0 ∨ i = 1 ∨ i = 2 ∨ i = 3 ∨ i = 4 ∨ i = 5 ∨ i = 6 ∨ i = 7 ∨ i = 8 ∨ i = 9 ∨ i = 10 ∨ i = 11 ∨ i = 12 ∨ i = 13 := by clear hi; omega
          rcases hcase with rfl | rfl | rfl | rfl | rfl | rfl | rfl | rfl | rfl | rfl | rfl | rfl | rfl | rfl
          · -- 0: move
           obtain rfl := Option.some.inj hi
           have hx0 := hSi
           have hx6 := negF hcl 6 0 (by kernel_rfl) hx0
           have hx7 := negF hcl 7 0 (by kernel_rfl) hx0
           have hx8 := negF hcl 8 0 (by kernel_rfl) hx0
           have hx9 := negF hcl 9 0 (by kernel_rfl) hx0
           have hx10 := negF hcl 10 0 (by kernel_rfl) hx0
           have hx11 := negF hcl 11 0 (by kernel_rfl) hx0
           have hx12 := negF hcl 12 0 (by kernel_rfl) hx0
           have hx13 := negF hcl 13 0 (by kernel_rfl) hx0
           obtain rfl := cr0_0 hx7
           obtain rfl := cr1_0
           obtain rfl := cr2_0
           refine hG (any_step ?_); clear hG G; intro A J hJ
           have hle0 := Fz.le.trans hle0 hle503
           have hzst := Fz.le.refl Z502
           have hs516 := hs3.mono hle503
           have hs517 := hs6.mono hle503
           have hs518 := hP134.mono hle503
           have hs519 := hP157.mono hle503
           have hs520 := hP396.mono hle503
           refine s1 hFx 80 (.int .i64 (bOr .i64 (bShl .i64 (w64 (bAnd .u8 q132 15)) 8) (w64 q394))) ?_; intro a521 hF522; clear hFx
           refine nl (qnI (hJ _ _ ?_)); clear hJ J
           exact ⟨ao465, cap466, ao475, cap476, .int .i64 (bOr .i64 (bShl .i64 (w64 (bAnd .u8 q132 15)) 8) (w64 q394)), ud81, ud82, ud83, ud84, ud85, ud86, ud87, ud88, ud89, .row b116 [.int .i64 0, .slice none 0 0, .int .i64 0, .int .i64 u0.Block, .int .i64 0] 71, .row b15 [.int .i64 0, .slice none 0 0, .int .i64 0, .int .i64 0, .int .i64 0] 71, .row b10 [.int .i64 u0.Want, .slice ao1 u0.Data.length cap2, .int .i64 u0.Next, .int .i64 u0.Block, .int .i64 u0.Left] 71, rh3, Z502, hle503, hF522.region (by kernel_rfl) (by kernel_rfl), hMx.perm (List.Perm.refl _), kf, cu81, cu82, cu83, cu84, cu85, (nt hx6), (nt hx8), (nt hx10), (nt hx12), kf, (fun h _ => nt hx7 h), (fun h _ => nt hx9 h), (fun h _ => nt hx11 h), (nt hx13), rfl, rfl, cr3_0, cr3_1, cf0⟩
          · -- 1: move
           obtain rfl := Option.some.inj hi
           have hx1 := hSi
           have hx2 := negF hcl 2 1 (by kernel_rfl) hx1
           have hx3 := negF hcl 3 2 (by kernel_rfl) hx2
           have hx7 := negF hcl 7 3 (by kernel_rfl) hx3
           have hx8 := negF hcl 8 1 (by kernel_rfl) hx1
           have hx9 := negF hcl 9 1 (by kernel_rfl) hx1
           have hx10 := negF hcl 10 1 (by kernel_rfl) hx1
           have hx11 := negF hcl 11 1 (by kernel_rfl) hx1
           have hx12 := negF hcl 12 1 (by kernel_rfl) hx1
           have hx13 := negF hcl 13 1 (by kernel_rfl) hx1
           obtain rfl := cr0_0 hx7
           obtain rfl := cr1_0
           obtain rfl := cr2_0
           obtain rfl := cr3_0 hx3
           refine hG (any_step ?_); clear hG G; intro A J hJ
           have hle0 := Fz.le.trans hle0 hle503
           have hzst := Fz.le.refl Z502
           have hs524 := hs3.mono hle503
           have hs525 := hs6.mono hle503
           have hs526 := hP134.mono hle503
           have hs527 := hP157.mono hle503
           have hs528 := hP396.mono hle503
           have hM529 := hMx.keep (List.Sublist.cons_cons _ (List.Sublist.cons_cons _ (List.Sublist.cons_cons _ (List.Sublist.cons _ (List.Sublist.slnil))))); clear hMx
           refine s1 hFx 81 (.slice ao4 u1.length cap5) ?_; intro a530 hF531; clear hFx
           refine nl (qnI (hJ _ _ ?_)); clear hJ J
           have hM532 := hM529.nilRes
           exact ⟨ao465, cap466, ao475, cap476, ud80, .slice ao4 u1.length cap5, ud82, ud83, ud84, ud85, ud86, ud87, ud88, ud89, .row b116 [.int .i64 0, .slice none 0 0, .int .i64 0, .int .i64 u0.Block, .int .i64 0] 71, .row b15 [.int .i64 0, .slice none 0 0, .int .i64 0, .int .i64 0, .int .i64 0] 71, .row b10 [.int .i64 u0.Want, .slice ao1 u0.Data.length cap2, .int .i64 u0.Next, .int .i64 u0.Block, .int .i64 u0.Left] 71, .nil, Z502, hle503, hF531.region (by kernel_rfl) (by kernel_rfl), hM532.perm ((pk 1 rfl).trans (((pk 1 rfl).trans (((pk 1 rfl).trans ((List.Perm.refl _).cons _)).cons _)).cons _)), cu80, kf, (nt hx2), (nt hx3), cu84, cu85, cu86, (nt hx8), (nt hx10), (nt hx12), kf, (fun h _ => nt hx7 h), (fun h _ => nt hx9 h), (fun h _ => nt hx11 h), (nt hx13), rfl, rfl, kf, (nt hx3), (nt hx2)⟩
          · -- 2: slice
           obtain rfl := Option.some.inj hi
           have hx1 := hpre 1 (by kernel_rfl)
           have hx2 := hSi
           have hx3 := negF hcl 3 2 (by kernel_rfl) hx2
           have hx7 := negF hcl 7 3 (by kernel_rfl) hx3
           have hx8 := negF hcl 8 2 (by kernel_rfl) hx2
           have hx9 := negF hcl 9 2 (by kernel_rfl) hx2
           have hx10 := negF hcl 10 2 (by kernel_rfl) hx2
           have hx11 := negF hcl 11 2 (by kernel_rfl) hx2
           have hx12 := negF hcl 12 2 (by kernel_rfl) hx2
           have hx13 := negF hcl 13 2 (by kernel_rfl) hx2
           obtain rfl := cu81 hx1
           obtain rfl := cr0_0 hx7
           obtain rfl := cr1_0
           obtain rfl := cr2_0
           obtain rfl := cr3_0 hx3
           refine hG (any_step ?_); clear hG G; intro A J hJ
           have hle0 := Fz.le.trans hle0 hle503
           have hzst := Fz.le.refl Z502
           have hs534 := hs3.mono hle503
           have hs535 := hs6.mono hle503
           have hs536 := hP134.mono hle503
           have hs537 := hP157.mono hle503
           have hs538 := hP396.mono hle503
           have hM539 := hMx.keep (List.Sublist.cons_cons _ (List.Sublist.cons_cons _ (List.Sublist.cons_cons _ (List.Sublist.cons _ (List.Sublist.slnil))))); clear hMx
           refine slL hFx (T := (tyInt .u8)) (xs := u1) hs535 (2 : Int) hcd2_0 (k := .i64) (e := 5) (bytes := 1) (nog rfl _) rfl (by kernel_rfl) rfl (by kernel_rfl) (by kernel_rfl) (by kernel_rfl) ?_; intro ao540 cap541 a544 hn542 hs543 hF545; clear hFx
           refine nl (qnI (hJ _ _ ?_)); clear hJ J
           have hM546 := hM539.nilRes
           exact ⟨ao540, cap541, ao475, cap476, ud80, .slice ao4 u1.length cap5, .slice ao540 (u1.drop (2 : Int).toNat).length cap541, ud83, ud84, ud85, ud86, ud87, ud88, ud89, .row b116 [.int .i64 0, .slice none 0 0, .int .i64 0, .int .i64 u0.Block, .int .i64 0] 71, .row b15 [.int .i64 0, .slice none 0 0, .int .i64 0, .int .i64 0, .int .i64 0] 71, .row b10 [.int .i64 u0.Want, .slice ao1 u0.Data.length cap2, .int .i64 u0.Next, .int .i64 u0.Block, .int .i64 u0.Left] 71, .nil, Z502, hle503, hF545.region (by kernel_rfl) (by kernel_rfl), hM546.perm ((pk 1 rfl).trans (((pk 1 rfl).trans (((pk 1 rfl).trans ((List.Perm.refl _).cons _)).cons _)).cons _)), cu80, kf, kf, (nt hx3), cu84, cu85, cu86, (nt hx8), (nt hx10), (nt hx12), kf, (fun h _ => nt hx7 h), (fun h _ => nt hx9 h), (fun h _ => nt hx11 h), (nt hx13), rfl, rfl, kf, (nt hx3), (fun _ => hs543)⟩
          · -- 3: call
           obtain rfl := Option.some.inj hi
           have hx2 := hpre 2 (by kernel_rfl)
           have hx1 := hcl 2 1 (by kernel_rfl) hx2
           have hx3 := hSi
           have hx7 := negF hcl 7 3 (by kernel_rfl) hx3
           have hx8 := negF hcl 8 3 (by kernel_rfl) hx3
           have hx9 := negF hcl 9 3 (by kernel_rfl) hx3
           have hx10 := negF hcl 10 3 (by kernel_rfl) hx3
           have hx11 := negF hcl 11 3 (by kernel_rfl) hx3
           have hx12 := negF hcl 12 3 (by kernel_rfl) hx3
           have hx13 := negF hcl 13 3 (by kernel_rfl) hx3
           obtain rfl := cu81 hx1
           obtain rfl := cu82 hx2
           obtain rfl := cr0_0 hx7
           obtain rfl := cr1_0
           obtain rfl := cr2_0
           obtain rfl := cr3_0 hx3
           refine hG (any_step ?_); clear hG G; intro A J hJ
           have hle0 := Fz.le.trans hle0 hle503
           have hzst := Fz.le.refl Z502
           have hs548 := hs3.mono hle503
           have hs549 := hs6.mono hle503
           have hs550 := hP134.mono hle503
           have hs551 := hP157.mono hle503
           have hs552 := hP396.mono hle503
           have hs553 := cf0 hx2
           have hM554 := hMx.keep (List.Sublist.cons_cons _ (List.Sublist.cons_cons _ (List.Sublist.cons_cons _ (List.Sublist.cons _ (List.Sublist.slnil))))); clear hMx
           refine cl hFx 57 #[.slice ao465 (u1.drop (2 : Int).toNat).length cap466] (nog rfl _) rfl (by kernel_rfl) (by kernel_rfl) ?_
           refine (bclone_fun (u1.drop (2 : Int).toNat) hcd3_0 ao465 cap466 _ _ hs553 hM554.fz).mono ?_; rintro _ wd555 ⟨ao559, cap560, Z561, rfl, hm⟩; refine ⟨_, rfl, ?_⟩; intro a556 hF557; have hM558 := hM554.callZ hm; have hle562 := hm.ext.le; clear hm hM554 hFx
           replace hzst := hzst.mono hle562
           replace hs548 := hs548.mono hle562
           replace hs549 := hs549.mono hle562
           replace hs550 := hs550.mono hle562
           replace hs551 := hs551.mono hle562
           replace hs552 := hs552.mono hle562
           replace hs553 := hs553.mono hle562
           replace hle0 := Fz.le.trans hle0 hle562
           have hM563 : Mem w.heap.size [] w Z [.own (tyInt .u8) 5 ao559 cap560 (bcloneS (u1.drop (2 : Int).toNat)), .row b116 [.int .i64 0, .slice none 0 0, .int .i64 0, .int .i64 u0.Block, .int .i64 0] 71, .row b15 [.int .i64 0, .slice none 0 0, .int .i64 0, .int .i64 0, .int .i64 0] 71, .row b10 [.int .i64 u0.Want, .slice ao1 u0.Data.length cap2, .int .i64 u0.Next, .int .i64 u0.Block, .int .i64 u0.Left] 71] Z561 wd555 := hM558; clear hM558
           refine nl (qnI (hJ _ _ ?_)); clear hJ J
           exact ⟨ao465, cap466, ao559, cap560, ud80, .slice ao4 u1.length cap5, .slice ao465 (u1.drop (2 : Int).toNat).length cap466, .slice ao559 (bcloneS (u1.drop (2 : Int).toNat)).length cap560, ud84, ud85, ud86, ud87, ud88, ud89, .row b116 [.int .i64 0, .slice none 0 0, .int .i64 0, .int .i64 u0.Block, .int .i64 0] 71, .row b15 [.int .i64 0, .slice none 0 0, .int .i64 0, .int .i64 0, .int .i64 0] 71, .row b10 [.int .i64 u0.Want, .slice ao1 u0.Data.length cap2, .int .i64 u0.Next, .int .i64 u0.Block, .int .i64 u0.Left] 71, .own (tyInt .u8) 5 ao559 cap560 (bcloneS (u1.drop (2 : Int).toNat)), Z561, hle503.trans hzst, hF557.region (by kernel_rfl) (by kernel_rfl), hM563.perm ((pk 1 rfl).trans (((pk 1 rfl).trans (((pk 1 rfl).trans ((List.Perm.refl _).cons _)).cons _)).cons _)), cu80, kf, kf, kf, cu84, cu85, cu86, (nt hx8), (nt hx10), (nt hx12), kf, (fun h _ => nt hx7 h), (fun h _ => nt hx9 h), (fun h _ => nt hx11 h), (nt hx13), rfl, rfl, nu, kf, (fun _ => hs553)⟩
          · -- 4: fieldAddr
           obtain rfl := Option.some.inj hi
           have hx4 := hSi
           have hx5 := negF hcl 5 4 (by kernel_rfl) hx4
           have hx12 := negF hcl 12 4 (by kernel_rfl) hx4
           have hx13 := negF hcl 13 4 (by kernel_rfl) hx4
           obtain rfl := cr1_0
           obtain rfl := cr2_0
           refine hG (any_step ?_); clear hG G; intro A J hJ
           have hle0 := Fz.le.trans hle0 hle503
           have hzst := Fz.le.refl Z502
           have hs565 := hs3.mono hle503
           have hs566 := hs6.mono hle503
           have hs567 := hP134.mono hle503
           have hs568 := hP157.mono hle503
           have hs569 := hP396.mono hle503
           refine s1 hFx 84 (.pointer (some ⟨b10, 3, none⟩)) ?_; intro a570 hF571; clear hFx
           refine nl (qnI (hJ _ _ ?_)); clear hJ J
           exact ⟨ao465, cap466, ao475, cap476, ud80, ud81, ud82, ud83, .pointer (some ⟨b10, 3, none⟩), ud85, ud86, ud87, ud88, ud89, rh0, .row b15 [.int .i64 0, .slice none 0 0, .int .i64 0, .int .i64 0, .int .i64 0] 71, .row b10 [.int .i64 u0.Want, .slice ao1 u0.Data.length cap2, .int .i64 u0.Next, .int .i64 u0.Block, .int .i64 u0.Left] 71, rh3, Z502, hle503, hF571.region (by kernel_rfl) (by kernel_rfl), hMx.perm (List.Perm.refl _), cu80, cu81, cu82, cu83, kf, (nt hx5), cu86, cu87, cu88, (nt hx12), cr0_0, cr0_1, cr0_2, cr0_3, (nt hx13), rfl, rfl, cr3_0, cr3_1, cf0⟩
          · -- 5: load
           obtain rfl := Option.some.inj hi
           have hx4 := hpre 4 (by kernel_rfl)
           have hx5 := hSi
           have hx12 := negF hcl 12 5 (by kernel_rfl) hx5
           have hx13 := negF hcl 13 5 (by kernel_rfl) hx5
           obtain rfl := cu84 hx4
           obtain rfl := cr1_0
           obtain rfl := cr2_0
           refine hG (any_step ?_); clear hG G; intro A J hJ
           have hle0 := Fz.le.trans hle0 hle503
           have hzst := Fz.le.refl Z502
           have hs573 := hs3.mono hle503
           have hs574 := hs6.mono hle503
           have hs575 := hP134.mono hle503
           have hs576 := hP157.mono hle503
           have hs577 := hP396.mono hle503
           refine l1 hFx hMx 85 2 3 (.int .i64 u0.Block) rfl rfl ?_; intro a578 hF579; clear hFx
           refine nl (qnI (hJ _ _ ?_)); clear hJ J
           exact ⟨ao465, cap466, ao475, cap476, ud80, ud81, ud82, ud83, .pointer (some ⟨b10, 3, none⟩), .int .i64 u0.Block, ud86, ud87, ud88, ud89, rh0, .row b15 [.int .i64 0, .slice none 0 0, .int .i64 0, .int .i64 0, .int .i64 0] 71, .row b10 [.int .i64 u0.Want, .slice ao1 u0.Data.length cap2, .int .i64 u0.Next, .int .i64 u0.Block, .int .i64 u0.Left] 71, rh3, Z502, hle503, hF579.region (by kernel_rfl) (by kernel_rfl), hMx.perm (List.Perm.refl _), cu80, cu81, cu82, cu83, kf, kf, cu86, cu87, cu88, (nt hx12), cr0_0, cr0_1, cr0_2, cr0_3, (nt hx13), rfl, rfl, cr3_0, cr3_1, cf0⟩
          · -- 6: fieldAddr
           obtain rfl := Option.some.inj hi
           have hx0 := hpre 0 (by kernel_rfl)
           have hx6 := hSi
           have hx7 := negF hcl 7 6 (by kernel_rfl) hx6
           have hx8 := negF hcl 8 6 (by kernel_rfl) hx6
           have hx9 := negF hcl 9 6 (by kernel_rfl) hx6
           have hx10 := negF hcl 10 6 (by kernel_rfl) hx6
           have hx11 := negF hcl 11 6 (by kernel_rfl) hx6
           have hx12 := negF hcl 12 6 (by kernel_rfl) hx6
           have hx13 := negF hcl 13 6 (by kernel_rfl) hx6
           obtain rfl := cu80 hx0
           obtain rfl := cr0_0 hx7
           obtain rfl := cr1_0
           obtain rfl := cr2_0
           refine hG (any_step ?_); clear hG G; intro A J hJ
           have hle0 := Fz.le.trans hle0 hle503
           have hzst := Fz.le.refl Z502
           have hs581 := hs3.mono hle503
           have hs582 := hs6.mono hle503
           have hs583 := hP134.mono hle503
           have hs584 := hP157.mono hle503
           have hs585 := hP396.mono hle503
           refine s1 hFx 86 (.pointer (some ⟨b116, 0, none⟩)) ?_; intro a586 hF587; clear hFx
           refine nl (qnI (hJ _ _ ?_)); clear hJ J
           exact ⟨ao465, cap466, ao475, cap476, .int .i64 (bOr .i64 (bShl .i64 (w64 (bAnd .u8 q132 15)) 8) (w64 q394)), ud81, ud82, ud83, ud84, ud85, .pointer (some ⟨b116, 0, none⟩), ud87, ud88, ud89, .row b116 [.int .i64 0, .slice none 0 0, .int .i64 0, .int .i64 u0.Block, .int .i64 0] 71, .row b15 [.int .i64 0, .slice none 0 0, .int .i64 0, .int .i64 0, .int .i64 0] 71, .row b10 [.int .i64 u0.Want, .slice ao1 u0.Data.length cap2, .int .i64 u0.Next, .int .i64 u0.Block, .int .i64 u0.Left] 71, rh3, Z502, hle503, hF587.region (by kernel_rfl) (by kernel_rfl), hMx.perm (List.Perm.refl _), kf, cu81, cu82, cu83, cu84, cu85, kf, (nt hx8), (nt hx10), (nt hx12), kf, (fun h _ => nt hx7 h), (fun h _ => nt hx9 h), (fun h _ => nt hx11 h), (nt hx13), rfl, rfl, cr3_0, cr3_1, cf0⟩
          · -- 7: store
           obtain rfl := Option.some.inj hi
           have hx6 := hpre 6 (by kernel_rfl)
           have hx3 := hpre 3 (by kernel_rfl)
           have hx0 := hpre 0 (by kernel_rfl)
           have hx2 := hcl 3 2 (by kernel_rfl) hx3
           have hx1 := hcl 2 1 (by kernel_rfl) hx2
           have hx7 := hSi
           have hx8 := negF hcl 8 7 (by kernel_rfl) hx7
           have hx9 := negF hcl 9 7 (by kernel_rfl) hx7
           have hx10 := negF hcl 10 7 (by kernel_rfl) hx7
           have hx11 := negF hcl 11 7 (by kernel_rfl) hx7
           have hx12 := negF hcl 12 7 (by kernel_rfl) hx7
           have hx13 := negF hcl 13 7 (by kernel_rfl) hx7
           obtain rfl := cu80 hx0
           obtain rfl := cu81 hx1
           obtain rfl := cu82 hx2
           obtain rfl := cu83 hx3
           obtain rfl := cu86 hx6
           obtain rfl := cr0_0 hx7
           obtain rfl := cr1_0
           obtain rfl := cr2_0
           obtain rfl := cr3_1 hx3
           refine hG (any_step ?_); clear hG G; intro A J hJ
           have hle0 := Fz.le.trans hle0 hle503
           have hzst := Fz.le.refl Z502
           have hs589 := hs3.mono hle503
           have hs590 := hs6.mono hle503
           have hs591 := hP134.mono hle503
           have hs592 := hP157.mono hle503
           have hs593 := hP396.mono hle503
           have hs594 := cf0 hx2
           refine sr hFx hMx 0 [.int .i64 (bOr .i64 (bShl .i64 (w64 (bAnd .u8 q132 15)) 8) (w64 q394)), .slice none 0 0, .int .i64 0, .int .i64 u0.Block, .int .i64 0] (b := b116) (off := 0) (cs := [.int .i64 0, .slice none 0 0, .int .i64 0, .int .i64 u0.Block, .int .i64 0]) (ty := 71) (u := .int .i64 (bOr .i64 (bShl .i64 (w64 (bAnd .u8 q132 15)) 8) (w64 q394))) (nog rfl _) rfl rfl (by kernel_rfl) (by kernel_rfl) (by kernel_rfl) (by kernel_rfl) (by kernel_rfl) (by kernel_rfl) (by kernel_rfl) ?_; intro wd595 hM596; clear hMx
           refine nl (qnI (hJ _ _ ?_)); clear hJ J
           exact ⟨ao465, cap466, ao475, cap476, .int .i64 (bOr .i64 (bShl .i64 (w64 (bAnd .u8 q132 15)) 8) (w64 q394)), .slice ao4 u1.length cap5, .slice ao465 (u1.drop (2 : Int).toNat).length cap466, .slice ao475 (bcloneS (u1.drop (2 : Int).toNat)).length cap476, ud84, ud85, .pointer (some ⟨b116, 0, none⟩), ud87, ud88, ud89, .row b116 [.int .i64 (bOr .i64 (bShl .i64 (w64 (bAnd .u8 q132 15)) 8) (w64 q394)), .slice none 0 0, .int .i64 0, .int .i64 u0.Block, .int .i64 0] 71, .row b15 [.int .i64 0, .slice none 0 0, .int .i64 0, .int .i64 0, .int .i64 0] 71, .row b10 [.int .i64 u0.Want, .slice ao1 u0.Data.length cap2, .int .i64 u0.Next, .int .i64 u0.Block, .int .i64 u0.Left] 71, .own (tyInt .u8) 5 ao475 cap476 (bcloneS (u1.drop (2 : Int).toNat)), Z502, hle503, hFx.region (by kernel_rfl) (by kernel_rfl), hM596.perm (List.Perm.refl _), kf, kf, kf, kf, cu84, cu85, kf, (nt hx8), (nt hx10), (nt hx12), nu, kf2, (fun h _ => nt hx9 h), (fun h _ => nt hx11 h), (nt hx13), rfl, rfl, (tn hx3), kf, (fun _ => hs594)⟩
          · -- 8: fieldAddr
           obtain rfl := Option.some.inj hi
           have hx7 := hpre 7 (by kernel_rfl)
           have hx6 := hpre 6 (by kernel_rfl)
           have hx3 := hpre 3 (by kernel_rfl)
           have hx2 := hpre 2 (by kernel_rfl)
           have hx1 := hpre 1 (by kernel_rfl)
           have hx0 := hpre 0 (by kernel_rfl)
           have hx8 := hSi
           have hx9 := negF hcl 9 8 (by kernel_rfl) hx8
           have hx10 := negF hcl 10 8 (by kernel_rfl) hx8
           have hx11 := negF hcl 11 8 (by kernel_rfl) hx8
           have hx12 := negF hcl 12 8 (by kernel_rfl) hx8
           have hx13 := negF hcl 13 8 (by kernel_rfl) hx8
           obtain rfl := cu80 hx0
           obtain rfl := cu81 hx1
           obtain rfl := cu82 hx2
           obtain rfl := cu83 hx3
           obtain rfl := cu86 hx6
           obtain rfl := cr0_1 hx7 hx9
           obtain rfl := cr1_0
           obtain rfl := cr2_0
           obtain rfl := cr3_1 hx3
           refine hG (any_step ?_); clear hG G; intro A J hJ
           have hle0 := Fz.le.trans hle0 hle503
           have hzst := Fz.le.refl Z502
           have hs598 := hs3.mono hle503
           have hs599 := hs6.mono hle503
           have hs600 := hP134.mono hle503
           have hs601 := hP157.mono hle503
           have hs602 := hP396.mono hle503
           have hs603 := cf0 hx2
           refine s1 hFx 87 (.pointer (some ⟨b116, 1, none⟩)) ?_; intro a604 hF605; clear hFx
           refine nl (qnI (hJ _ _ ?_)); clear hJ J
           exact ⟨ao465, cap466, ao475, cap476, .int .i64 (bOr .i64 (bShl .i64 (w64 (bAnd .u8 q132 15)) 8) (w64 q394)), .slice ao4 u1.length cap5, .slice ao465 (u1.drop (2 : Int).toNat).length cap466, .slice ao475 (bcloneS (u1.drop (2 : Int).toNat)).length cap476, ud84, ud85, .pointer (some ⟨b116, 0, none⟩), .pointer (some ⟨b116, 1, none⟩), ud88, ud89, .row b116 [.int .i64 (bOr .i64 (bShl .i64 (w64 (bAnd .u8 q132 15)) 8) (w64 q394)), .slice none 0 0, .int .i64 0, .int .i64 u0.Block, .int .i64 0] 71, .row b15 [.int .i64 0, .slice none 0 0, .int .i64 0, .int .i64 0, .int .i64 0] 71, .row b10 [.int .i64 u0.Want, .slice ao1 u0.Data.length cap2, .int .i64 u0.Next, .int .i64 u0.Block, .int .i64 u0.Left] 71, .own (tyInt .u8) 5 ao475 cap476 (bcloneS (u1.drop (2 : Int).toNat)), Z502, hle503, hF605.region (by kernel_rfl) (by kernel_rfl), hMx.perm (List.Perm.refl _), kf, kf, kf, kf, cu84, cu85, kf, kf, (nt hx10), (nt hx12), (tn hx7), kf2, (fun h _ => nt hx9 h), (fun h _ => nt hx11 h), (nt hx13), rfl, rfl, (tn hx3), kf, (fun _ => hs603)⟩
          · -- 9: store
           obtain rfl := Option.some.inj hi
           have hx8 := hpre 8 (by kernel_rfl)
           have hx7 := hpre 7 (by kernel_rfl)
           have hx6 := hpre 6 (by kernel_rfl)
           have hx3 := hpre 3 (by kernel_rfl)
           have hx2 := hpre 2 (by kernel_rfl)
           have hx1 := hpre 1 (by kernel_rfl)
           have hx0 := hpre 0 (by kernel_rfl)
           have hx9 := hSi
           have hx10 := negF hcl 10 9 (by kernel_rfl) hx9
           have hx11 := negF hcl 11 9 (by kernel_rfl) hx9
           have hx12 := negF hcl 12 9 (by kernel_rfl) hx9
           have hx13 := negF hcl 13 9 (by kernel_rfl) hx9
           obtain rfl := cu80 hx0
           obtain rfl := cu81 hx1
           obtain rfl := cu82 hx2
           obtain rfl := cu83 hx3
           obtain rfl := cu86 hx6
           obtain rfl := cu87 hx8
           obtain rfl := cr0_1 hx7 hx9
           obtain rfl := cr1_0
           obtain rfl := cr2_0
           obtain rfl := cr3_1 hx3
           refine hG (any_step ?_); clear hG G; intro A J hJ
           have hle0 := Fz.le.trans hle0 hle503
           have hzst := Fz.le.refl Z502
           have hs607 := hs3.mono hle503
           have hs608 := hs6.mono hle503
           have hs609 := hP134.mono hle503
           have hs610 := hP157.mono hle503
           have hs611 := hP396.mono hle503
           have hs612 := cf0 hx2
           refine sr hFx hMx 0 [.int .i64 (bOr .i64 (bShl .i64 (w64 (bAnd .u8 q132 15)) 8) (w64 q394)), .slice ao475 (bcloneS (u1.drop (2 : Int).toNat)).length cap476, .int .i64 0, .int .i64 u0.Block, .int .i64 0] (b := b116) (off := 1) (cs := [.int .i64 (bOr .i64 (bShl .i64 (w64 (bAnd .u8 q132 15)) 8) (w64 q394)), .slice none 0 0, .int .i64 0, .int .i64 u0.Block, .int .i64 0]) (ty := 71) (u := .slice ao475 (bcloneS (u1.drop (2 : Int).toNat)).length cap476) (nog rfl _) rfl rfl (by kernel_rfl) (by kernel_rfl) (by kernel_rfl) (by kernel_rfl) (by kernel_rfl) (by kernel_rfl) (by kernel_rfl) ?_; intro wd613 hM614; clear hMx
           refine nl (qnI (hJ _ _ ?_)); clear hJ J
           exact ⟨ao465, cap466, ao475, cap476, .int .i64 (bOr .i64 (bShl .i64 (w64 (bAnd .u8 q132 15)) 8) (w64 q394)), .slice ao4 u1.length cap5, .slice ao465 (u1.drop (2 : Int).toNat).length cap466, .slice ao475 (bcloneS (u1.drop (2 : Int).toNat)).length cap476, ud84, ud85, .pointer (some ⟨b116, 0, none⟩), .pointer (some ⟨b116, 1, none⟩), ud88, ud89, .row b116 [.int .i64 (bOr .i64 (bShl .i64 (w64 (bAnd .u8 q132 15)) 8) (w64 q394)), .slice ao475 (bcloneS (u1.drop (2 : Int).toNat)).length cap476, .int .i64 0, .int .i64 u0.Block, .int .i64 0] 71, .row b15 [.int .i64 0, .slice none 0 0, .int .i64 0, .int .i64 0, .int .i64 0] 71, .row b10 [.int .i64 u0.Want, .slice ao1 u0.Data.length cap2, .int .i64 u0.Next, .int .i64 u0.Block, .int .i64 u0.Left] 71, .own (tyInt .u8) 5 ao475 cap476 (bcloneS (u1.drop (2 : Int).toNat)), Z502, hle503, hFx.region (by kernel_rfl) (by kernel_rfl), hM614.perm (List.Perm.refl _), kf, kf, kf, kf, cu84, cu85, kf, kf, (nt hx10), (nt hx12), (tn hx7), (fun _ => nu), kf2, (fun h _ => nt hx11 h), (nt hx13), rfl, rfl, (tn hx3), kf, (fun _ => hs612)⟩
          · -- 10: fieldAddr
           obtain rfl := Option.some.inj hi
           have hx9 := hpre 9 (by kernel_rfl)
           have hx8 := hpre 8 (by kernel_rfl)
           have hx7 := hpre 7 (by kernel_rfl)
           have hx6 := hpre 6 (by kernel_rfl)
           have hx3 := hpre 3 (by kernel_rfl)
           have hx2 := hpre 2 (by kernel_rfl)
           have hx1 := hpre 1 (by kernel_rfl)
           have hx0 := hpre 0 (by kernel_rfl)
           have hx10 := hSi
           have hx11 := negF hcl 11 10 (by kernel_rfl) hx10
           have hx12 := negF hcl 12 10 (by kernel_rfl) hx10
           have hx13 := negF hcl 13 10 (by kernel_rfl) hx10
           obtain rfl := cu80 hx0
           obtain rfl := cu81 hx1
           obtain rfl := cu82 hx2
           obtain rfl := cu83 hx3
           obtain rfl := cu86 hx6
           obtain rfl := cu87 hx8
           obtain rfl := cr0_2 hx9 hx11
           obtain rfl := cr1_0
           obtain rfl := cr2_0
           obtain rfl := cr3_1 hx3
           refine hG (any_step ?_); clear hG G; intro A J hJ
           have hle0 := Fz.le.trans hle0 hle503
           have hzst := Fz.le.refl Z502
           have hs616 := hs3.mono hle503
           have hs617 := hs6.mono hle503
           have hs618 := hP134.mono hle503
           have hs619 := hP157.mono hle503
           have hs620 := hP396.mono hle503
           have hs621 := cf0 hx2
           refine s1 hFx 88 (.pointer (some ⟨b116, 2, none⟩)) ?_; intro a622 hF623; clear hFx
           refine nl (qnI (hJ _ _ ?_)); clear hJ J
           exact ⟨ao465, cap466, ao475, cap476, .int .i64 (bOr .i64 (bShl .i64 (w64 (bAnd .u8 q132 15)) 8) (w64 q394)), .slice ao4 u1.length cap5, .slice ao465 (u1.drop (2 : Int).toNat).length cap466, .slice ao475 (bcloneS (u1.drop (2 : Int).toNat)).length cap476, ud84, ud85, .pointer (some ⟨b116, 0, none⟩), .pointer (some ⟨b116, 1, none⟩), .pointer (some ⟨b116, 2, none⟩), ud89, .row b116 [.int .i64 (bOr .i64 (bShl .i64 (w64 (bAnd .u8 q132 15)) 8) (w64 q394)), .slice ao475 (bcloneS (u1.drop (2 : Int).toNat)).length cap476, .int .i64 0, .int .i64 u0.Block, .int .i64 0] 71, .row b15 [.int .i64 0, .slice none 0 0, .int .i64 0, .int .i64 0, .int .i64 0] 71, .row b10 [.int .i64 u0.Want, .slice ao1 u0.Data.length cap2, .int .i64 u0.Next, .int .i64 u0.Block, .int .i64 u0.Left] 71, .own (tyInt .u8) 5 ao475 cap476 (bcloneS (u1.drop (2 : Int).toNat)), Z502, hle503, hF623.region (by kernel_rfl) (by kernel_rfl), hMx.perm (List.Perm.refl _), kf, kf, kf, kf, cu84, cu85, kf, kf, kf, (nt hx12), (tn hx7), (fun _ => tn hx9), kf2, (fun h _ => nt hx11 h), (nt hx13), rfl, rfl, (tn hx3), kf, (fun _ => hs621)⟩
          · -- 11: store
           obtain rfl := Option.some.inj hi
           have hx10 := hpre 10 (by kernel_rfl)
           have hx9 := hpre 9 (by kernel_rfl)
           have hx8 := hpre 8 (by kernel_rfl)
           have hx7 := hpre 7 (by kernel_rfl)
           have hx6 := hpre 6 (by kernel_rfl)
           have hx3 := hpre 3 (by kernel_rfl)
           have hx2 := hpre 2 (by kernel_rfl)
           have hx1 := hpre 1 (by kernel_rfl)
           have hx0 := hpre 0 (by kernel_rfl)
           have hx11 := hSi
           have hx12 := negF hcl 12 11 (by kernel_rfl) hx11
           have hx13 := negF hcl 13 11 (by kernel_rfl) hx11
           obtain rfl := cu80 hx0
           obtain rfl := cu81 hx1
           obtain rfl := cu82 hx2
           obtain rfl := cu83 hx3
           obtain rfl := cu86 hx6
           obtain rfl := cu87 hx8
           obtain rfl := cu88 hx10
           obtain rfl := cr0_2 hx9 hx11
           obtain rfl := cr1_0
           obtain rfl := cr2_0
           obtain rfl := cr3_1 hx3
           refine hG (any_step ?_); clear hG G; intro A J hJ
           have hle0 := Fz.le.trans hle0 hle503
           have hzst := Fz.le.refl Z502
           have hs625 := hs3.mono hle503
           have hs626 := hs6.mono hle503
           have hs627 := hP134.mono hle503
           have hs628 := hP157.mono hle503
           have hs629 := hP396.mono hle503
           have hs630 := cf0 hx2
           refine sr hFx hMx 0 [.int .i64 (bOr .i64 (bShl .i64 (w64 (bAnd .u8 q132 15)) 8) (w64 q394)), .slice ao475 (bcloneS (u1.drop (2 : Int).toNat)).length cap476, .int .i64 1, .int .i64 u0.Block, .int .i64 0] (b := b116) (off := 2) (cs := [.int .i64 (bOr .i64 (bShl .i64 (w64 (bAnd .u8 q132 15)) 8) (w64 q394)), .slice ao475 (bcloneS (u1.drop (2 : Int).toNat)).length cap476, .int .i64 0, .int .i64 u0.Block, .int .i64 0]) (ty := 71) (u := .int .i64 1) (nog rfl _) rfl rfl (by kernel_rfl) (by kernel_rfl) (by kernel_rfl) (by kernel_rfl) (by kernel_rfl) (by kernel_rfl) (by kernel_rfl) ?_; intro wd631 hM632; clear hMx
           refine nl (qnI (hJ _ _ ?_)); clear hJ J
           exact ⟨ao465, cap466, ao475, cap476, .int .i64 (bOr .i64 (bShl .i64 (w64 (bAnd .u8 q132 15)) 8) (w64 q394)), .slice ao4 u1.length cap5, .slice ao465 (u1.drop (2 : Int).toNat).length cap466, .slice ao475 (bcloneS (u1.drop (2 : Int).toNat)).length cap476, ud84, ud85, .pointer (some ⟨b116, 0, none⟩), .pointer (some ⟨b116, 1, none⟩), .pointer (some ⟨b116, 2, none⟩), ud89, .row b116 [.int .i64 (bOr .i64 (bShl .i64 (w64 (bAnd .u8 q132 15)) 8) (w64 q394)), .slice ao475 (bcloneS (u1.drop (2 : Int).toNat)).length cap476, .int .i64 1, .int .i64 u0.Block, .int .i64 0] 71, .row b15 [.int .i64 0, .slice none 0 0, .int .i64 0, .int .i64 0, .int .i64 0] 71, .row b10 [.int .i64 u0.Want, .slice ao1 u0.Data.length cap2, .int .i64 u0.Next, .int .i64 u0.Block, .int .i64 u0.Left] 71, .own (tyInt .u8) 5 ao475 cap476 (bcloneS (u1.drop (2 : Int).toNat)), Z502, hle503, hFx.region (by kernel_rfl) (by kernel_rfl), hM632.perm (List.Perm.refl _), kf, kf, kf, kf, cu84, cu85, kf, kf, kf, (nt hx12), (tn hx7), (fun _ => tn hx9), (fun _ => nu), kf2, (nt hx13), rfl, rfl, (tn hx3), kf, (fun _ => hs630)⟩
          · -- 12: fieldAddr
           obtain rfl := Option.some.inj hi
           have hx11 := hpre 11 (by kernel_rfl)
           have hx10 := hpre 10 (by kernel_rfl)
           have hx9 := hpre 9 (by kernel_rfl)
           have hx8 := hpre 8 (by kernel_rfl)
           have hx7 := hpre 7 (by kernel_rfl)
           have hx6 := hpre 6 (by kernel_rfl)
           have hx5 := hpre 5 (by kernel_rfl)
           have hx4 := hpre 4 (by kernel_rfl)
           have hx3 := hpre 3 (by kernel_rfl)
           have hx2 := hpre 2 (by kernel_rfl)
           have hx1 := hpre 1 (by kernel_rfl)
           have hx0 := hpre 0 (by kernel_rfl)
           have hx12 := hSi
           have hx13 := negF hcl 13 12 (by kernel_rfl) hx12
           obtain rfl := cu80 hx0
           obtain rfl := cu81 hx1
           obtain rfl := cu82 hx2
           obtain rfl := cu83 hx3
           obtain rfl := cu84 hx4
           obtain rfl := cu85 hx5
           obtain rfl := cu86 hx6
           obtain rfl := cu87 hx8
           obtain rfl := cu88 hx10
           obtain rfl := cr0_3 hx11 hx13
           obtain rfl := cr1_0
           obtain rfl := cr2_0
           obtain rfl := cr3_1 hx3
           refine hG (any_step ?_); clear hG G; intro A J hJ
           have hle0 := Fz.le.trans hle0 hle503
           have hzst := Fz.le.refl Z502
           have hs634 := hs3.mono hle503
           have hs635 := hs6.mono hle503
           have hs636 := hP134.mono hle503
           have hs637 := hP157.mono hle503
           have hs638 := hP396.mono hle503
           have hs639 := cf0 hx2
           refine s1 hFx 89 (.pointer (some ⟨b116, 4, none⟩)) ?_; intro a640 hF641; clear hFx
           refine nl (qnI (hJ _ _ ?_)); clear hJ J
           exact ⟨ao465, cap466, ao475, cap476, .int .i64 (bOr .i64 (bShl .i64 (w64 (bAnd .u8 q132 15)) 8) (w64 q394)), .slice ao4 u1.length cap5, .slice ao465 (u1.drop (2 : Int).toNat).length cap466, .slice ao475 (bcloneS (u1.drop (2 : Int).toNat)).length cap476, .pointer (some ⟨b10, 3, none⟩), .int .i64 u0.Block, .pointer (some ⟨b116, 0, none⟩), .pointer (some ⟨b116, 1, none⟩), .pointer (some ⟨b116, 2, none⟩), .pointer (some ⟨b116, 4, none⟩), .row b116 [.int .i64 (bOr .i64 (bShl .i64 (w64 (bAnd .u8 q132 15)) 8) (w64 q394)), .slice ao475 (bcloneS (u1.drop (2 : Int).toNat)).length cap476, .int .i64 1, .int .i64 u0.Block, .int .i64 0] 71, .row b15 [.int .i64 0, .slice none 0 0, .int .i64 0, .int .i64 0, .int .i64 0] 71, .row b10 [.int .i64 u0.Want, .slice ao1 u0.Data.length cap2, .int .i64 u0.Next, .int .i64 u0.Block, .int .i64 u0.Left] 71, .own (tyInt .u8) 5 ao475 cap476 (bcloneS (u1.drop (2 : Int).toNat)), Z502, hle503, hF641.region (by kernel_rfl) (by kernel_rfl), hMx.perm (List.Perm.refl _), kf, kf, kf, kf, kf, kf, kf, kf, kf, kf, (tn hx7), (fun _ => tn hx9), (fun _ => tn hx11), kf2, (nt hx13), rfl, rfl, (tn hx3), kf, (fun _ => hs639)⟩
          · -- 13: store
           obtain rfl := Option.some.inj hi
           have hx12 := hpre 12 (by kernel_rfl)
           have hx11 := hpre 11 (by kernel_rfl)
           have hx10 := hpre 10 (by kernel_rfl)
           have hx9 := hpre 9 (by kernel_rfl)
           have hx8 := hpre 8 (by kernel_rfl)
           have hx7 := hpre 7 (by kernel_rfl)
           have hx6 := hpre 6 (by kernel_rfl)
           have hx5 := hpre 5 (by kernel_rfl)
           have hx4 := hpre 4 (by kernel_rfl)
           have hx3 := hpre 3 (by kernel_rfl)
           have hx2 := hpre 2 (by kernel_rfl)
           have hx1 := hpre 1 (by kernel_rfl)
           have hx0 := hpre 0 (by kernel_rfl)
           have hx13 := hSi
           obtain rfl := cu80 hx0
           obtain rfl := cu81 hx1
           obtain rfl := cu82 hx2
           obtain rfl := cu83 hx3
           obtain rfl := cu84 hx4
           obtain rfl := cu85 hx5
           obtain rfl := cu86 hx6
           obtain rfl := cu87 hx8
           obtain rfl := cu88 hx10
           obtain rfl := cu89 hx12
           obtain rfl := cr0_3 hx11 hx13
           obtain rfl := cr1_0
           obtain rfl := cr2_0
           obtain rfl := cr3_1 hx3
           refine hG (any_step ?_); clear hG G; intro A J hJ
           have hle0 := Fz.le.trans hle0 hle503
           have hzst := Fz.le.refl Z502
           have hs643 := hs3.mono hle503
           have hs644 := hs6.mono hle503
           have hs645 := hP134.mono hle503
           have hs646 := hP157.mono hle503
           have hs647 := hP396.mono hle503
           have hs648 := cf0 hx2
           refine sr hFx hMx 0 [.int .i64 (bOr .i64 (bShl .i64 (w64 (bAnd .u8 q132 15)) 8) (w64 q394)), .slice ao475 (bcloneS (u1.drop (2 : Int).toNat)).length cap476, .int .i64 1, .int .i64 u0.Block, .int .i64 u0.Block] (b := b116) (off := 4) (cs := [.int .i64 (bOr .i64 (bShl .i64 (w64 (bAnd .u8 q132 15)) 8) (w64 q394)), .slice ao475 (bcloneS (u1.drop (2 : Int).toNat)).length cap476, .int .i64 1, .int .i64 u0.Block, .int .i64 0]) (ty := 71) (u := .int .i64 u0.Block) (nog rfl _) rfl rfl (by kernel_rfl) (by kernel_rfl) (by kernel_rfl) (by kernel_rfl) (by kernel_rfl) (by kernel_rfl) (by kernel_rfl) ?_; intro wd649 hM650; clear hMx
           refine nl (qnI (hJ _ _ ?_)); clear hJ J
           exact ⟨ao465, cap466, ao475, cap476, .int .i64 (bOr .i64 (bShl .i64 (w64 (bAnd .u8 q132 15)) 8) (w64 q394)), .slice ao4 u1.length cap5, .slice ao465 (u1.drop (2 : Int).toNat).length cap466, .slice ao475 (bcloneS (u1.drop (2 : Int).toNat)).length cap476, .pointer (some ⟨b10, 3, none⟩), .int .i64 u0.Block, .pointer (some ⟨b116, 0, none⟩), .pointer (some ⟨b116, 1, none⟩), .pointer (some ⟨b116, 2, none⟩), .pointer (some ⟨b116, 4, none⟩), .row b116 [.int .i64 (bOr .i64 (bShl .i64 (w64 (bAnd .u8 q132 15)) 8) (w64 q394)), .slice ao475 (bcloneS (u1.drop (2 : Int).toNat)).length cap476, .int .i64 1, .int .i64 u0.Block, .int .i64 u0.Block] 71, .row b15 [.int .i64 0, .slice none 0 0, .int .i64 0, .int .i64 0, .int .i64 0] 71, .row b10 [.int .i64 u0.Want, .slice ao1 u0.Data.length cap2, .int .i64 u0.Next, .int .i64 u0.Block, .int .i64 u0.Left] 71, .own (tyInt .u8) 5 ao475 cap476 (bcloneS (u1.drop (2 : Int).toNat)), Z502, hle503, hFx.region (by kernel_rfl) (by kernel_rfl), hM650.perm (List.Perm.refl _), kf, kf, kf, kf, kf, kf, kf, kf, kf, kf, (tn hx7), (fun _ => tn hx9), (fun _ => tn hx11), (fun _ => nu), kf, rfl, rfl, (tn hx3), kf, (fun _ => hs648)⟩
         case hE =>
          intro S hS a652 wd653 hI; refine hid ?_; intro G hG; obtain ⟨ao465, hI⟩ := hI; obtain ⟨cap466, hI⟩ := hI; obtain ⟨ao475, hI⟩ := hI; obtain ⟨cap476, hI⟩ := hI; obtain ⟨ud80, hI⟩ := hI; obtain ⟨ud81, hI⟩ := hI; obtain ⟨ud82, hI⟩ := hI; obtain ⟨ud83, hI⟩ := hI; obtain ⟨ud84, hI⟩ := hI; obtain ⟨ud85, hI⟩ := hI; obtain ⟨ud86, hI⟩ := hI; obtain ⟨ud87, hI⟩ := hI; obtain ⟨ud88, hI⟩ := hI; obtain ⟨ud89, hI⟩ := hI; obtain ⟨rh0, hI⟩ := hI; obtain ⟨rh1, hI⟩ := hI; obtain ⟨rh2, hI⟩ := hI; obtain ⟨rh3, hI⟩ := hI; obtain ⟨Z502, hI⟩ := hI; obtain ⟨hle503, hI⟩ := hI; obtain ⟨hFx, hI⟩ := hI; obtain ⟨hMx, hI⟩ := hI; obtain ⟨cu80, hI⟩ := hI; obtain ⟨cu81, hI⟩ := hI; obtain ⟨cu82, hI⟩ := hI; obtain ⟨cu83, hI⟩ := hI; obtain ⟨cu84, hI⟩ := hI; obtain ⟨cu85, hI⟩ := hI; obtain ⟨cu86, hI⟩ := hI; obtain ⟨cu87, hI⟩ := hI; obtain ⟨cu88, hI⟩ := hI; obtain ⟨cu89, hI⟩ := hI; obtain ⟨cr0_0, hI⟩ := hI; obtain ⟨cr0_1, hI⟩ := hI; obtain ⟨cr0_2, hI⟩ := hI; obtain ⟨cr0_3, hI⟩ := hI; obtain ⟨cr0_4, hI⟩ := hI; obtain ⟨cr1_0, hI⟩ := hI; obtain ⟨cr2_0, hI⟩ := hI; obtain ⟨cr3_0, hI⟩ := hI; obtain ⟨cr3_1, hI⟩ := hI; have cf0 := hI; clear hI; refine hG ?_; clear hG G
          obtain rfl := cu80 (hS 0 (by decide))
          obtain rfl := cu81 (hS 1 (by decide))
          obtain rfl := cu82 (hS 2 (by decide))
          obtain rfl := cu83 (hS 3 (by decide))
          obtain rfl := cu84 (hS 4 (by decide))
          obtain rfl := cu85 (hS 5 (by decide))
          obtain rfl := cu86 (hS 6 (by decide))
          obtain rfl := cu87 (hS 8 (by decide))
          obtain rfl := cu88 (hS 10 (by decide))
          obtain rfl := cu89 (hS 12 (by decide))
          obtain rfl := cr0_4 (hS 13 (by decide))
          obtain rfl := cr1_0
          obtain rfl := cr2_0
          obtain rfl := cr3_1 (hS 3 (by decide))
          have hle0 := Fz.le.trans hle0 hle503
          have hs654 := hs3.mono hle503
          have hs655 := hs6.mono hle503
          have hs656 := hP134.mono hle503
          have hs657 := hP157.mono hle503
          have hs658 := hP396.mono hle503
          have hs659 := cf0 (hS 2 (by decide))
          refine thn ?_
          have hF660 : Fr 157 [] [⟨2, [], .pointer (some ⟨b10, 0, none⟩)⟩, ⟨4, [], .pointer (some ⟨b15, 0, none⟩)⟩, ⟨9, [], .pointer (some ⟨b116, 0, none⟩)⟩] a652 := hFx.region (by kernel_rfl) (by kernel_rfl); clear hFx
          refine wp_seq (any_invE mixed [[], [], [1], [2], [0, 3], [0, 1, 2, 3, 4], [0, 1, 2, 3, 4, 5], [0, 1, 2, 3, 4, 5, 6]] 8 (fun S a w1 => ∃ (ao671 : Option Addr) (cap672 : Nat) (ud5 : Value) (ud6 : Value) (ud7 : Value) (ud90 : Value) (ud91 : Value) (ud92 : Value) (ud93 : Value) (rh0 : Res) (rh1 : Res) (rh2 : Res) (rh3 : Res) (rh4 : Res) (Z684 : Fz), Fz.le Z502 Z684 ∧ Fr 157 [] [⟨2, [], .pointer (some ⟨b10, 0, none⟩)⟩, ⟨4, [], .pointer (some ⟨b15, 0, none⟩)⟩, ⟨5, [], ud5⟩, ⟨6, [], ud6⟩, ⟨7, [], ud7⟩, ⟨9, [], .pointer (some ⟨b116, 0, none⟩)⟩, ⟨90, [], ud90⟩, ⟨91, [], ud91⟩, ⟨92, [], ud92⟩, ⟨93, [], ud93⟩] a ∧ Mem w.heap.size [] w Z [rh0, rh1, rh2, rh3, rh4] Z684 w1 ∧ (S 5 = true → ud5 = .slice ao671 (pflow u0.Block).length cap672) ∧ (S 6 = true → ud6 = .slice none 0 0) ∧ (S 7 = true → ud7 = .int .i64 0) ∧ (S 0 = true → ud90 = .agg #[.int .i64 (bOr .i64 (bShl .i64 (w64 (bAnd .u8 q132 15)) 8) (w64 q394)), .slice ao475 (bcloneS (u1.drop (2 : Int).toNat)).length cap476, .int .i64 1, .int .i64 u0.Block, .int .i64 u0.Block]) ∧ (S 1 = true → ud91 = .pointer (some ⟨b10, 3, none⟩)) ∧ (S 2 = true → ud92 = .int .i64 u0.Block) ∧ (S 3 = true → ud93 = .slice ao671 (pflow u0.Block).length cap672) ∧ (rh0 = .row b116 [.int .i64 (bOr .i64 (bShl .i64 (w64 (bAnd .u8 q132 15)) 8) (w64 q394)), .slice ao475 (bcloneS (u1.drop (2 : Int).toNat)).length cap476, .int .i64 1, .int .i64 u0.Block, .int .i64 u0.Block] 71) ∧ (S 4 = false → rh1 = .row b15 [.int .i64 0, .slice none 0 0, .int .i64 0, .int .i64 0, .int .i64 0] 71) ∧ (S 4 = true → rh1 = .row b15 [.int .i64 (bOr .i64 (bShl .i64 (w64 (bAnd .u8 q132 15)) 8) (w64 q394)), .slice ao475 (bcloneS (u1.drop (2 : Int).toNat)).length cap476, .int .i64 1, .int .i64 u0.Block, .int .i64 u0.Block] 71) ∧ (rh2 = .row b10 [.int .i64 u0.Want, .slice ao1 u0.Data.length cap2, .int .i64 u0.Next, .int .i64 u0.Block, .int .i64 u0.Left] 71) ∧ (rh3 = .own (tyInt .u8) 5 ao475 cap476 (bcloneS (u1.drop (2 : Int).toNat))) ∧ (S 3 = false → rh4 = .nil) ∧ (S 3 = true → rh4 = .own (tyInt .u8) 5 ao671 cap672 (pflow u0.Block))) ?h0 ?hs ?hE)
          case h0 =>
           have hF686 := hF660.any 5
           have hF687 := hF686.any 6
           have hF688 := hF687.any 7
           have hF689 := hF688.any 90
           have hF690 := hF689.any 91
           have hF691 := hF690.any 92
           have hF692 := hF691.any 93
           have hM693 := hMx.nilRes
           have hM694 := (hM693.perm ((pk 1 rfl).trans (((pk 1 rfl).trans (((pk 1 rfl).trans (((pk 1 rfl).trans ((List.Perm.refl _).cons _)).cons _)).cons _)).cons _))).drew
           exact ⟨none, 0, a652.tmps.getD 5 undef, a652.tmps.getD 6 undef, a652.tmps.getD 7 undef, a652.tmps.getD 90 undef, a652.tmps.getD 91 undef, a652.tmps.getD 92 undef, a652.tmps.getD 93 undef, .row b116 [.int .i64 (bOr .i64 (bShl .i64 (w64 (bAnd .u8 q132 15)) 8) (w64 q394)), .slice ao475 (bcloneS (u1.drop (2 : Int).toNat)).length cap476, .int .i64 1, .int .i64 u0.Block, .int .i64 u0.Block] 71, .row b15 [.int .i64 0, .slice none 0 0, .int .i64 0, .int .i64 0, .int .i64 0] 71, .row b10 [.int .i64 u0.Want, .slice ao1 u0.Data.length cap2, .int .i64 u0.Next, .int .i64 u0.Block, .int .i64 u0.Left] 71, .own (tyInt .u8) 5 ao475 cap476 (bcloneS (u1.drop (2 : Int).toNat)), .nil, Z502, Fz.le.refl _, hF692.region (by kernel_rfl) (by kernel_rfl), hM694, ff, ff, ff, ff, ff, ff, ff, rfl, kf, ff, rfl, rfl, kf, ff⟩
          case hs =>
           intro S hcl i o hil hi hSi hpre a w1 hI; refine hid ?_; intro G hG; obtain ⟨ao671, hI⟩ := hI; obtain ⟨cap672, hI⟩ := hI; obtain ⟨ud5, hI⟩ := hI; obtain ⟨ud6, hI⟩ := hI; obtain ⟨ud7, hI⟩ := hI; obtain ⟨ud90, hI⟩ := hI; obtain ⟨ud91, hI⟩ := hI; obtain ⟨ud92, hI⟩ := hI; obtain ⟨ud93, hI⟩ := hI; obtain ⟨rh0, hI⟩ := hI; obtain ⟨rh1, hI⟩ := hI; obtain ⟨rh2, hI⟩ := hI; obtain ⟨rh3, hI⟩ := hI; obtain ⟨rh4, hI⟩ := hI; obtain ⟨Z684, hI⟩ := hI; obtain ⟨hle685, hI⟩ := hI; obtain ⟨hFx, hI⟩ := hI; obtain ⟨hMx, hI⟩ := hI; obtain ⟨cu5, hI⟩ := hI; obtain ⟨cu6, hI⟩ := hI; obtain ⟨cu7, hI⟩ := hI; obtain ⟨cu90, hI⟩ := hI; obtain ⟨cu91, hI⟩ := hI; obtain ⟨cu92, hI⟩ := hI; obtain ⟨cu93, hI⟩ := hI; obtain ⟨cr0_0, hI⟩ := hI; obtain ⟨cr1_0, hI⟩ := hI; obtain ⟨cr1_1, hI⟩ := hI; obtain ⟨cr2_0, hI⟩ := hI; obtain ⟨cr3_0, hI⟩ := hI; obtain ⟨cr4_0, hI⟩ := hI; have cr4_1 := hI; clear hI
           have hcase : i = 0 ∨ i = 1 ∨ i = 2 ∨ i = 3 ∨ i = 4 ∨ i = 5 ∨ i = 6 ∨ i = 7 := by clear hi; omega
           rcases hcase with rfl | rfl | rfl | rfl | rfl | rfl | rfl | rfl
           · -- 0: load
            obtain rfl := Option.some.inj hi
            have hx0 := hSi
            have hx4 := negF hcl 4 0 (by kernel_rfl) hx0
            have hx5 := negF hcl 5 0 (by kernel_rfl) hx0
            have hx6 := negF hcl 6 0 (by kernel_rfl) hx0
            have hx7 := negF hcl 7 0 (by kernel_rfl) hx0
            obtain rfl := cr0_0
            obtain rfl := cr1_0 hx4
            obtain rfl := cr2_0
            obtain rfl := cr3_0
            refine hG (any_step ?_); clear hG G; intro A J hJ
            have hle0 := Fz.le.trans hle0 hle685
            have hzst := Fz.le.refl Z684
            have hs695 := hs654.mono hle685
            have hs696 := hs655.mono hle685
            have hs697 := hs656.mono hle685
            have hs698 := hs657.mono hle685
            have hs699 := hs658.mono hle685
            have hs700 := hs659.mono hle685
            refine l2 hFx hMx 90 0 0 5 [.int .i64 (bOr .i64 (bShl .i64 (w64 (bAnd .u8 q132 15)) 8) (w64 q394)), .slice ao475 (bcloneS (u1.drop (2 : Int).toNat)).length cap476, .int .i64 1, .int .i64 u0.Block, .int .i64 u0.Block] rfl rfl ?_; intro a701 hF702; clear hFx
            refine nl (qnI (hJ _ _ ?_)); clear hJ J
            exact ⟨ao671, cap672, ud5, ud6, ud7, .agg #[.int .i64 (bOr .i64 (bShl .i64 (w64 (bAnd .u8 q132 15)) 8) (w64 q394)), .slice ao475 (bcloneS (u1.drop (2 : Int).toNat)).length cap476, .int .i64 1, .int .i64 u0.Block, .int .i64 u0.Block], ud91, ud92, ud93, .row b116 [.int .i64 (bOr .i64 (bShl .i64 (w64 (bAnd .u8 q132 15)) 8) (w64 q394)), .slice ao475 (bcloneS (u1.drop (2 : Int).toNat)).length cap476, .int .i64 1, .int .i64 u0.Block, .int .i64 u0.Block] 71, .row b15 [.int .i64 0, .slice none 0 0, .int .i64 0, .int .i64 0, .int .i64 0] 71, .row b10 [.int .i64 u0.Want, .slice ao1 u0.Data.length cap2, .int .i64 u0.Next, .int .i64 u0.Block, .int .i64 u0.Left] 71, .own (tyInt .u8) 5 ao475 cap476 (bcloneS (u1.drop (2 : Int).toNat)), rh4, Z684, hle685, hF702.region (by kernel_rfl) (by kernel_rfl), hMx.perm (List.Perm.refl _), (nt hx5), (nt hx6), (nt hx7), kf, cu91, cu92, cu93, rfl, kf, (nt hx4), rfl, rfl, cr4_0, cr4_1⟩
           · -- 1: fieldAddr
            obtain rfl := Option.some.inj hi
            have hx1 := hSi
            have hx2 := negF hcl 2 1 (by kernel_rfl) hx1
            have hx3 := negF hcl 3 2 (by kernel_rfl) hx2
            have hx4 := negF hcl 4 3 (by kernel_rfl) hx3
            have hx5 := negF hcl 5 1 (by kernel_rfl) hx1
            have hx6 := negF hcl 6 1 (by kernel_rfl) hx1
            have hx7 := negF hcl 7 1 (by kernel_rfl) hx1
            obtain rfl := cr0_0
            obtain rfl := cr1_0 hx4
            obtain rfl := cr2_0
            obtain rfl := cr3_0
            obtain rfl := cr4_0 hx3
            refine hG (any_step ?_); clear hG G; intro A J hJ
            have hle0 := Fz.le.trans hle0 hle685
            have hzst := Fz.le.refl Z684
            have hs704 := hs654.mono hle685
            have hs705 := hs655.mono hle685
            have hs706 := hs656.mono hle685
            have hs707 := hs657.mono hle685
            have hs708 := hs658.mono hle685
            have hs709 := hs659.mono hle685
            have hM710 := hMx.keep (List.Sublist.cons_cons _ (List.Sublist.cons_cons _ (List.Sublist.cons_cons _ (List.Sublist.cons_cons _ (List.Sublist.cons _ (List.Sublist.slnil)))))); clear hMx
            refine s1 hFx 91 (.pointer (some ⟨b10, 3, none⟩)) ?_; intro a711 hF712; clear hFx
            refine nl (qnI (hJ _ _ ?_)); clear hJ J
            have hM713 := hM710.nilRes
            exact ⟨ao671, cap672, ud5, ud6, ud7, ud90, .pointer (some ⟨b10, 3, none⟩), ud92, ud93, .row b116 [.int .i64 (bOr .i64 (bShl .i64 (w64 (bAnd .u8 q132 15)) 8) (w64 q394)), .slice ao475 (bcloneS (u1.drop (2 : Int).toNat)).length cap476, .int .i64 1, .int .i64 u0.Block, .int .i64 u0.Block] 71, .row b15 [.int .i64 0, .slice none 0 0, .int .i64 0, .int .i64 0, .int .i64 0] 71, .row b10 [.int .i64 u0.Want, .slice ao1 u0.Data.length cap2, .int .i64 u0.Next, .int .i64 u0.Block, .int .i64 u0.Left] 71, .own (tyInt .u8) 5 ao475 cap476 (bcloneS (u1.drop (2 : Int).toNat)), .nil, Z684, hle685, hF712.region (by kernel_rfl) (by kernel_rfl), hM713.perm ((pk 1 rfl).trans (((pk 1 rfl).trans (((pk 1 rfl).trans (((pk 1 rfl).trans ((List.Perm.refl _).cons _)).cons _)).cons _)).cons _)), (nt hx5), (nt hx6), (nt hx7), cu90, kf, (nt hx2), (nt hx3), rfl, kf, (nt hx4), rfl, rfl, kf, (nt hx3)⟩
           · -- 2: load
            obtain rfl := Option.some.inj hi
            have hx1 := hpre 1 (by kernel_rfl)
            have hx2 := hSi
            have hx3 := negF hcl 3 2 (by kernel_rfl) hx2
            have hx4 := negF hcl 4 3 (by kernel_rfl) hx3
            have hx5 := negF hcl 5 2 (by kernel_rfl) hx2
            have hx6 := negF hcl 6 2 (by kernel_rfl) hx2
            have hx7 := negF hcl 7 2 (by kernel_rfl) hx2
            obtain rfl := cu91 hx1
            obtain rfl := cr0_0
            obtain rfl := cr1_0 hx4
            obtain rfl := cr2_0
            obtain rfl := cr3_0
            obtain rfl := cr4_0 hx3
            refine hG (any_step ?_); clear hG G; intro A J hJ
            have hle0 := Fz.le.trans hle0 hle685
            have hzst := Fz.le.refl Z684
            have hs715 := hs654.mono hle685
            have hs716 := hs655.mono hle685
            have hs717 := hs656.mono hle685
            have hs718 := hs657.mono hle685
            have hs719 := hs658.mono hle685
            have hs720 := hs659.mono hle685
            have hM721 := hMx.keep (List.Sublist.cons_cons _ (List.Sublist.cons_cons _ (List.Sublist.cons_cons _ (List.Sublist.cons_cons _ (List.Sublist.cons _ (List.Sublist.slnil)))))); clear hMx
            refine l1 hFx hM721 92 2 3 (.int .i64 u0.Block) rfl rfl ?_; intro a722 hF723; clear hFx
            refine nl (qnI (hJ _ _ ?_)); clear hJ J
            have hM724 := hM721.nilRes
            exact ⟨ao671, cap672, ud5, ud6, ud7, ud90, .pointer (some ⟨b10, 3, none⟩), .int .i64 u0.Block, ud93, .row b116 [.int .i64 (bOr .i64 (bShl .i64 (w64 (bAnd .u8 q132 15)) 8) (w64 q394)), .slice ao475 (bcloneS (u1.drop (2 : Int).toNat)).length cap476, .int .i64 1, .int .i64 u0.Block, .int .i64 u0.Block] 71, .row b15 [.int .i64 0, .slice none 0 0, .int .i64 0, .int .i64 0, .int .i64 0] 71, .row b10 [.int .i64 u0.Want, .slice ao1 u0.Data.length cap2, .int .i64 u0.Next, .int .i64 u0.Block, .int .i64 u0.Left] 71, .own (tyInt .u8) 5 ao475 cap476 (bcloneS (u1.drop (2 : Int).toNat)), .nil, Z684, hle685, hF723.region (by kernel_rfl) (by kernel_rfl), hM724.perm ((pk 1 rfl).trans (((pk 1 rfl).trans (((pk 1 rfl).trans (((pk 1 rfl).trans ((List.Perm.refl _).cons _)).cons _)).cons _)).cons _)), (nt hx5), (nt hx6), (nt hx7), cu90, kf, kf, (nt hx3), rfl, kf, (nt hx4), rfl, rfl, kf, (nt hx3)⟩
           · -- 3: call
            obtain rfl := Option.some.inj hi
            have hx2 := hpre 2 (by kernel_rfl)
            have hx1 := hcl 2 1 (by kernel_rfl) hx2
            have hx3 := hSi
            have hx4 := negF hcl 4 3 (by kernel_rfl) hx3
            have hx5 := negF hcl 5 3 (by kernel_rfl) hx3
            have hx6 := negF hcl 6 3 (by kernel_rfl) hx3
            have hx7 := negF hcl 7 3 (by kernel_rfl) hx3
            obtain rfl := cu91 hx1
            obtain rfl := cu92 hx2
            obtain rfl := cr0_0
            obtain rfl := cr1_0 hx4
            obtain rfl := cr2_0
            obtain rfl := cr3_0
            obtain rfl := cr4_0 hx3
            refine hG (any_step ?_); clear hG G; intro A J hJ
            have hle0 := Fz.le.trans hle0 hle685
            have hzst := Fz.le.refl Z684
            have hs726 := hs654.mono hle685
            have hs727 := hs655.mono hle685
            have hs728 := hs656.mono hle685
            have hs729 := hs657.mono hle685
            have hs730 := hs658.mono hle685
            have hs731 := hs659.mono hle685
            have hM732 := hMx.keep (List.Sublist.cons_cons _ (List.Sublist.cons_cons _ (List.Sublist.cons_cons _ (List.Sublist.cons_cons _ (List.Sublist.cons _ (List.Sublist.slnil)))))); clear hMx
            refine cl hFx 59 #[.int .i64 u0.Block] (nog rfl _) rfl (by kernel_rfl) (by kernel_rfl) ?_
            refine (pflow_fun u0.Block _ _ hM732.fz).mono ?_; rintro _ wd733 ⟨ao737, cap738, Z739, rfl, hm⟩; refine ⟨_, rfl, ?_⟩; intro a734 hF735; have hM736 := hM732.callZ hm; have hle740 := hm.ext.le; clear hm hM732 hFx
            replace hzst := hzst.mono hle740
            replace hs726 := hs726.mono hle740
            replace hs727 := hs727.mono hle740
            replace hs728 := hs728.mono hle740
            replace hs729 := hs729.mono hle740
            replace hs730 := hs730.mono hle740
            replace hs731 := hs731.mono hle740
            replace hle0 := Fz.le.trans hle0 hle740
            have hM741 : Mem w.heap.size [] w Z [.own (tyInt .u8) 5 ao737 cap738 (pflow u0.Block), .row b116 [.int .i64 (bOr .i64 (bShl .i64 (w64 (bAnd .u8 q132 15)) 8) (w64 q394)), .slice ao475 (bcloneS (u1.drop (2 : Int).toNat)).length cap476, .int .i64 1, .int .i64 u0.Block, .int .i64 u0.Block] 71, .row b15 [.int .i64 0, .slice none 0 0, .int .i64 0, .int .i64 0, .int .i64 0] 71, .row b10 [.int .i64 u0.Want, .slice ao1 u0.Data.length cap2, .int .i64 u0.Next, .int .i64 u0.Block, .int .i64 u0.Left] 71, .own (tyInt .u8) 5 ao475 cap476 (bcloneS (u1.drop (2 : Int).toNat))] Z739 wd733 := hM736; clear hM736
            refine nl (qnI (hJ _ _ ?_)); clear hJ J
            exact ⟨ao737, cap738, ud5, ud6, ud7, ud90, .pointer (some ⟨b10, 3, none⟩), .int .i64 u0.Block, .slice ao737 (pflow u0.Block).length cap738, .row b116 [.int .i64 (bOr .i64 (bShl .i64 (w64 (bAnd .u8 q132 15)) 8) (w64 q394)), .slice ao475 (bcloneS (u1.drop (2 : Int).toNat)).length cap476, .int .i64 1, .int .i64 u0.Block, .int .i64 u0.Block] 71, .row b15 [.int .i64 0, .slice none 0 0, .int .i64 0, .int .i64 0, .int .i64 0] 71, .row b10 [.int .i64 u0.Want, .slice ao1 u0.Data.length cap2, .int .i64 u0.Next, .int .i64 u0.Block, .int .i64 u0.Left] 71, .own (tyInt .u8) 5 ao475 cap476 (bcloneS (u1.drop (2 : Int).toNat)), .own (tyInt .u8) 5 ao737 cap738 (pflow u0.Block), Z739, hle685.trans hzst, hF735.region (by kernel_rfl) (by kernel_rfl), hM741.perm ((pk 1 rfl).trans (((pk 1 rfl).trans (((pk 1 rfl).trans (((pk 1 rfl).trans ((List.Perm.refl _).cons _)).cons _)).cons _)).cons _)), (nt hx5), (nt hx6), (nt hx7), cu90, kf, kf, kf, rfl, kf, (nt hx4), rfl, rfl, nu, kf⟩
           · -- 4: store
            obtain rfl := Option.some.inj hi
            have hx3 := hpre 3 (by kernel_rfl)
            have hx0 := hpre 0 (by kernel_rfl)
            have hx2 := hcl 3 2 (by kernel_rfl) hx3
            have hx1 := hcl 2 1 (by kernel_rfl) hx2
            have hx4 := hSi
            have hx5 := negF hcl 5 4 (by kernel_rfl) hx4
            have hx6 := negF hcl 6 4 (by kernel_rfl) hx4
            have hx7 := negF hcl 7 4 (by kernel_rfl) hx4
            obtain rfl := cu90 hx0
            obtain rfl := cu91 hx1
            obtain rfl := cu92 hx2
            obtain rfl := cu93 hx3
            obtain rfl := cr0_0
            obtain rfl := cr1_0 hx4
            obtain rfl := cr2_0
            obtain rfl := cr3_0
            obtain rfl := cr4_1 hx3
            refine hG (any_step ?_); clear hG G; intro A J hJ
            have hle0 := Fz.le.trans hle0 hle685
            have hzst := Fz.le.refl Z684
            have hs743 := hs654.mono hle685
            have hs744 := hs655.mono hle685
            have hs745 := hs656.mono hle685
            have hs746 := hs657.mono hle685
            have hs747 := hs658.mono hle685
            have hs748 := hs659.mono hle685
            refine sr hFx hMx 1 [.int .i64 (bOr .i64 (bShl .i64 (w64 (bAnd .u8 q132 15)) 8) (w64 q394)), .slice ao475 (bcloneS (u1.drop (2 : Int).toNat)).length cap476, .int .i64 1, .int .i64 u0.Block, .int .i64 u0.Block] (b := b15) (off := 0) (cs := [.int .i64 0, .slice none 0 0, .int .i64 0, .int .i64 0, .int .i64 0]) (ty := 71) (u := .agg #[.int .i64 (bOr .i64 (bShl .i64 (w64 (bAnd .u8 q132 15)) 8) (w64 q394)), .slice ao475 (bcloneS (u1.drop (2 : Int).toNat)).length cap476, .int .i64 1, .int .i64 u0.Block, .int .i64 u0.Block]) (nog rfl _) rfl rfl (by kernel_rfl) (by kernel_rfl) (by kernel_rfl) (by kernel_rfl) (by kernel_rfl) (by kernel_rfl) (by kernel_rfl) ?_; intro wd749 hM750; clear hMx
            refine nl (qnI (hJ _ _ ?_)); clear hJ J
            exact ⟨ao671, cap672, ud5, ud6, ud7, .agg #[.int .i64 (bOr .i64 (bShl .i64 (w64 (bAnd .u8 q132 15)) 8) (w64 q394)), .slice ao475 (bcloneS (u1.drop (2 : Int).toNat)).length cap476, .int .i64 1, .int .i64 u0.Block, .int .i64 u0.Block], .pointer (some ⟨b10, 3, none⟩), .int .i64 u0.Block, .slice ao671 (pflow u0.Block).length cap672, .row b116 [.int .i64 (bOr .i64 (bShl .i64 (w64 (bAnd .u8 q132 15)) 8) (w64 q394)), .slice ao475 (bcloneS (u1.drop (2 : Int).toNat)).length cap476, .int .i64 1, .int .i64 u0.Block, .int .i64 u0.Block] 71, .row b15 [.int .i64 (bOr .i64 (bShl .i64 (w64 (bAnd .u8 q132 15)) 8) (w64 q394)), .slice ao475 (bcloneS (u1.drop (2 : Int).toNat)).length cap476, .int .i64 1, .int .i64 u0.Block, .int .i64 u0.Block] 71, .row b10 [.int .i64 u0.Want, .slice ao1 u0.Data.length cap2, .int .i64 u0.Next, .int .i64 u0.Block, .int .i64 u0.Left] 71, .own (tyInt .u8) 5 ao475 cap476 (bcloneS (u1.drop (2 : Int).toNat)), .own (tyInt .u8) 5 ao671 cap672 (pflow u0.Block), Z684, hle685, hFx.region (by kernel_rfl) (by kernel_rfl), hM750.perm (List.Perm.refl _), (nt hx5), (nt hx6), (nt hx7), kf, kf, kf, kf, rfl, nu, kf, rfl, rfl, (tn hx3), kf⟩
           · -- 5: assign
            obtain rfl := Option.some.inj hi
            have hx4 := hpre 4 (by kernel_rfl)
            have hx3 := hpre 3 (by kernel_rfl)
            have hx2 := hpre 2 (by kernel_rfl)
            have hx1 := hpre 1 (by kernel_rfl)
            have hx0 := hpre 0 (by kernel_rfl)
            have hx5 := hSi
            have hx6 := negF hcl 6 5 (by kernel_rfl) hx5
            have hx7 := negF hcl 7 5 (by kernel_rfl) hx5
            obtain rfl := cu90 hx0
            obtain rfl := cu91 hx1
            obtain rfl := cu92 hx2
            obtain rfl := cu93 hx3
            obtain rfl := cr0_0
            obtain rfl := cr1_1 hx4
            obtain rfl := cr2_0
            obtain rfl := cr3_0
            obtain rfl := cr4_1 hx3
            refine hG (any_step ?_); clear hG G; intro A J hJ
            have hle0 := Fz.le.trans hle0 hle685
            have hzst := Fz.le.refl Z684
            have hs752 := hs654.mono hle685
            have hs753 := hs655.mono hle685
            have hs754 := hs656.mono hle685
            have hs755 := hs657.mono hle685
            have hs756 := hs658.mono hle685
            have hs757 := hs659.mono hle685
            refine s1 hFx 5 (.slice ao671 (pflow u0.Block).length cap672) ?_; intro a758 hF759; clear hFx
            refine nl (qnI (hJ _ _ ?_)); clear hJ J
            exact ⟨ao671, cap672, .slice ao671 (pflow u0.Block).length cap672, ud6, ud7, .agg #[.int .i64 (bOr .i64 (bShl .i64 (w64 (bAnd .u8 q132 15)) 8) (w64 q394)), .slice ao475 (bcloneS (u1.drop (2 : Int).toNat)).length cap476, .int .i64 1, .int .i64 u0.Block, .int .i64 u0.Block], .pointer (some ⟨b10, 3, none⟩), .int .i64 u0.Block, .slice ao671 (pflow u0.Block).length cap672, .row b116 [.int .i64 (bOr .i64 (bShl .i64 (w64 (bAnd .u8 q132 15)) 8) (w64 q394)), .slice ao475 (bcloneS (u1.drop (2 : Int).toNat)).length cap476, .int .i64 1, .int .i64 u0.Block, .int .i64 u0.Block] 71, .row b15 [.int .i64 (bOr .i64 (bShl .i64 (w64 (bAnd .u8 q132 15)) 8) (w64 q394)), .slice ao475 (bcloneS (u1.drop (2 : Int).toNat)).length cap476, .int .i64 1, .int .i64 u0.Block, .int .i64 u0.Block] 71, .row b10 [.int .i64 u0.Want, .slice ao1 u0.Data.length cap2, .int .i64 u0.Next, .int .i64 u0.Block, .int .i64 u0.Left] 71, .own (tyInt .u8) 5 ao475 cap476 (bcloneS (u1.drop (2 : Int).toNat)), .own (tyInt .u8) 5 ao671 cap672 (pflow u0.Block), Z684, hle685, hF759.region (by kernel_rfl) (by kernel_rfl), hMx.perm (List.Perm.refl _), kf, (nt hx6), (nt hx7), kf, kf, kf, kf, rfl, (tn hx4), kf, rfl, rfl, (tn hx3), kf⟩
           · -- 6: assign
            obtain rfl := Option.some.inj hi
            have hx5 := hpre 5 (by kernel_rfl)
            have hx4 := hpre 4 (by kernel_rfl)
            have hx3 := hpre 3 (by kernel_rfl)
            have hx2 := hpre 2 (by kernel_rfl)
            have hx1 := hpre 1 (by kernel_rfl)
            have hx0 := hpre 0 (by kernel_rfl)
            have hx6 := hSi
            have hx7 := negF hcl 7 6 (by kernel_rfl) hx6
            obtain rfl := cu5 hx5
            obtain rfl := cu90 hx0
            obtain rfl := cu91 hx1
            obtain rfl := cu92 hx2
            obtain rfl := cu93 hx3
            obtain rfl := cr0_0
            obtain rfl := cr1_1 hx4
            obtain rfl := cr2_0
            obtain rfl := cr3_0
            obtain rfl := cr4_1 hx3
            refine hG (any_step ?_); clear hG G; intro A J hJ
            have hle0 := Fz.le.trans hle0 hle685
            have hzst := Fz.le.refl Z684
            have hs761 := hs654.mono hle685
            have hs762 := hs655.mono hle685
            have hs763 := hs656.mono hle685
            have hs764 := hs657.mono hle685
            have hs765 := hs658.mono hle685
            have hs766 := hs659.mono hle685
            refine s1 hFx 6 (.slice none 0 0) ?_; intro a767 hF768; clear hFx
            refine nl (qnI (hJ _ _ ?_)); clear hJ J
            exact ⟨ao671, cap672, .slice ao671 (pflow u0.Block).length cap672, .slice none 0 0, ud7, .agg #[.int .i64 (bOr .i64 (bShl .i64 (w64 (bAnd .u8 q132 15)) 8) (w64 q394)), .slice ao475 (bcloneS (u1.drop (2 : Int).toNat)).length cap476, .int .i64 1, .int .i64 u0.Block, .int .i64 u0.Block], .pointer (some ⟨b10, 3, none⟩), .int .i64 u0.Block, .slice ao671 (pflow u0.Block).length cap672, .row b116 [.int .i64 (bOr .i64 (bShl .i64 (w64 (bAnd .u8 q132 15)) 8) (w64 q394)), .slice ao475 (bcloneS (u1.drop (2 : Int).toNat)).length cap476, .int .i64 1, .int .i64 u0.Block, .int .i64 u0.Block] 71, .row b15 [.int .i64 (bOr .i64 (bShl .i64 (w64 (bAnd .u8 q132 15)) 8) (w64 q394)), .slice ao475 (bcloneS (u1.drop (2 : Int).toNat)).length cap476, .int .i64 1, .int .i64 u0.Block, .int .i64 u0.Block] 71, .row b10 [.int .i64 u0.Want, .slice ao1 u0.Data.length cap2, .int .i64 u0.Next, .int .i64 u0.Block, .int .i64 u0.Left] 71, .own (tyInt .u8) 5 ao475 cap476 (bcloneS (u1.drop (2 : Int).toNat)), .own (tyInt .u8) 5 ao671 cap672 (pflow u0.Block), Z684, hle685, hF768.region (by kernel_rfl) (by kernel_rfl), hMx.perm (List.Perm.refl _), kf, kf, (nt hx7), kf, kf, kf, kf, rfl, (tn hx4), kf, rfl, rfl, (tn hx3), kf⟩
           · -- 7: assign
            obtain rfl := Option.some.inj hi
            have hx6 := hpre 6 (by kernel_rfl)
            have hx5 := hpre 5 (by kernel_rfl)
            have hx4 := hpre 4 (by kernel_rfl)
            have hx3 := hpre 3 (by kernel_rfl)
            have hx2 := hpre 2 (by kernel_rfl)
            have hx1 := hpre 1 (by kernel_rfl)
            have hx0 := hpre 0 (by kernel_rfl)
            have hx7 := hSi
            obtain rfl := cu5 hx5
            obtain rfl := cu6 hx6
            obtain rfl := cu90 hx0
            obtain rfl := cu91 hx1
            obtain rfl := cu92 hx2
            obtain rfl := cu93 hx3
            obtain rfl := cr0_0
            obtain rfl := cr1_1 hx4
            obtain rfl := cr2_0
            obtain rfl := cr3_0
            obtain rfl := cr4_1 hx3
            refine hG (any_step ?_); clear hG G; intro A J hJ
            have hle0 := Fz.le.trans hle0 hle685
            have hzst := Fz.le.refl Z684
            have hs770 := hs654.mono hle685
            have hs771 := hs655.mono hle685
            have hs772 := hs656.mono hle685
            have hs773 := hs657.mono hle685
            have hs774 := hs658.mono hle685
            have hs775 := hs659.mono hle685
            refine s1 hFx 7 (.int .i64 0) ?_; intro a776 hF777; clear hFx
            refine nl (qnI (hJ _ _ ?_)); clear hJ J
            exact ⟨ao671, cap672, .slice ao671 (pflow u0.Block).length cap672, .slice none 0 0, .int .i64 0, .agg #[.int .i64 (bOr .i64 (bShl .i64 (w64 (bAnd .u8 q132 15)) 8) (w64 q394)), .slice ao475 (bcloneS (u1.drop (2 : Int).toNat)).length cap476, .int .i64 1, .int .i64 u0.Block, .int .i64 u0.Block], .pointer (some ⟨b10, 3, none⟩), .int .i64 u0.Block, .slice ao671 (pflow u0.Block).length cap672, .row b116 [.int .i64 (bOr .i64 (bShl .i64 (w64 (bAnd .u8 q132 15)) 8) (w64 q394)), .slice ao475 (bcloneS (u1.drop (2 : Int).toNat)).length cap476, .int .i64 1, .int .i64 u0.Block, .int .i64 u0.Block] 71, .row b15 [.int .i64 (bOr .i64 (bShl .i64 (w64 (bAnd .u8 q132 15)) 8) (w64 q394)), .slice ao475 (bcloneS (u1.drop (2 : Int).toNat)).length cap476, .int .i64 1, .int .i64 u0.Block, .int .i64 u0.Block] 71, .row b10 [.int .i64 u0.Want, .slice ao1 u0.Data.length cap2, .int .i64 u0.Next, .int .i64 u0.Block, .int .i64 u0.Left] 71, .own (tyInt .u8) 5 ao475 cap476 (bcloneS (u1.drop (2 : Int).toNat)), .own (tyInt .u8) 5 ao671 cap672 (pflow u0.Block), Z684, hle685, hF777.region (by kernel_rfl) (by kernel_rfl), hMx.perm (List.Perm.refl _), kf, kf, kf, kf, kf, kf, kf, rfl, (tn hx4), kf, rfl, rfl, (tn hx3), kf⟩
          case hE =>
           intro S hS a779 wd780 hI; refine hid ?_; intro G hG; obtain ⟨ao671, hI⟩ := hI; obtain ⟨cap672, hI⟩ := hI; obtain ⟨ud5, hI⟩ := hI; obtain ⟨ud6, hI⟩ := hI; obtain ⟨ud7, hI⟩ := hI; obtain ⟨ud90, hI⟩ := hI; obtain ⟨ud91, hI⟩ := hI; obtain ⟨ud92, hI⟩ := hI; obtain ⟨ud93, hI⟩ := hI; obtain ⟨rh0, hI⟩ := hI; obtain ⟨rh1, hI⟩ := hI; obtain ⟨rh2, hI⟩ := hI; obtain ⟨rh3, hI⟩ := hI; obtain ⟨rh4, hI⟩ := hI; obtain ⟨Z684, hI⟩ := hI; obtain ⟨hle685, hI⟩ := hI; obtain ⟨hFx, hI⟩ := hI; obtain ⟨hMx, hI⟩ := hI; obtain ⟨cu5, hI⟩ := hI; obtain ⟨cu6, hI⟩ := hI; obtain ⟨cu7, hI⟩ := hI; obtain ⟨cu90, hI⟩ := hI; obtain ⟨cu91, hI⟩ := hI; obtain ⟨cu92, hI⟩ := hI; obtain ⟨cu93, hI⟩ := hI; obtain ⟨cr0_0, hI⟩ := hI; obtain ⟨cr1_0, hI⟩ := hI; obtain ⟨cr1_1, hI⟩ := hI; obtain ⟨cr2_0, hI⟩ := hI; obtain ⟨cr3_0, hI⟩ := hI; obtain ⟨cr4_0, hI⟩ := hI; have cr4_1 := hI; clear hI; refine hG ?_; clear hG G
           obtain rfl := cu5 (hS 5 (by decide))
           obtain rfl := cu6 (hS 6 (by decide))
           obtain rfl := cu7 (hS 7 (by decide))
           obtain rfl := cu90 (hS 0 (by decide))
           obtain rfl := cu91 (hS 1 (by decide))
           obtain rfl := cu92 (hS 2 (by decide))
           obtain rfl := cu93 (hS 3 (by decide))
           obtain rfl := cr0_0
           obtain rfl := cr1_1 (hS 4 (by decide))
           obtain rfl := cr2_0
           obtain rfl := cr3_0
           obtain rfl := cr4_1 (hS 3 (by decide))
           have hle0 := Fz.le.trans hle0 hle685
           have hs781 := hs654.mono hle685
           have hs782 := hs655.mono hle685
           have hs783 := hs656.mono hle685
           have hs784 := hs657.mono hle685
           have hs785 := hs658.mono hle685
           have hs786 := hs659.mono hle685
           refine thn ?_
           refine wp_ret ?_
           refine ibr ?_
           refine thr ?_
           obtain ⟨Z787, hle788, hM789, hs790⟩ := hMx.freeze 3 rfl
           replace hs781 := hs781.mono hle788
           replace hs782 := hs782.mono hle788
           replace hs783 := hs783.mono hle788
           replace hs784 := hs784.mono hle788
           replace hs785 := hs785.mono hle788
           replace hs786 := hs786.mono hle788
           replace hle0 := Fz.le.trans hle0 hle788
           have hM791 : Mem w.heap.size [] w Z [.row b116 [.int .i64 (bOr .i64 (bShl .i64 (w64 (bAnd .u8 q132 15)) 8) (w64 q394)), .slice ao475 (bcloneS (u1.drop (2 : Int).toNat)).length cap476, .int .i64 1, .int .i64 u0.Block, .int .i64 u0.Block] 71, .row b15 [.int .i64 (bOr .i64 (bShl .i64 (w64 (bAnd .u8 q132 15)) 8) (w64 q394)), .slice ao475 (bcloneS (u1.drop (2 : Int).toNat)).length cap476, .int .i64 1, .int .i64 u0.Block, .int .i64 u0.Block] 71, .row b10 [.int .i64 u0.Want, .slice ao1 u0.Data.length cap2, .int .i64 u0.Next, .int .i64 u0.Block, .int .i64 u0.Left] 71, .own (tyInt .u8) 5 ao671 cap672 (pflow u0.Block)] Z787 wd780 := hM789; clear hM789
           have hM792 : Mem w.heap.size [] w Z [.own (tyInt .u8) 5 none 0 ([] : List Int), .row b116 [.int .i64 (bOr .i64 (bShl .i64 (w64 (bAnd .u8 q132 15)) 8) (w64 q394)), .slice ao475 (bcloneS (u1.drop (2 : Int).toNat)).length cap476, .int .i64 1, .int .i64 u0.Block, .int .i64 u0.Block] 71, .row b15 [.int .i64 (bOr .i64 (bShl .i64 (w64 (bAnd .u8 q132 15)) 8) (w64 q394)), .slice ao475 (bcloneS (u1.drop (2 : Int).toNat)).length cap476, .int .i64 1, .int .i64 u0.Block, .int .i64 u0.Block] 71, .row b10 [.int .i64 u0.Want, .slice ao1 u0.Data.length cap2, .int .i64 u0.Next, .int .i64 u0.Block, .int .i64 u0.Left] 71, .own (tyInt .u8) 5 ao671 cap672 (pflow u0.Block)] Z787 wd780 := hM791.addNil (tyInt .u8) 5 (by decide); clear hM791
           obtain ⟨nb793, hnb794⟩ : ∃ b, ao671.isNone = b := ⟨_, rfl⟩; have hp795 := hp501 nb793 (by rw [← hnb794]; exact hM792.ownNil 4 rfl); clear hp501
           refine rt (fn := Try.f41) (v := .tuple #[.agg #[.int .i64 (bOr .i64 (bShl .i64 (w64 (bAnd .u8 q132 15)) 8) (w64 q394)), .slice ao475 (bcloneS (u1.drop (2 : Int).toNat)).length cap476, .int .i64 1, .int .i64 u0.Block, .int .i64 u0.Block], .slice ao671 (pflow u0.Block).length cap672, .slice none ([] : List Int).length 0, .int .i64 0]) hFx (re4c hFx (fn := Try.f41) rfl (ad := ⟨b15, 0, none⟩) (by kernel_rfl) (loadVar_run hM792 2 (b := b15) (k := 5) (vs := [.int .i64 (bOr .i64 (bShl .i64 (w64 (bAnd .u8 q132 15)) 8) (w64 q394)), .slice ao475 (bcloneS (u1.drop (2 : Int).toNat)).length cap476, .int .i64 1, .int .i64 u0.Block, .int .i64 u0.Block]) (ty := 71) rfl (by kernel_rfl) (by kernel_rfl)) (by kernel_rfl) (by kernel_rfl) (by kernel_rfl)) ?_
           have hM796 := hM792.perm ((pk 4 rfl).trans ((List.Perm.refl _).cons _))
           exact ⟨((⟨bOr .i64 (bShl .i64 (w64 (bAnd .u8 q132 15)) 8) (w64 q394), (bcloneS (u1.drop (2 : Int).toNat)), 1, u0.Block, u0.Block⟩ : Getter), (pflow u0.Block), ([] : List Int), 0, nb793, true), ao475, cap476, ao671, cap672, none, 0, Z787, rfl, hp795, hs790, hnb794, rfl, hM796.keep (List.Sublist.cons_cons _ (List.Sublist.cons_cons _ (List.Sublist.cons _ (List.Sublist.cons _ (List.Sublist.cons _ (List.Sublist.slnil))))))⟩
     · -- no
      have hp797 := hp350.2 hb356; clear hp350
      refine sqH ?_; intro hQ798Q hQ798
      refine s1 hF355 95 (.bool ((bShr .u8 q155 4) == 2)) ?_; intro a799 hF800; clear hF355
      refine s1 hF800 94 (.bool ((bShr .u8 q155 4) == 2)) ?_; intro a801 hF802; clear hF800
      refine nlH (hQ798 _ _ ?_); clear hQ798 hQ798Q
      refine cd hF802 (t := (bShr .u8 q155 4) == 2) (by kernel_rfl) (fun hb803 => ?_) (fun hb803 => ?_)
      · -- yes
       have hp804 := hp797.1 hb803; clear hp797
       refine wp_seq ?_
       refine sqH ?_; intro hQ805Q hQ805
       refine s1 hF802 96 (.pointer (some ⟨b10, 0, none⟩)) ?_; intro a806 hF807; clear hF802
       refine l1 hF807 hM123 97 2 0 (.int .i64 u0.Want) rfl rfl ?_; intro a808 hF809; clear hF807
       refine s1 hF809 98 (.bool (u0.Want == 0)) ?_; intro a810 hF811; clear hF809
       refine nlH (hQ805 _ _ ?_); clear hQ805 hQ805Q
       refine cd hF811 (t := u0.Want == 0) (by kernel_rfl) (fun hb812 => ?_) (fun hb812 => ?_)
       · -- yes
        have hp813 := hp804.1 hb812; clear hp804
        refine sqH ?_; intro hQ814Q hQ814
        refine s1 hF811 99 (.agg #[.int .i64 0, .slice none 0 0, .int .i64 0, .int .i64 0, .int .i64 0]) ?_; intro a815 hF816; clear hF811
        refine sr hF816 hM123 1 [.int .i64 0, .slice none 0 0, .int .i64 0, .int .i64 0, .int .i64 0] (b := b15) (off := 0) (cs := [.int .i64 0, .slice none 0 0, .int .i64 0, .int .i64 0, .int .i64 0]) (ty := 71) (u := .agg #[.int .i64 0, .slice none 0 0, .int .i64 0, .int .i64 0, .int .i64 0]) (nog rfl _) rfl rfl (by kernel_rfl) (by kernel_rfl) (by kernel_rfl) (by kernel_rfl) (by kernel_rfl) (by kernel_rfl) (by kernel_rfl) ?_; intro wd817 hM818; clear hM123
        refine s1 hF816 5 (.slice none 0 0) ?_; intro a819 hF820; clear hF816
        refine s1 hF820 6 (.slice none 0 0) ?_; intro a821 hF822; clear hF820
        refine s1 hF822 7 (.int .i64 12) ?_; intro a823 hF824; clear hF822
        have hM825 : Mem w.heap.size [] w Z [.row b116 [.int .i64 0, .slice none 0 0, .int .i64 0, .int .i64 u0.Block, .int .i64 0] 71, .row b15 [.int .i64 0, .slice none 0 0, .int .i64 0, .int .i64 0, .int .i64 0] 71, .row b10 [.int .i64 u0.Want, .slice ao1 u0.Data.length cap2, .int .i64 u0.Next, .int .i64 u0.Block, .int .i64 u0.Left] 71] Z wd817 := hM818; clear hM818
        refine nlH (hQ814 _ _ ?_); clear hQ814 hQ814Q
        refine wp_ret ?_
        refine thr ?_
        refine ibr ?_
        refine thr ?_
        have hM826 : Mem w.heap.size [] w Z [.own (tyInt .u8) 5 none 0 ([] : List Int), .row b116 [.int .i64 0, .slice none 0 0, .int .i64 0, .int .i64 u0.Block, .int .i64 0] 71, .row b15 [.int .i64 0, .slice none 0 0, .int .i64 0, .int .i64 0, .int .i64 0] 71, .row b10 [.int .i64 u0.Want, .slice ao1 u0.Data.length cap2, .int .i64 u0.Next, .int .i64 u0.Block, .int .i64 u0.Left] 71] Z wd817 := hM825.addNil (tyInt .u8) 5 (by decide); clear hM825
        have hM827 : Mem w.heap.size [] w Z [.own (tyInt .u8) 5 none 0 ([] : List Int), .own (tyInt .u8) 5 none 0 ([] : List Int), .row b116 [.int .i64 0, .slice none 0 0, .int .i64 0, .int .i64 u0.Block, .int .i64 0] 71, .row b15 [.int .i64 0, .slice none 0 0, .int .i64 0, .int .i64 0, .int .i64 0] 71, .row b10 [.int .i64 u0.Want, .slice ao1 u0.Data.length cap2, .int .i64 u0.Next, .int .i64 u0.Block, .int .i64 u0.Left] 71] Z wd817 := hM826.addNil (tyInt .u8) 5 (by decide); clear hM826
        refine rt (fn := Try.f41) (v := .tuple #[.agg #[.int .i64 0, .slice none 0 0, .int .i64 0, .int .i64 0, .int .i64 0], .slice none ([] : List Int).length 0, .slice none ([] : List Int).length 0, .int .i64 12]) hF824 (re4c hF824 (fn := Try.f41) rfl (ad := ⟨b15, 0, none⟩) (by kernel_rfl) (loadVar_run hM827 3 (b := b15) (k := 5) (vs := [.int .i64 0, .slice none 0 0, .int .i64 0, .int .i64 0, .int .i64 0]) (ty := 71) rfl (by kernel_rfl) (by kernel_rfl)) (by kernel_rfl) (by kernel_rfl) (by kernel_rfl)) ?_
        exact ⟨((⟨0, [], 0, 0, 0⟩ : Getter), ([] : List Int), ([] : List Int), 12, true, true), none, 0, none, 0, none, 0, Z, rfl, hp813, (SlR.nil _ _), rfl, rfl, hM827.keep (List.Sublist.cons_cons _ (List.Sublist.cons_cons _ (List.Sublist.cons _ (List.Sublist.cons _ (List.Sublist.cons _ (List.Sublist.slnil))))))⟩
       · -- no
        have hp828 := hp804.2 hb812; clear hp804
        refine wp_skip ?_
        refine thn ?_
        refine sqH ?_; intro hQ829Q hQ829
        refine s1 hF811 100 (.pointer (some ⟨b10, 0, none⟩)) ?_; intro a830 hF831; clear hF811
        refine l1 hF831 hM123 101 2 0 (.int .i64 u0.Want) rfl rfl ?_; intro a832 hF833; clear hF831
        refine s1 hF833 102 (.pointer (some ⟨b10, 1, none⟩)) ?_; intro a834 hF835; clear hF833
        refine l1 hF835 hM123 103 2 1 (.slice ao1 u0.Data.length cap2) rfl rfl ?_; intro a836 hF837; clear hF835
        refine s1 hF837 104 (.int .i64 (u0.Data.length : Int)) ?_; intro a838 hF839; clear hF837
        refine s1 hF839 105 (.int .i64 (w64 (u0.Want - (u0.Data.length : Int)))) ?_; intro a840 hF841; clear hF839
        refine st hF841 (.int .i64 (min 7 (w64 (u0.Want - (u0.Data.length : Int))))) (nog rfl _) rfl (by kernel_rfl) (re_ (p0 hF841 (r := .ok (.value (.int .i64 (if (w64 (u0.Want - (u0.Data.length : Int))) < 7 then (w64 (u0.Want - (u0.Data.length : Int))) else 7))) wd121) (by kernel_rfl)) (by rw [imin])) ?_; intro a842 hF843; clear hF841
        refine s1 hF843 12 (.int .i64 (min 7 (w64 (u0.Want - (u0.Data.length : Int))))) ?_; intro a844 hF845; clear hF843
        refine nlH (hQ829 _ _ ?_); clear hQ829 hQ829Q
        refine wp_seq ?_
        have hF846 : Fr 157 [] [⟨1, [], .slice ao4 u1.length cap5⟩, ⟨2, [], .pointer (some ⟨b10, 0, none⟩)⟩, ⟨4, [], .pointer (some ⟨b15, 0, none⟩)⟩, ⟨9, [], .pointer (some ⟨b116, 0, none⟩)⟩, ⟨10, [], .int .i64 (w64 (bAnd .u8 q132 15))⟩, ⟨12, [], .int .i64 (min 7 (w64 (u0.Want - (u0.Data.length : Int))))⟩] a844 := hF845.region (by kernel_rfl) (by kernel_rfl); clear hF845
        refine sqH ?_; intro hQ847Q hQ847
        refine s1 hF846 107 (.int .i64 (w64 (bAnd .u8 q132 15))) ?_; intro a848 hF849; clear hF846
        refine s1 hF849 108 (.pointer (some ⟨b10, 2, none⟩)) ?_; intro a850 hF851; clear hF849
        refine l1 hF851 hM123 109 2 2 (.int .i64 u0.Next) rfl rfl ?_; intro a852 hF853; clear hF851
        refine s1 hF853 110 (.bool ((w64 (bAnd .u8 q132 15)) != u0.Next)) ?_; intro a854 hF855; clear hF853
        refine nlH (hQ847 _ _ ?_); clear hQ847 hQ847Q
        refine cd hF855 (t := (w64 (bAnd .u8 q132 15)) != u0.Next) (by kernel_rfl) (fun hb856 => ?_) (fun hb856 => ?_)
        · -- yes
         have hp857 := hp828.1 hb856; clear hp828
         refine sqH ?_; intro hQ858Q hQ858
         refine s1 hF855 111 (.agg #[.int .i64 0, .slice none 0 0, .int .i64 0, .int .i64 0, .int .i64 0]) ?_; intro a859 hF860; clear hF855
         refine sr hF860 hM123 1 [.int .i64 0, .slice none 0 0, .int .i64 0, .int .i64 0, .int .i64 0] (b := b15) (off := 0) (cs := [.int .i64 0, .slice none 0 0, .int .i64 0, .int .i64 0, .int .i64 0]) (ty := 71) (u := .agg #[.int .i64 0, .slice none 0 0, .int .i64 0, .int .i64 0, .int .i64 0]) (nog rfl _) rfl rfl (by kernel_rfl) (by kernel_rfl) (by kernel_rfl) (by kernel_rfl) (by kernel_rfl) (by kernel_rfl) (by kernel_rfl) ?_; intro wd861 hM862; clear hM123
         refine s1 hF860 5 (.slice none 0 0) ?_; intro a863 hF864; clear hF860
         refine s1 hF864 6 (.slice none 0 0) ?_; intro a865 hF866; clear hF864
         refine s1 hF866 7 (.int .i64 14) ?_; intro a867 hF868; clear hF866
         have hM869 : Mem w.heap.size [] w Z [.row b116 [.int .i64 0, .slice none 0 0, .int .i64 0, .int .i64 u0.Block, .int .i64 0] 71, .row b15 [.int .i64 0, .slice none 0 0, .int .i64 0, .int .i64 0, .int .i64 0] 71, .row b10 [.int .i64 u0.Want, .slice ao1 u0.Data.length cap2, .int .i64 u0.Next, .int .i64 u0.Block, .int .i64 u0.Left] 71] Z wd861 := hM862; clear hM862
         refine nlH (hQ858 _ _ ?_); clear hQ858 hQ858Q
         refine wp_ret ?_
         refine thr ?_
         refine ibr ?_
         refine thr ?_
         have hM870 : Mem w.heap.size [] w Z [.own (tyInt .u8) 5 none 0 ([] : List Int), .row b116 [.int .i64 0, .slice none 0 0, .int .i64 0, .int .i64 u0.Block, .int .i64 0] 71, .row b15 [.int .i64 0, .slice none 0 0, .int .i64 0, .int .i64 0, .int .i64 0] 71, .row b10 [.int .i64 u0.Want, .slice ao1 u0.Data.length cap2, .int .i64 u0.Next, .int .i64 u0.Block, .int .i64 u0.Left] 71] Z wd861 := hM869.addNil (tyInt .u8) 5 (by decide); clear hM869
         have hM871 : Mem w.heap.size [] w Z [.own (tyInt .u8) 5 none 0 ([] : List Int), .own (tyInt .u8) 5 none 0 ([] : List Int), .row b116 [.int .i64 0, .slice none 0 0, .int .i64 0, .int .i64 u0.Block, .int .i64 0] 71, .row b15 [.int .i64 0, .slice none 0 0, .int .i64 0, .int .i64 0, .int .i64 0] 71, .row b10 [.int .i64 u0.Want, .slice ao1 u0.Data.length cap2, .int .i64 u0.Next, .int .i64 u0.Block, .int .i64 u0.Left] 71] Z wd861 := hM870.addNil (tyInt .u8) 5 (by decide); clear hM870
         refine rt (fn := Try.f41) (v := .tuple #[.agg #[.int .i64 0, .slice none 0 0, .int .i64 0, .int .i64 0, .int .i64 0], .slice none ([] : List Int).length 0, .slice none ([] : List Int).length 0, .int .i64 14]) hF868 (re4c hF868 (fn := Try.f41) rfl (ad := ⟨b15, 0, none⟩) (by kernel_rfl) (loadVar_run hM871 3 (b := b15) (k := 5) (vs := [.int .i64 0, .slice none 0 0, .int .i64 0, .int .i64 0, .int .i64 0]) (ty := 71) rfl (by kernel_rfl) (by kernel_rfl)) (by kernel_rfl) (by kernel_rfl) (by kernel_rfl)) ?_
         exact ⟨((⟨0, [], 0, 0, 0⟩ : Getter), ([] : List Int), ([] : List Int), 14, true, true), none, 0, none, 0, none, 0, Z, rfl, hp857, (SlR.nil _ _), rfl, rfl, hM871.keep (List.Sublist.cons_cons _ (List.Sublist.cons_cons _ (List.Sublist.cons _ (List.Sublist.cons _ (List.Sublist.cons _ (List.Sublist.slnil))))))⟩
        · -- no
         have hp872 := hp828.2 hb856; clear hp828
         refine wp_skip ?_
         refine thn ?_
         refine wp_seq ?_
         refine sqH ?_; intro hQ873Q hQ873
         refine s1 hF855 112 (.slice ao4 u1.length cap5) ?_; intro a874 hF875; clear hF855
         refine s1 hF875 113 (.int .i64 (u1.length : Int)) ?_; intro a876 hF877; clear hF875
         refine s1 hF877 114 (.int .i64 (min 7 (w64 (u0.Want - (u0.Data.length : Int))))) ?_; intro a878 hF879; clear hF877
         refine s1 hF879 115 (.int .i64 (w64 ((min 7 (w64 (u0.Want - (u0.Data.length : Int)))) + 1))) ?_; intro a880 hF881; clear hF879
         refine s1 hF881 116 (.bool ((u1.length : Int) != (w64 ((min 7 (w64 (u0.Want - (u0.Data.length : Int)))) + 1)))) ?_; intro a882 hF883; clear hF881
         refine nlH (hQ873 _ _ ?_); clear hQ873 hQ873Q
         refine cd hF883 (t := (u1.length : Int) != (w64 ((min 7 (w64 (u0.Want - (u0.Data.length : Int)))) + 1))) (by kernel_rfl) (fun hb884 => ?_) (fun hb884 => ?_)
         · -- yes
          have hp885 := hp872.1 hb884; clear hp872
          refine sqH ?_; intro hQ886Q hQ886
          refine s1 hF883 117 (.agg #[.int .i64 0, .slice none 0 0, .int .i64 0, .int .i64 0, .int .i64 0]) ?_; intro a887 hF888; clear hF883
          refine sr hF888 hM123 1 [.int .i64 0, .slice none 0 0, .int .i64 0, .int .i64 0, .int .i64 0] (b := b15) (off := 0) (cs := [.int .i64 0, .slice none 0 0, .int .i64 0, .int .i64 0, .int .i64 0]) (ty := 71) (u := .agg #[.int .i64 0, .slice none 0 0, .int .i64 0, .int .i64 0, .int .i64 0]) (nog rfl _) rfl rfl (by kernel_rfl) (by kernel_rfl) (by kernel_rfl) (by kernel_rfl) (by kernel_rfl) (by kernel_rfl) (by kernel_rfl) ?_; intro wd889 hM890; clear hM123
          refine s1 hF888 5 (.slice none 0 0) ?_; intro a891 hF892; clear hF888
          refine s1 hF892 6 (.slice none 0 0) ?_; intro a893 hF894; clear hF892
          refine s1 hF894 7 (.int .i64 4) ?_; intro a895 hF896; clear hF894
          have hM897 : Mem w.heap.size [] w Z [.row b116 [.int .i64 0, .slice none 0 0, .int .i64 0, .int .i64 u0.Block, .int .i64 0] 71, .row b15 [.int .i64 0, .slice none 0 0, .int .i64 0, .int .i64 0, .int .i64 0] 71, .row b10 [.int .i64 u0.Want, .slice ao1 u0.Data.length cap2, .int .i64 u0.Next, .int .i64 u0.Block, .int .i64 u0.Left] 71] Z wd889 := hM890; clear hM890
          refine nlH (hQ886 _ _ ?_); clear hQ886 hQ886Q
          refine wp_ret ?_
          refine thr ?_
          refine ibr ?_
          refine thr ?_
          have hM898 : Mem w.heap.size [] w Z [.own (tyInt .u8) 5 none 0 ([] : List Int), .row b116 [.int .i64 0, .slice none 0 0, .int .i64 0, .int .i64 u0.Block, .int .i64 0] 71, .row b15 [.int .i64 0, .slice none 0 0, .int .i64 0, .int .i64 0, .int .i64 0] 71, .row b10 [.int .i64 u0.Want, .slice ao1 u0.Data.length cap2, .int .i64 u0.Next, .int .i64 u0.Block, .int .i64 u0.Left] 71] Z wd889 := hM897.addNil (tyInt .u8) 5 (by decide); clear hM897
          have hM899 : Mem w.heap.size [] w Z [.own (tyInt .u8) 5 none 0 ([] : List Int), .own (tyInt .u8) 5 none 0 ([] : List Int), .row b116 [.int .i64 0, .slice none 0 0, .int .i64 0, .int .i64 u0.Block, .int .i64 0] 71, .row b15 [.int .i64 0, .slice none 0 0, .int .i64 0, .int .i64 0, .int .i64 0] 71, .row b10 [.int .i64 u0.Want, .slice ao1 u0.Data.length cap2, .int .i64 u0.Next, .int .i64 u0.Block, .int .i64 u0.Left] 71] Z wd889 := hM898.addNil (tyInt .u8) 5 (by decide); clear hM898
          refine rt (fn := Try.f41) (v := .tuple #[.agg #[.int .i64 0, .slice none 0 0, .int .i64 0, .int .i64 0, .int .i64 0], .slice none ([] : List Int).length 0, .slice none ([] : List Int).length 0, .int .i64 4]) hF896 (re4c hF896 (fn := Try.f41) rfl (ad := ⟨b15, 0, none⟩) (by kernel_rfl) (loadVar_run hM899 3 (b := b15) (k := 5) (vs := [.int .i64 0, .slice none 0 0, .int .i64 0, .int .i64 0, .int .i64 0]) (ty := 71) rfl (by kernel_rfl) (by kernel_rfl)) (by kernel_rfl) (by kernel_rfl) (by kernel_rfl)) ?_
          exact ⟨((⟨0, [], 0, 0, 0⟩ : Getter), ([] : List Int), ([] : List Int), 4, true, true), none, 0, none, 0, none, 0, Z, rfl, hp885, (SlR.nil _ _), rfl, rfl, hM899.keep (List.Sublist.cons_cons _ (List.Sublist.cons_cons _ (List.Sublist.cons _ (List.Sublist.cons _ (List.Sublist.cons _ (List.Sublist.slnil))))))⟩
         · -- no
          have hp900 := hp872.2 hb884; clear hp872
          refine wp_skip ?_
          refine thn ?_
          have hF901 : Fr 157 [] [⟨1, [], .slice ao4 u1.length cap5⟩, ⟨2, [], .pointer (some ⟨b10, 0, none⟩)⟩, ⟨4, [], .pointer (some ⟨b15, 0, none⟩)⟩, ⟨9, [], .pointer (some ⟨b116, 0, none⟩)⟩] a882 := hF883.region (by kernel_rfl) (by kernel_rfl); clear hF883
          have hcd2_0 := hp900.1; have hp933 := hp900.2; clear hp900
          have hcd4_0 := hp933.1; have hp934 := hp933.2; clear hp933
          have hcd5_0 := hp934.1; have hp935 := hp934.2; clear hp934
          refine wp_seq (any_invE mixed [[], [0], [1], [], [3], [2, 4], [0, 1, 2, 3, 4, 5]] 7 (fun S a w1 => ∃ (ao910 : Option Addr) (cap911 : Nat) (ao917 : Option Addr) (cap918 : Nat) (ao923 : Option Addr) (cap924 : Nat) (ud13 : Value) (ud118 : Value) (ud119 : Value) (ud120 : Value) (ud121 : Value) (ud122 : Value) (ud123 : Value) (rh0 : Res) (rh1 : Res) (rh2 : Res) (rh3 : Res) (Z936 : Fz), Fz.le Z Z936 ∧ Fr 157 [] [⟨1, [], .slice ao4 u1.length cap5⟩, ⟨2, [], .pointer (some ⟨b10, 0, none⟩)⟩, ⟨4, [], .pointer (some ⟨b15, 0, none⟩)⟩, ⟨9, [], .pointer (some ⟨b116, 0, none⟩)⟩, ⟨13, [], ud13⟩, ⟨118, [], ud118⟩, ⟨119, [], ud119⟩, ⟨120, [], ud120⟩, ⟨121, [], ud121⟩, ⟨122, [], ud122⟩, ⟨123, [], ud123⟩] a ∧ Mem w.heap.size [] w Z [rh0, rh1, rh2, rh3] Z936 w1 ∧ (S 6 = true → ud13 = .slice ao923 ((bcloneS u0.Data) ++ (u1.drop (1 : Int).toNat)).length cap924) ∧ (S 0 = true → ud118 = .pointer (some ⟨b10, 1, none⟩)) ∧ (S 1 = true → ud119 = .slice ao1 u0.Data.length cap2) ∧ (S 2 = true → ud120 = .slice ao910 (bcloneS u0.Data).length cap911) ∧ (S 3 = true → ud121 = .slice ao4 u1.length cap5) ∧ (S 4 = true → ud122 = .slice ao917 (u1.drop (1 : Int).toNat).length cap918) ∧ (S 5 = true → ud123 = .slice ao923 ((bcloneS u0.Data) ++ (u1.drop (1 : Int).toNat)).length cap924) ∧ (rh0 = .row b116 [.int .i64 0, .slice none 0 0, .int .i64 0, .int .i64 u0.Block, .int .i64 0] 71) ∧ (rh1 = .row b15 [.int .i64 0, .slice none 0 0, .int .i64 0, .int .i64 0, .int .i64 0] 71) ∧ (rh2 = .row b10 [.int .i64 u0.Want, .slice ao1 u0.Data.length cap2, .int .i64 u0.Next, .int .i64 u0.Block, .int .i64 u0.Left] 71) ∧ (S 2 = false → rh3 = .nil) ∧ (S 2 = true → S 5 = false → rh3 = .own (tyInt .u8) 5 ao910 cap911 (bcloneS u0.Data)) ∧ (S 5 = true → rh3 = .own (tyInt .u8) 5 ao923 cap924 ((bcloneS u0.Data) ++ (u1.drop (1 : Int).toNat))) ∧ (S 4 = true → SlR (tyInt .u8) Z936 ao917 cap918 (u1.drop (1 : Int).toNat))) ?h0 ?hs ?hE)
          case h0 =>
           have hF938 := hF901.any 13
           have hF939 := hF938.any 118
           have hF940 := hF939.any 119
           have hF941 := hF940.any 120
           have hF942 := hF941.any 121
           have hF943 := hF942.any 122
           have hF944 := hF943.any 123
           have hM945 := hM123.nilRes
           have hM946 := (hM945.perm ((pk 1 rfl).trans (((pk 1 rfl).trans (((pk 1 rfl).trans ((List.Perm.refl _).cons _)).cons _)).cons _))).drew
           exact ⟨none, 0, none, 0, none, 0, a882.tmps.getD 13 undef, a882.tmps.getD 118 undef, a882.tmps.getD 119 undef, a882.tmps.getD 120 undef, a882.tmps.getD 121 undef, a882.tmps.getD 122 undef, a882.tmps.getD 123 undef, .row b116 [.int .i64 0, .slice none 0 0, .int .i64 0, .int .i64 u0.Block, .int .i64 0] 71, .row b15 [.int .i64 0, .slice none 0 0, .int .i64 0, .int .i64 0, .int .i64 0] 71, .row b10 [.int .i64 u0.Want, .slice ao1 u0.Data.length cap2, .int .i64 u0.Next, .int .i64 u0.Block, .int .i64 u0.Left] 71, .nil, Z, Fz.le.refl _, hF944.region (by kernel_rfl) (by kernel_rfl), hM946, ff, ff, ff, ff, ff, ff, ff, rfl, rfl, rfl, kf, ff, ff, ff⟩
          case hs =>
           intro S hcl i o hil hi hSi hpre a w1 hI; refine hid ?_; intro G hG; obtain ⟨ao910, hI⟩ := hI; obtain ⟨cap911, hI⟩ := hI; obtain ⟨ao917, hI⟩ := hI; obtain ⟨cap918, hI⟩ := hI; obtain ⟨ao923, hI⟩ := hI; obtain ⟨cap924, hI⟩ := hI; obtain ⟨ud13, hI⟩ := hI; obtain ⟨ud118, hI⟩ := hI; obtain ⟨ud119, hI⟩ := hI; obtain ⟨ud120, hI⟩ := hI; obtain ⟨ud121, hI⟩ := hI; obtain ⟨ud122, hI⟩ := hI; obtain ⟨ud123, hI⟩ := hI; obtain ⟨rh0, hI⟩ := hI; obtain ⟨rh1, hI⟩ := hI; obtain ⟨rh2, hI⟩ := hI; obtain ⟨rh3, hI⟩ := hI; obtain ⟨Z936, hI⟩ := hI; obtain ⟨hle937, hI⟩ := hI; obtain ⟨hFx, hI⟩ := hI; obtain ⟨hMx, hI⟩ := hI; obtain ⟨cu13, hI⟩ := hI; obtain ⟨cu118, hI⟩ := hI; obtain ⟨cu119, hI⟩ := hI; obtain ⟨cu120, hI⟩ := hI; obtain ⟨cu121, hI⟩ := hI; obtain ⟨cu122, hI⟩ := hI; obtain ⟨cu123, hI⟩ := hI; obtain ⟨cr0_0, hI⟩ := hI; obtain ⟨cr1_0, hI⟩ := hI; obtain ⟨cr2_0, hI⟩ := hI; obtain ⟨cr3_0, hI⟩ := hI; obtain ⟨cr3_1, hI⟩ := hI; obtain ⟨cr3_2, hI⟩ := hI; have cf0 := hI; clear hI
           have hcase : i = 0 ∨ i = 1 ∨ i = 2 ∨ i = 3 ∨ i = 4 ∨ i = 5 ∨ i = 6 := by clear hi; omega
           rcases hcase with rfl | rfl | rfl | rfl | rfl | rfl | rfl
           · -- 0: fieldAddr
            obtain rfl := Option.some.inj hi
            have hx0 := hSi
            have hx1 := negF hcl 1 0 (by kernel_rfl) hx0
            have hx2 := negF hcl 2 1 (by kernel_rfl) hx1
            have hx5 := negF hcl 5 2 (by kernel_rfl) hx2
            have hx6 := negF hcl 6 0 (by kernel_rfl) hx0
            obtain rfl := cr0_0
            obtain rfl := cr1_0
            obtain rfl := cr2_0
            obtain rfl := cr3_0 hx2
            refine hG (any_step ?_); clear hG G; intro A J hJ
            have hle0 := Fz.le.trans hle0 hle937
            have hzst := Fz.le.refl Z936
            have hs947 := hs3.mono hle937
            have hs948 := hs6.mono hle937
            have hs949 := hP134.mono hle937
            have hs950 := hP157.mono hle937
            have hM951 := hMx.keep (List.Sublist.cons_cons _ (List.Sublist.cons_cons _ (List.Sublist.cons_cons _ (List.Sublist.cons _ (List.Sublist.slnil))))); clear hMx
            refine s1 hFx 118 (.pointer (some ⟨b10, 1, none⟩)) ?_; intro a952 hF953; clear hFx
            refine nl (qnI (hJ _ _ ?_)); clear hJ J
            have hM954 := hM951.nilRes
            exact ⟨ao910, cap911, ao917, cap918, ao923, cap924, ud13, .pointer (some ⟨b10, 1, none⟩), ud119, ud120, ud121, ud122, ud123, .row b116 [.int .i64 0, .slice none 0 0, .int .i64 0, .int .i64 u0.Block, .int .i64 0] 71, .row b15 [.int .i64 0, .slice none 0 0, .int .i64 0, .int .i64 0, .int .i64 0] 71, .row b10 [.int .i64 u0.Want, .slice ao1 u0.Data.length cap2, .int .i64 u0.Next, .int .i64 u0.Block, .int .i64 u0.Left] 71, .nil, Z936, hle937, hF953.region (by kernel_rfl) (by kernel_rfl), hM954.perm ((pk 1 rfl).trans (((pk 1 rfl).trans (((pk 1 rfl).trans ((List.Perm.refl _).cons _)).cons _)).cons _)), (nt hx6), kf, (nt hx1), (nt hx2), cu121, cu122, (nt hx5), rfl, rfl, rfl, kf, (fun h _ => nt hx2 h), (nt hx5), cf0⟩
           · -- 1: load
            obtain rfl := Option.some.inj hi
            have hx0 := hpre 0 (by kernel_rfl)
            have hx1 := hSi
            have hx2 := negF hcl 2 1 (by kernel_rfl) hx1
            have hx5 := negF hcl 5 2 (by kernel_rfl) hx2
            have hx6 := negF hcl 6 1 (by kernel_rfl) hx1
            obtain rfl := cu118 hx0
            obtain rfl := cr0_0
            obtain rfl := cr1_0
            obtain rfl := cr2_0
            obtain rfl := cr3_0 hx2
            refine hG (any_step ?_); clear hG G; intro A J hJ
            have hle0 := Fz.le.trans hle0 hle937
            have hzst := Fz.le.refl Z936
            have hs956 := hs3.mono hle937
            have hs957 := hs6.mono hle937
            have hs958 := hP134.mono hle937
            have hs959 := hP157.mono hle937
            have hM960 := hMx.keep (List.Sublist.cons_cons _ (List.Sublist.cons_cons _ (List.Sublist.cons_cons _ (List.Sublist.cons _ (List.Sublist.slnil))))); clear hMx
            refine l1 hFx hM960 119 2 1 (.slice ao1 u0.Data.length cap2) rfl rfl ?_; intro a961 hF962; clear hFx
            refine nl (qnI (hJ _ _ ?_)); clear hJ J
            have hM963 := hM960.nilRes
            exact ⟨ao910, cap911, ao917, cap918, ao923, cap924, ud13, .pointer (some ⟨b10, 1, none⟩), .slice ao1 u0.Data.length cap2, ud120, ud121, ud122, ud123, .row b116 [.int .i64 0, .slice none 0 0, .int .i64 0, .int .i64 u0.Block, .int .i64 0] 71, .row b15 [.int .i64 0, .slice none 0 0, .int .i64 0, .int .i64 0, .int .i64 0] 71, .row b10 [.int .i64 u0.Want, .slice ao1 u0.Data.length cap2, .int .i64 u0.Next, .int .i64 u0.Block, .int .i64 u0.Left] 71, .nil, Z936, hle937, hF962.region (by kernel_rfl) (by kernel_rfl), hM963.perm ((pk 1 rfl).trans (((pk 1 rfl).trans (((pk 1 rfl).trans ((List.Perm.refl _).cons _)).cons _)).cons _)), (nt hx6), kf, kf, (nt hx2), cu121, cu122, (nt hx5), rfl, rfl, rfl, kf, (fun h _ => nt hx2 h), (nt hx5), cf0⟩
           · -- 2: call
            obtain rfl := Option.some.inj hi
            have hx1 := hpre 1 (by kernel_rfl)
            have hx0 := hcl 1 0 (by kernel_rfl) hx1
            have hx2 := hSi
            have hx5 := negF hcl 5 2 (by kernel_rfl) hx2
            have hx6 := negF hcl 6 2 (by kernel_rfl) hx2
            obtain rfl := cu118 hx0
            obtain rfl := cu119 hx1
            obtain rfl := cr0_0
            obtain rfl := cr1_0
            obtain rfl := cr2_0
            obtain rfl := cr3_0 hx2
            refine hG (any_step ?_); clear hG G; intro A J hJ
            have hle0 := Fz.le.trans hle0 hle937
            have hzst := Fz.le.refl Z936
            have hs965 := hs3.mono hle937
            have hs966 := hs6.mono hle937
            have hs967 := hP134.mono hle937
            have hs968 := hP157.mono hle937
            have hM969 := hMx.keep (List.Sublist.cons_cons _ (List.Sublist.cons_cons _ (List.Sublist.cons_cons _ (List.Sublist.cons _ (List.Sublist.slnil))))); clear hMx
            refine cl hFx 57 #[.slice ao1 u0.Data.length cap2] (nog rfl _) rfl (by kernel_rfl) (by kernel_rfl) ?_
            refine (bclone_fun u0.Data hcd2_0 ao1 cap2 _ _ hs965 hM969.fz).mono ?_; rintro _ wd970 ⟨ao974, cap975, Z976, rfl, hm⟩; refine ⟨_, rfl, ?_⟩; intro a971 hF972; have hM973 := hM969.callZ hm; have hle977 := hm.ext.le; clear hm hM969 hFx
            replace hzst := hzst.mono hle977
            replace hs965 := hs965.mono hle977
            replace hs966 := hs966.mono hle977
            replace hs967 := hs967.mono hle977
            replace hs968 := hs968.mono hle977
            replace hle0 := Fz.le.trans hle0 hle977
            have hM978 : Mem w.heap.size [] w Z [.own (tyInt .u8) 5 ao974 cap975 (bcloneS u0.Data), .row b116 [.int .i64 0, .slice none 0 0, .int .i64 0, .int .i64 u0.Block, .int .i64 0] 71, .row b15 [.int .i64 0, .slice none 0 0, .int .i64 0, .int .i64 0, .int .i64 0] 71, .row b10 [.int .i64 u0.Want, .slice ao1 u0.Data.length cap2, .int .i64 u0.Next, .int .i64 u0.Block, .int .i64 u0.Left] 71] Z976 wd970 := hM973; clear hM973
            refine nl (qnI (hJ _ _ ?_)); clear hJ J
            exact ⟨ao974, cap975, ao917, cap918, ao923, cap924, ud13, .pointer (some ⟨b10, 1, none⟩), .slice ao1 u0.Data.length cap2, .slice ao974 (bcloneS u0.Data).length cap975, ud121, ud122, ud123, .row b116 [.int .i64 0, .slice none 0 0, .int .i64 0, .int .i64 u0.Block, .int .i64 0] 71, .row b15 [.int .i64 0, .slice none 0 0, .int .i64 0, .int .i64 0, .int .i64 0] 71, .row b10 [.int .i64 u0.Want, .slice ao1 u0.Data.length cap2, .int .i64 u0.Next, .int .i64 u0.Block, .int .i64 u0.Left] 71, .own (tyInt .u8) 5 ao974 cap975 (bcloneS u0.Data), Z976, hle937.trans hzst, hF972.region (by kernel_rfl) (by kernel_rfl), hM978.perm ((pk 1 rfl).trans (((pk 1 rfl).trans (((pk 1 rfl).trans ((List.Perm.refl _).cons _)).cons _)).cons _)), (nt hx6), kf, kf, kf, cu121, cu122, (nt hx5), rfl, rfl, rfl, nu, kf2, (nt hx5), (fun h => (cf0 h).mono hzst)⟩
           · -- 3: move
            obtain rfl := Option.some.inj hi
            have hx3 := hSi
            have hx4 := negF hcl 4 3 (by kernel_rfl) hx3
            have hx5 := negF hcl 5 4 (by kernel_rfl) hx4
            have hx6 := negF hcl 6 3 (by kernel_rfl) hx3
            obtain rfl := cr0_0
            obtain rfl := cr1_0
            obtain rfl := cr2_0
            refine hG (any_step ?_); clear hG G; intro A J hJ
            have hle0 := Fz.le.trans hle0 hle937
            have hzst := Fz.le.refl Z936
            have hs980 := hs3.mono hle937
            have hs981 := hs6.mono hle937
            have hs982 := hP134.mono hle937
            have hs983 := hP157.mono hle937
            refine s1 hFx 121 (.slice ao4 u1.length cap5) ?_; intro a984 hF985; clear hFx
            refine nl (qnI (hJ _ _ ?_)); clear hJ J
            exact ⟨ao910, cap911, ao917, cap918, ao923, cap924, ud13, ud118, ud119, ud120, .slice ao4 u1.length cap5, ud122, ud123, .row b116 [.int .i64 0, .slice none 0 0, .int .i64 0, .int .i64 u0.Block, .int .i64 0] 71, .row b15 [.int .i64 0, .slice none 0 0, .int .i64 0, .int .i64 0, .int .i64 0] 71, .row b10 [.int .i64 u0.Want, .slice ao1 u0.Data.length cap2, .int .i64 u0.Next, .int .i64 u0.Block, .int .i64 u0.Left] 71, rh3, Z936, hle937, hF985.region (by kernel_rfl) (by kernel_rfl), hMx.perm (List.Perm.refl _), (nt hx6), cu118, cu119, cu120, kf, (nt hx4), (nt hx5), rfl, rfl, rfl, cr3_0, cr3_1, (nt hx5), (nt hx4)⟩
           · -- 4: slice
            obtain rfl := Option.some.inj hi
            have hx3 := hpre 3 (by kernel_rfl)
            have hx4 := hSi
            have hx5 := negF hcl 5 4 (by kernel_rfl) hx4
            have hx6 := negF hcl 6 4 (by kernel_rfl) hx4
            obtain rfl := cu121 hx3
            obtain rfl := cr0_0
            obtain rfl := cr1_0
            obtain rfl := cr2_0
            refine hG (any_step ?_); clear hG G; intro A J hJ
            have hle0 := Fz.le.trans hle0 hle937
            have hzst := Fz.le.refl Z936
            have hs987 := hs3.mono hle937
            have hs988 := hs6.mono hle937
            have hs989 := hP134.mono hle937
            have hs990 := hP157.mono hle937
            refine slL hFx (T := (tyInt .u8)) (xs := u1) hs988 (1 : Int) hcd4_0 (k := .i64) (e := 5) (bytes := 1) (nog rfl _) rfl (by kernel_rfl) rfl (by kernel_rfl) (by kernel_rfl) (by kernel_rfl) ?_; intro ao991 cap992 a995 hn993 hs994 hF996; clear hFx
            refine nl (qnI (hJ _ _ ?_)); clear hJ J
            exact ⟨ao910, cap911, ao991, cap992, ao923, cap924, ud13, ud118, ud119, ud120, .slice ao4 u1.length cap5, .slice ao991 (u1.drop (1 : Int).toNat).length cap992, ud123, .row b116 [.int .i64 0, .slice none 0 0, .int .i64 0, .int .i64 u0.Block, .int .i64 0] 71, .row b15 [.int .i64 0, .slice none 0 0, .int .i64 0, .int .i64 0, .int .i64 0] 71, .row b10 [.int .i64 u0.Want, .slice ao1 u0.Data.length cap2, .int .i64 u0.Next, .int .i64 u0.Block, .int .i64 u0.Left] 71, rh3, Z936, hle937, hF996.region (by kernel_rfl) (by kernel_rfl), hMx.perm (List.Perm.refl _), (nt hx6), cu118, cu119, cu120, kf, kf, (nt hx5), rfl, rfl, rfl, cr3_0, cr3_1, (nt hx5), (fun _ => hs994)⟩
           · -- 5: call
            obtain rfl := Option.some.inj hi
            have hx4 := hpre 4 (by kernel_rfl)
            have hx2 := hpre 2 (by kernel_rfl)
            have hx3 := hcl 4 3 (by kernel_rfl) hx4
            have hx1 := hcl 2 1 (by kernel_rfl) hx2
            have hx0 := hcl 1 0 (by kernel_rfl) hx1
            have hx5 := hSi
            have hx6 := negF hcl 6 5 (by kernel_rfl) hx5
            obtain rfl := cu118 hx0
            obtain rfl := cu119 hx1
            obtain rfl := cu120 hx2
            obtain rfl := cu121 hx3
            obtain rfl := cu122 hx4
            obtain rfl := cr0_0
            obtain rfl := cr1_0
            obtain rfl := cr2_0
            obtain rfl := cr3_1 hx2 hx5
            refine hG (any_step ?_); clear hG G; intro A J hJ
            have hle0 := Fz.le.trans hle0 hle937
            have hzst := Fz.le.refl Z936
            have hs998 := hs3.mono hle937
            have hs999 := hs6.mono hle937
            have hs1000 := hP134.mono hle937
            have hs1001 := hP157.mono hle937
            have hs1002 := cf0 hx4
            refine ap hFx hMx 3 (T := (tyInt .u8)) (xs := (bcloneS u0.Data)) (ys := u1.drop (1 : Int).toNat) (ao := ao910) (cap := cap911) (ao2 := ao917) (cap2 := cap918) (t := 36) (e := 5) (bytes := 1) (nog rfl _) rfl (by kernel_rfl) rfl (by kernel_rfl) (by kernel_rfl) (by kernel_rfl) rfl (Src.fz (by decide) hMx.fz hs1002) hcd5_0 ?_; intro ao1003 cap1004 a1008 wd1005 hnil1006 hF1009 hM1007; clear hFx hMx
            have hM1010 : Mem w.heap.size [] w Z [.row b116 [.int .i64 0, .slice none 0 0, .int .i64 0, .int .i64 u0.Block, .int .i64 0] 71, .row b15 [.int .i64 0, .slice none 0 0, .int .i64 0, .int .i64 0, .int .i64 0] 71, .row b10 [.int .i64 u0.Want, .slice ao1 u0.Data.length cap2, .int .i64 u0.Next, .int .i64 u0.Block, .int .i64 u0.Left] 71, .own (tyInt .u8) 5 ao1003 cap1004 ((bcloneS u0.Data) ++ (u1.drop (1 : Int).toNat))] Z936 wd1005 := hM1007; clear hM1007
            refine nl (qnI (hJ _ _ ?_)); clear hJ J
            exact ⟨ao910, cap911, ao917, cap918, ao1003, cap1004, ud13, .pointer (some ⟨b10, 1, none⟩), .slice ao1 u0.Data.length cap2, .slice ao910 (bcloneS u0.Data).length cap911, .slice ao4 u1.length cap5, .slice ao917 (u1.drop (1 : Int).toNat).length cap918, .slice ao1003 ((bcloneS u0.Data) ++ (u1.drop (1 : Int).toNat)).length cap1004, .row b116 [.int .i64 0, .slice none 0 0, .int .i64 0, .int .i64 u0.Block, .int .i64 0] 71, .row b15 [.int .i64 0, .slice none 0 0, .int .i64 0, .int .i64 0, .int .i64 0] 71, .row b10 [.int .i64 u0.Want, .slice ao1 u0.Data.length cap2, .int .i64 u0.Next, .int .i64 u0.Block, .int .i64 u0.Left] 71, .own (tyInt .u8) 5 ao1003 cap1004 ((bcloneS u0.Data) ++ (u1.drop (1 : Int).toNat)), Z936, hle937, hF1009.region (by kernel_rfl) (by kernel_rfl), hM1010.perm (List.Perm.refl _), (nt hx6), kf, kf, kf, kf, kf, kf, rfl, rfl, rfl, (tn hx2), (fun _ => nu), kf, (fun _ => hs1002)⟩
           · -- 6: assign
            obtain rfl := Option.some.inj hi
            have hx5 := hpre 5 (by kernel_rfl)
            have hx4 := hpre 4 (by kernel_rfl)
            have hx3 := hpre 3 (by kernel_rfl)
            have hx2 := hpre 2 (by kernel_rfl)
            have hx1 := hpre 1 (by kernel_rfl)
            have hx0 := hpre 0 (by kernel_rfl)
            have hx6 := hSi
            obtain rfl := cu118 hx0
            obtain rfl := cu119 hx1
            obtain rfl := cu120 hx2
            obtain rfl := cu121 hx3
            obtain rfl := cu122 hx4
            obtain rfl := cu123 hx5
            obtain rfl := cr0_0
            obtain rfl := cr1_0
            obtain rfl := cr2_0
            obtain rfl := cr3_2 hx5
            refine hG (any_step ?_); clear hG G; intro A J hJ
            have hle0 := Fz.le.trans hle0 hle937
            have hzst := Fz.le.refl Z936
            have hs1012 := hs3.mono hle937
            have hs1013 := hs6.mono hle937
            have hs1014 := hP134.mono hle937
            have hs1015 := hP157.mono hle937
            have hs1016 := cf0 hx4
            refine s1 hFx 13 (.slice ao923 ((bcloneS u0.Data) ++ (u1.drop (1 : Int).toNat)).length cap924) ?_; intro a1017 hF1018; clear hFx
            refine nl (qnI (hJ _ _ ?_)); clear hJ J
            exact ⟨ao910, cap911, ao917, cap918, ao923, cap924, .slice ao923 ((bcloneS u0.Data) ++ (u1.drop (1 : Int).toNat)).length cap924, .pointer (some ⟨b10, 1, none⟩), .slice ao1 u0.Data.length cap2, .slice ao910 (bcloneS u0.Data).length cap911, .slice ao4 u1.length cap5, .slice ao917 (u1.drop (1 : Int).toNat).length cap918, .slice ao923 ((bcloneS u0.Data) ++ (u1.drop (1 : Int).toNat)).length cap924, .row b116 [.int .i64 0, .slice none 0 0, .int .i64 0, .int .i64 u0.Block, .int .i64 0] 71, .row b15 [.int .i64 0, .slice none 0 0, .int .i64 0, .int .i64 0, .int .i64 0] 71, .row b10 [.int .i64 u0.Want, .slice ao1 u0.Data.length cap2, .int .i64 u0.Next, .int .i64 u0.Block, .int .i64 u0.Left] 71, .own (tyInt .u8) 5 ao923 cap924 ((bcloneS u0.Data) ++ (u1.drop (1 : Int).toNat)), Z936, hle937, hF1018.region (by kernel_rfl) (by kernel_rfl), hMx.perm (List.Perm.refl _), kf, kf, kf, kf, kf, kf, kf, rfl, rfl, rfl, (tn hx2), (fun _ => tn hx5), kf, (fun _ => hs1016)⟩
          case hE =>
           intro S hS a1020 wd1021 hI; refine hid ?_; intro G hG; obtain ⟨ao910, hI⟩ := hI; obtain ⟨cap911, hI⟩ := hI; obtain ⟨ao917, hI⟩ := hI; obtain ⟨cap918, hI⟩ := hI; obtain ⟨ao923, hI⟩ := hI; obtain ⟨cap924, hI⟩ := hI; obtain ⟨ud13, hI⟩ := hI; obtain ⟨ud118, hI⟩ := hI; obtain ⟨ud119, hI⟩ := hI; obtain ⟨ud120, hI⟩ := hI; obtain ⟨ud121, hI⟩ := hI; obtain ⟨ud122, hI⟩ := hI; obtain ⟨ud123, hI⟩ := hI; obtain ⟨rh0, hI⟩ := hI; obtain ⟨rh1, hI⟩ := hI; obtain ⟨rh2, hI⟩ := hI; obtain ⟨rh3, hI⟩ := hI; obtain ⟨Z936, hI⟩ := hI; obtain ⟨hle937, hI⟩ := hI; obtain ⟨hFx, hI⟩ := hI; obtain ⟨hMx, hI⟩ := hI; obtain ⟨cu13, hI⟩ := hI; obtain ⟨cu118, hI⟩ := hI; obtain ⟨cu119, hI⟩ := hI; obtain ⟨cu120, hI⟩ := hI; obtain ⟨cu121, hI⟩ := hI; obtain ⟨cu122, hI⟩ := hI; obtain ⟨cu123, hI⟩ := hI; obtain ⟨cr0_0, hI⟩ := hI; obtain ⟨cr1_0, hI⟩ := hI; obtain ⟨cr2_0, hI⟩ := hI; obtain ⟨cr3_0, hI⟩ := hI; obtain ⟨cr3_1, hI⟩ := hI; obtain ⟨cr3_2, hI⟩ := hI; have cf0 := hI; clear hI; refine hG ?_; clear hG G
           obtain rfl := cu13 (hS 6 (by decide))
           obtain rfl := cu118 (hS 0 (by decide))
           obtain rfl := cu119 (hS 1 (by decide))
           obtain rfl := cu120 (hS 2 (by decide))
           obtain rfl := cu121 (hS 3 (by decide))
           obtain rfl := cu122 (hS 4 (by decide))
           obtain rfl := cu123 (hS 5 (by decide))
           obtain rfl := cr0_0
           obtain rfl := cr1_0
           obtain rfl := cr2_0
           obtain rfl := cr3_2 (hS 5 (by decide))
           have hle0 := Fz.le.trans hle0 hle937
           have hs1022 := hs3.mono hle937
           have hs1023 := hs6.mono hle937
           have hs1024 := hP134.mono hle937
           have hs1025 := hP157.mono hle937
           have hs1026 := cf0 (hS 4 (by decide))
           refine thn ?_
           refine wp_seq ?_
           have hF1027 : Fr 157 [] [⟨2, [], .pointer (some ⟨b10, 0, none⟩)⟩, ⟨4, [], .pointer (some ⟨b15, 0, none⟩)⟩, ⟨9, [], .pointer (some ⟨b116, 0, none⟩)⟩, ⟨13, [], .slice ao923 ((bcloneS u0.Data) ++ (u1.drop (1 : Int).toNat)).length cap924⟩] a1020 := hFx.region (by kernel_rfl) (by kernel_rfl); clear hFx
           refine sqH ?_; intro hQ1028Q hQ1028
           refine s1 hF1027 124 (.slice ao923 ((bcloneS u0.Data) ++ (u1.drop (1 : Int).toNat)).length cap924) ?_; intro a1029 hF1030; clear hF1027
           refine s1 hF1030 125 (.int .i64 (((bcloneS u0.Data) ++ (u1.drop (1 : Int).toNat)).length : Int)) ?_; intro a1031 hF1032; clear hF1030
           refine s1 hF1032 126 (.pointer (some ⟨b10, 0, none⟩)) ?_; intro a1033 hF1034; clear hF1032
           refine l1 hF1034 hMx 127 2 0 (.int .i64 u0.Want) rfl rfl ?_; intro a1035 hF1036; clear hF1034
           refine s1 hF1036 128 (.bool ((((bcloneS u0.Data) ++ (u1.drop (1 : Int).toNat)).length : Int) == u0.Want)) ?_; intro a1037 hF1038; clear hF1036
           refine nlH (hQ1028 _ _ ?_); clear hQ1028 hQ1028Q
           refine cd hF1038 (t := (((bcloneS u0.Data) ++ (u1.drop (1 : Int).toNat)).length : Int) == u0.Want) (by kernel_rfl) (fun hb1039 => ?_) (fun hb1039 => ?_)
           · -- yes
            have hp1040 := hp935.1 hb1039; clear hp935
            refine sqH ?_; intro hQ1041Q hQ1041
            refine l2 hF1038 hMx 129 0 0 5 [.int .i64 0, .slice none 0 0, .int .i64 0, .int .i64 u0.Block, .int .i64 0] rfl rfl ?_; intro a1042 hF1043; clear hF1038
            refine s1 hF1043 130 (.slice ao923 ((bcloneS u0.Data) ++ (u1.drop (1 : Int).toNat)).length cap924) ?_; intro a1044 hF1045; clear hF1043
            refine sr hF1045 hMx 1 [.int .i64 0, .slice none 0 0, .int .i64 0, .int .i64 u0.Block, .int .i64 0] (b := b15) (off := 0) (cs := [.int .i64 0, .slice none 0 0, .int .i64 0, .int .i64 0, .int .i64 0]) (ty := 71) (u := .agg #[.int .i64 0, .slice none 0 0, .int .i64 0, .int .i64 u0.Block, .int .i64 0]) (nog rfl _) rfl rfl (by kernel_rfl) (by kernel_rfl) (by kernel_rfl) (by kernel_rfl) (by kernel_rfl) (by kernel_rfl) (by kernel_rfl) ?_; intro wd1046 hM1047; clear hMx
            refine s1 hF1045 5 (.slice none 0 0) ?_; intro a1048 hF1049; clear hF1045
            refine s1 hF1049 6 (.slice ao923 ((bcloneS u0.Data) ++ (u1.drop (1 : Int).toNat)).length cap924) ?_; intro a1050 hF1051; clear hF1049
            refine s1 hF1051 7 (.int .i64 0) ?_; intro a1052 hF1053; clear hF1051
            have hM1054 : Mem w.heap.size [] w Z [.row b116 [.int .i64 0, .slice none 0 0, .int .i64 0, .int .i64 u0.Block, .int .i64 0] 71, .row b15 [.int .i64 0, .slice none 0 0, .int .i64 0, .int .i64 u0.Block, .int .i64 0] 71, .row b10 [.int .i64 u0.Want, .slice ao1 u0.Data.length cap2, .int .i64 u0.Next, .int .i64 u0.Block, .int .i64 u0.Left] 71, .own (tyInt .u8) 5 ao923 cap924 ((bcloneS u0.Data) ++ (u1.drop (1 : Int).toNat))] Z936 wd1046 := hM1047; clear hM1047
            refine nlH (hQ1041 _ _ ?_); clear hQ1041 hQ1041Q
            refine wp_ret ?_
            refine thr ?_
            refine ibr ?_
            refine thr ?_
            have hM1055 : Mem w.heap.size [] w Z [.own (tyInt .u8) 5 none 0 ([] : List Int), .row b116 [.int .i64 0, .slice none 0 0, .int .i64 0, .int .i64 u0.Block, .int .i64 0] 71, .row b15 [.int .i64 0, .slice none 0 0, .int .i64 0, .int .i64 u0.Block, .int .i64 0] 71, .row b10 [.int .i64 u0.Want, .slice ao1 u0.Data.length cap2, .int .i64 u0.Next, .int .i64 u0.Block, .int .i64 u0.Left] 71, .own (tyInt .u8) 5 ao923 cap924 ((bcloneS u0.Data) ++ (u1.drop (1 : Int).toNat))] Z936 wd1046 := hM1054.addNil (tyInt .u8) 5 (by decide); clear hM1054
            obtain ⟨nb1056, hnb1057⟩ : ∃ b, ao923.isNone = b := ⟨_, rfl⟩; have hp1058 := hp1040 nb1056 (by rw [← hnb1057]; exact hM1055.ownNil 4 rfl); clear hp1040
            refine rt (fn := Try.f41) (v := .tuple #[.agg #[.int .i64 0, .slice none 0 0, .int .i64 0, .int .i64 u0.Block, .int .i64 0], .slice none ([] : List Int).length 0, .slice ao923 ((bcloneS u0.Data) ++ (u1.drop (1 : Int).toNat)).length cap924, .int .i64 0]) hF1053 (re4c hF1053 (fn := Try.f41) rfl (ad := ⟨b15, 0, none⟩) (by kernel_rfl) (loadVar_run hM1055 2 (b := b15) (k := 5) (vs := [.int .i64 0, .slice none 0 0, .int .i64 0, .int .i64 u0.Block, .int .i64 0]) (ty := 71) rfl (by kernel_rfl) (by kernel_rfl)) (by kernel_rfl) (by kernel_rfl) (by kernel_rfl)) ?_
            exact ⟨((⟨0, [], 0, u0.Block, 0⟩ : Getter), ([] : List Int), (bcloneS u0.Data) ++ (u1.drop (1 : Int).toNat), 0, true, nb1056), none, 0, none, 0, ao923, cap924, Z936, rfl, hp1058, (SlR.nil _ _), rfl, hnb1057, hM1055.keep (List.Sublist.cons_cons _ (List.Sublist.cons _ (List.Sublist.cons _ (List.Sublist.cons _ (List.Sublist.cons_cons _ (List.Sublist.slnil))))))⟩
           · -- no
            have hp1059 := hp935.2 hb1039; clear hp935
            refine wp_skip ?_
            refine thn ?_
            refine sqH ?_; intro hQ1060Q hQ1060
            refine s1 hF1038 131 (.slice ao923 ((bcloneS u0.Data) ++ (u1.drop (1 : Int).toNat)).length cap924) ?_; intro a1061 hF1062; clear hF1038
            refine s1 hF1062 132 (.pointer (some ⟨b10, 2, none⟩)) ?_; intro a1063 hF1064; clear hF1062
            refine l1 hF1064 hMx 133 2 2 (.int .i64 u0.Next) rfl rfl ?_; intro a1065 hF1066; clear hF1064
            refine s1 hF1066 134 (.int .i64 (w64 (u0.Next + 1))) ?_; intro a1067 hF1068; clear hF1066
            refine s1 hF1068 135 (.int .i64 ((w64 (u0.Next + 1)).tmod 16)) ?_; intro a1069 hF1070; clear hF1068
            refine s1 hF1070 136 (.pointer (some ⟨b10, 1, none⟩)) ?_; intro a1071 hF1072; clear hF1070
            refine sr hF1072 hMx 2 [.int .i64 u0.Want, .slice ao923 ((bcloneS u0.Data) ++ (u1.drop (1 : Int).toNat)).length cap924, .int .i64 u0.Next, .int .i64 u0.Block, .int .i64 u0.Left] (b := b10) (off := 1) (cs := [.int .i64 u0.Want, .slice ao1 u0.Data.length cap2, .int .i64 u0.Next, .int .i64 u0.Block, .int .i64 u0.Left]) (ty := 71) (u := .slice ao923 ((bcloneS u0.Data) ++ (u1.drop (1 : Int).toNat)).length cap924) (nog rfl _) rfl rfl (by kernel_rfl) (by kernel_rfl) (by kernel_rfl) (by kernel_rfl) (by kernel_rfl) (by kernel_rfl) (by kernel_rfl) ?_; intro wd1073 hM1074; clear hMx
            refine s1 hF1072 137 (.pointer (some ⟨b10, 2, none⟩)) ?_; intro a1075 hF1076; clear hF1072
            refine sr hF1076 hM1074 2 [.int .i64 u0.Want, .slice ao923 ((bcloneS u0.Data) ++ (u1.drop (1 : Int).toNat)).length cap924, .int .i64 ((w64 (u0.Next + 1)).tmod 16), .int .i64 u0.Block, .int .i64 u0.Left] (b := b10) (off := 2) (cs := [.int .i64 u0.Want, .slice ao923 ((bcloneS u0.Data) ++ (u1.drop (1 : Int).toNat)).length cap924, .int .i64 u0.Next, .int .i64 u0.Block, .int .i64 u0.Left]) (ty := 71) (u := .int .i64 ((w64 (u0.Next + 1)).tmod 16)) (nog rfl _) rfl rfl (by kernel_rfl) (by kernel_rfl) (by kernel_rfl) (by kernel_rfl) (by kernel_rfl) (by kernel_rfl) (by kernel_rfl) ?_; intro wd1077 hM1078; clear hM1074
            have hM1079 : Mem w.heap.size [] w Z [.row b116 [.int .i64 0, .slice none 0 0, .int .i64 0, .int .i64 u0.Block, .int .i64 0] 71, .row b15 [.int .i64 0, .slice none 0 0, .int .i64 0, .int .i64 0, .int .i64 0] 71, .row b10 [.int .i64 u0.Want, .slice ao923 ((bcloneS u0.Data) ++ (u1.drop (1 : Int).toNat)).length cap924, .int .i64 ((w64 (u0.Next + 1)).tmod 16), .int .i64 u0.Block, .int .i64 u0.Left] 71, .own (tyInt .u8) 5 ao923 cap924 ((bcloneS u0.Data) ++ (u1.drop (1 : Int).toNat))] Z936 wd1077 := hM1078; clear hM1078
            refine nlH (hQ1060 _ _ ?_); clear hQ1060 hQ1060Q
            refine wp_seq ?_
            refine sqH ?_; intro hQ1080Q hQ1080
            refine s1 hF1076 138 (.pointer (some ⟨b10, 3, none⟩)) ?_; intro a1081 hF1082; clear hF1076
            refine l1 hF1082 hM1079 139 2 3 (.int .i64 u0.Block) rfl rfl ?_; intro a1083 hF1084; clear hF1082
            refine s1 hF1084 140 (.bool (decide (u0.Block > 0))) ?_; intro a1085 hF1086; clear hF1084
            refine nlH (hQ1080 _ _ ?_); clear hQ1080 hQ1080Q
            refine cd hF1086 (t := decide (u0.Block > 0)) (by kernel_rfl) (fun hb1087 => ?_) (fun hb1087 => ?_)
            · -- yes
             have hp1088 := hp1059.1 hb1087; clear hp1059
             have hF1089 : Fr 157 [] [⟨2, [], .pointer (some ⟨b10, 0, none⟩)⟩, ⟨4, [], .pointer (some ⟨b15, 0, none⟩)⟩] a1085 := hF1086.region (by kernel_rfl) (by kernel_rfl); clear hF1086
             refine sqH ?_; intro hQ1090Q hQ1090
             refine s1 hF1089 141 (.pointer (some ⟨b10, 4, none⟩)) ?_; intro a1091 hF1092; clear hF1089
             refine l1 hF1092 hM1079 142 2 4 (.int .i64 u0.Left) rfl rfl ?_; intro a1093 hF1094; clear hF1092
             refine s1 hF1094 143 (.int .i64 (w64 (u0.Left - 1))) ?_; intro a1095 hF1096; clear hF1094
             refine s1 hF1096 144 (.pointer (some ⟨b10, 4, none⟩)) ?_; intro a1097 hF1098; clear hF1096
             refine sr hF1098 hM1079 2 [.int .i64 u0.Want, .slice ao923 ((bcloneS u0.Data) ++ (u1.drop (1 : Int).toNat)).length cap924, .int .i64 ((w64 (u0.Next + 1)).tmod 16), .int .i64 u0.Block, .int .i64 (w64 (u0.Left - 1))] (b := b10) (off := 4) (cs := [.int .i64 u0.Want, .slice ao923 ((bcloneS u0.Data) ++ (u1.drop (1 : Int).toNat)).length cap924, .int .i64 ((w64 (u0.Next + 1)).tmod 16), .int .i64 u0.Block, .int .i64 u0.Left]) (ty := 71) (u := .int .i64 (w64 (u0.Left - 1))) (nog rfl _) rfl rfl (by kernel_rfl) (by kernel_rfl) (by kernel_rfl) (by kernel_rfl) (by kernel_rfl) (by kernel_rfl) (by kernel_rfl) ?_; intro wd1099 hM1100; clear hM1079
             have hM1101 : Mem w.heap.size [] w Z [.row b116 [.int .i64 0, .slice none 0 0, .int .i64 0, .int .i64 u0.Block, .int .i64 0] 71, .row b15 [.int .i64 0, .slice none 0 0, .int .i64 0, .int .i64 0, .int .i64 0] 71, .row b10 [.int .i64 u0.Want, .slice ao923 ((bcloneS u0.Data) ++ (u1.drop (1 : Int).toNat)).length cap924, .int .i64 ((w64 (u0.Next + 1)).tmod 16), .int .i64 u0.Block, .int .i64 (w64 (u0.Left - 1))] 71, .own (tyInt .u8) 5 ao923 cap924 ((bcloneS u0.Data) ++ (u1.drop (1 : Int).toNat))] Z936 wd1099 := hM1100; clear hM1100
             refine nlH (hQ1090 _ _ ?_); clear hQ1090 hQ1090Q
             refine sqH ?_; intro hQ1102Q hQ1102
             refine s1 hF1098 145 (.pointer (some ⟨b10, 4, none⟩)) ?_; intro a1103 hF1104; clear hF1098
             refine l1 hF1104 hM1101 146 2 4 (.int .i64 (w64 (u0.Left - 1))) rfl rfl ?_; intro a1105 hF1106; clear hF1104
             refine s1 hF1106 147 (.bool ((w64 (u0.Left - 1)) == 0)) ?_; intro a1107 hF1108; clear hF1106
             refine nlH (hQ1102 _ _ ?_); clear hQ1102 hQ1102Q
             refine cd hF1108 (t := (w64 (u0.Left - 1)) == 0) (by kernel_rfl) (fun hb1109 => ?_) (fun hb1109 => ?_)
             · -- yes
              have hp1110 := hp1088.1 hb1109; clear hp1088
              refine sqH ?_; intro hQ1111Q hQ1111
              refine s1 hF1108 148 (.pointer (some ⟨b10, 3, none⟩)) ?_; intro a1112 hF1113; clear hF1108
              refine l1 hF1113 hM1101 149 2 3 (.int .i64 u0.Block) rfl rfl ?_; intro a1114 hF1115; clear hF1113
              refine s1 hF1115 150 (.pointer (some ⟨b10, 4, none⟩)) ?_; intro a1116 hF1117; clear hF1115
              refine sr hF1117 hM1101 2 [.int .i64 u0.Want, .slice ao923 ((bcloneS u0.Data) ++ (u1.drop (1 : Int).toNat)).length cap924, .int .i64 ((w64 (u0.Next + 1)).tmod 16), .int .i64 u0.Block, .int .i64 u0.Block] (b := b10) (off := 4) (cs := [.int .i64 u0.Want, .slice ao923 ((bcloneS u0.Data) ++ (u1.drop (1 : Int).toNat)).length cap924, .int .i64 ((w64 (u0.Next + 1)).tmod 16), .int .i64 u0.Block, .int .i64 (w64 (u0.Left - 1))]) (ty := 71) (u := .int .i64 u0.Block) (nog rfl _) rfl rfl (by kernel_rfl) (by kernel_rfl) (by kernel_rfl) (by kernel_rfl) (by kernel_rfl) (by kernel_rfl) (by kernel_rfl) ?_; intro wd1118 hM1119; clear hM1101
              have hM1120 : Mem w.heap.size [] w Z [.row b116 [.int .i64 0, .slice none 0 0, .int .i64 0, .int .i64 u0.Block, .int .i64 0] 71, .row b15 [.int .i64 0, .slice none 0 0, .int .i64 0, .int .i64 0, .int .i64 0] 71, .row b10 [.int .i64 u0.Want, .slice ao923 ((bcloneS u0.Data) ++ (u1.drop (1 : Int).toNat)).length cap924, .int .i64 ((w64 (u0.Next + 1)).tmod 16), .int .i64 u0.Block, .int .i64 u0.Block] 71, .own (tyInt .u8) 5 ao923 cap924 ((bcloneS u0.Data) ++ (u1.drop (1 : Int).toNat))] Z936 wd1118 := hM1119; clear hM1119
              refine nlH (hQ1111 _ _ ?_); clear hQ1111 hQ1111Q
              have hF1121 : Fr 157 [] [⟨2, [], .pointer (some ⟨b10, 0, none⟩)⟩, ⟨4, [], .pointer (some ⟨b15, 0, none⟩)⟩] a1116 := hF1117.region (by kernel_rfl) (by kernel_rfl); clear hF1117
              refine wp_seq (any_invE mixed [[], [], [1], [2], [0, 3], [0, 1, 2, 3, 4], [0, 1, 2, 3, 4, 5], [0, 1, 2, 3, 4, 5, 6]] 8 (fun S a w1 => ∃ (ao1132 : Option Addr) (cap1133 : Nat) (ud5 : Value) (ud6 : Value) (ud7 : Value) (ud151 : Value) (ud152 : Value) (ud153 : Value) (ud154 : Value) (rh0 : Res) (rh1 : Res) (rh2 : Res) (rh3 : Res) (rh4 : Res) (Z1145 : Fz), Fz.le Z936 Z1145 ∧ Fr 157 [] [⟨2, [], .pointer (some ⟨b10, 0, none⟩)⟩, ⟨4, [], .pointer (some ⟨b15, 0, none⟩)⟩, ⟨5, [], ud5⟩, ⟨6, [], ud6⟩, ⟨7, [], ud7⟩, ⟨151, [], ud151⟩, ⟨152, [], ud152⟩, ⟨153, [], ud153⟩, ⟨154, [], ud154⟩] a ∧ Mem w.heap.size [] w Z [rh0, rh1, rh2, rh3, rh4] Z1145 w1 ∧ (S 5 = true → ud5 = .slice ao1132 (pflow u0.Block).length cap1133) ∧ (S 6 = true → ud6 = .slice none 0 0) ∧ (S 7 = true → ud7 = .int .i64 0) ∧ (S 0 = true → ud151 = .agg #[.int .i64 u0.Want, .slice ao923 ((bcloneS u0.Data) ++ (u1.drop (1 : Int).toNat)).length cap924, .int .i64 ((w64 (u0.Next + 1)).tmod 16), .int .i64 u0.Block, .int .i64 u0.Block]) ∧ (S 1 = true → ud152 = .pointer (some ⟨b10, 3, none⟩)) ∧ (S 2 = true → ud153 = .int .i64 u0.Block) ∧ (S 3 = true → ud154 = .slice ao1132 (pflow u0.Block).length cap1133) ∧ (rh0 = .row b116 [.int .i64 0, .slice none 0 0, .int .i64 0, .int .i64 u0.Block, .int .i64 0] 71) ∧ (S 4 = false → rh1 = .row b15 [.int .i64 0, .slice none 0 0, .int .i64 0, .int .i64 0, .int .i64 0] 71) ∧ (S 4 = true → rh1 = .row b15 [.int .i64 u0.Want, .slice ao923 ((bcloneS u0.Data) ++ (u1.drop (1 : Int).toNat)).length cap924, .int .i64 ((w64 (u0.Next + 1)).tmod 16), .int .i64 u0.Block, .int .i64 u0.Block] 71) ∧ (rh2 = .row b10 [.int .i64 u0.Want, .slice ao923 ((bcloneS u0.Data) ++ (u1.drop (1 : Int).toNat)).length cap924, .int .i64 ((w64 (u0.Next + 1)).tmod 16), .int .i64 u0.Block, .int .i64 u0.Block] 71) ∧ (rh3 = .own (tyInt .u8) 5 ao923 cap924 ((bcloneS u0.Data) ++ (u1.drop (1 : Int).toNat))) ∧ (S 3 = false → rh4 = .nil) ∧ (S 3 = true → rh4 = .own (tyInt .u8) 5 ao1132 cap1133 (pflow u0.Block))) ?h0 ?hs ?hE)
              case h0 =>
               have hF1147 := hF1121.any 5
               have hF1148 := hF1147.any 6
               have hF1149 := hF1148.any 7
               have hF1150 := hF1149.any 151
               have hF1151 := hF1150.any 152
               have hF1152 := hF1151.any 153
               have hF1153 := hF1152.any 154
               have hM1154 := hM1120.nilRes
               have hM1155 := (hM1154.perm ((pk 1 rfl).trans (((pk 1 rfl).trans (((pk 1 rfl).trans (((pk 1 rfl).trans ((List.Perm.refl _).cons _)).cons _)).cons _)).cons _))).drew
               exact ⟨none, 0, a1116.tmps.getD 5 undef, a1116.tmps.getD 6 undef, a1116.tmps.getD 7 undef, a1116.tmps.getD 151 undef, a1116.tmps.getD 152 undef, a1116.tmps.getD 153 undef, a1116.tmps.getD 154 undef, .row b116 [.int .i64 0, .slice none 0 0, .int .i64 0, .int .i64 u0.Block, .int .i64 0] 71, .row b15 [.int .i64 0, .slice none 0 0, .int .i64 0, .int .i64 0, .int .i64 0] 71, .row b10 [.int .i64 u0.Want, .slice ao923 ((bcloneS u0.Data) ++ (u1.drop (1 : Int).toNat)).length cap924, .int .i64 ((w64 (u0.Next + 1)).tmod 16), .int .i64 u0.Block, .int .i64 u0.Block] 71, .own (tyInt .u8) 5 ao923 cap924 ((bcloneS u0.Data) ++ (u1.drop (1 : Int).toNat)), .nil, Z936, Fz.le.refl _, hF1153.region (by kernel_rfl) (by kernel_rfl), hM1155, ff, ff, ff, ff, ff, ff, ff, rfl, kf, ff, rfl, rfl, kf, ff⟩
              case hs =>
               intro S hcl i o hil hi hSi hpre a w1 hI; refine hid ?_; intro G hG; obtain ⟨ao1132, hI⟩ := hI; obtain ⟨cap1133, hI⟩ := hI; obtain ⟨ud5, hI⟩ := hI; obtain ⟨ud6, hI⟩ := hI; obtain ⟨ud7, hI⟩ := hI; obtain ⟨ud151, hI⟩ := hI; obtain ⟨ud152, hI⟩ := hI; obtain ⟨ud153, hI⟩ := hI; obtain ⟨ud154, hI⟩ := hI; obtain ⟨rh0, hI⟩ := hI; obtain ⟨rh1, hI⟩ := hI; obtain ⟨rh2, hI⟩ := hI; obtain ⟨rh3, hI⟩ := hI; obtain ⟨rh4, hI⟩ := hI; obtain ⟨Z1145, hI⟩ := hI; obtain ⟨hle1146, hI⟩ := hI; obtain ⟨hFx, hI⟩ := hI; obtain ⟨hMx, hI⟩ := hI; obtain ⟨cu5, hI⟩ := hI; obtain ⟨cu6, hI⟩ := hI; obtain ⟨cu7, hI⟩ := hI; obtain ⟨cu151, hI⟩ := hI; obtain ⟨cu152, hI⟩ := hI; obtain ⟨cu153, hI⟩ := hI; obtain ⟨cu154, hI⟩ := hI; obtain ⟨cr0_0, hI⟩ := hI; obtain ⟨cr1_0, hI⟩ := hI; obtain ⟨cr1_1, hI⟩ := hI; obtain ⟨cr2_0, hI⟩ := hI; obtain ⟨cr3_0, hI⟩ := hI; obtain ⟨cr4_0, hI⟩ := hI; have cr4_1 := hI; clear hI
               have hcase : i = 0 ∨ i = 1 ∨ i = 2 ∨ i = 3 ∨ i = 4 ∨ i = 5 ∨ i = 6 ∨ i = 7 := by clear hi; omega
               rcases hcase with rfl | rfl | rfl | rfl | rfl | rfl | rfl | rfl
               · -- 0: load
                obtain rfl := Option.some.inj hi
                have hx0 := hSi
                have hx4 := negF hcl 4 0 (by kernel_rfl) hx0
                have hx5 := negF hcl 5 0 (by kernel_rfl) hx0
                have hx6 := negF hcl 6 0 (by kernel_rfl) hx0
                have hx7 := negF hcl 7 0 (by kernel_rfl) hx0
                obtain rfl := cr0_0
                obtain rfl := cr1_0 hx4
                obtain rfl := cr2_0
                obtain rfl := cr3_0
                refine hG (any_step ?_); clear hG G; intro A J hJ
                have hle0 := Fz.le.trans hle0 hle1146
                have hzst := Fz.le.refl Z1145
                have hs1156 := hs1022.mono hle1146
                have hs1157 := hs1023.mono hle1146
                have hs1158 := hs1024.mono hle1146
                have hs1159 := hs1025.mono hle1146
                have hs1160 := hs1026.mono hle1146
                refine l2 hFx hMx 151 2 0 5 [.int .i64 u0.Want, .slice ao923 ((bcloneS u0.Data) ++ (u1.drop (1 : Int).toNat)).length cap924, .int .i64 ((w64 (u0.Next + 1)).tmod 16), .int .i64 u0.Block, .int .i64 u0.Block] rfl rfl ?_; intro a1161 hF1162; clear hFx
                refine nl (qnI (hJ _ _ ?_)); clear hJ J
                exact ⟨ao1132, cap1133, ud5, ud6, ud7, .agg #[.int .i64 u0.Want, .slice ao923 ((bcloneS u0.Data) ++ (u1.drop (1 : Int).toNat)).length cap924, .int .i64 ((w64 (u0.Next + 1)).tmod 16), .int .i64 u0.Block, .int .i64 u0.Block], ud152, ud153, ud154, .row b116 [.int .i64 0, .slice none 0 0, .int .i64 0, .int .i64 u0.Block, .int .i64 0] 71, .row b15 [.int .i64 0, .slice none 0 0, .int .i64 0, .int .i64 0, .int .i64 0] 71, .row b10 [.int .i64 u0.Want, .slice ao923 ((bcloneS u0.Data) ++ (u1.drop (1 : Int).toNat)).length cap924, .int .i64 ((w64 (u0.Next + 1)).tmod 16), .int .i64 u0.Block, .int .i64 u0.Block] 71, .own (tyInt .u8) 5 ao923 cap924 ((bcloneS u0.Data) ++ (u1.drop (1 : Int).toNat)), rh4, Z1145, hle1146, hF1162.region (by kernel_rfl) (by kernel_rfl), hMx.perm (List.Perm.refl _), (nt hx5), (nt hx6), (nt hx7), kf, cu152, cu153, cu154, rfl, kf, (nt hx4), rfl, rfl, cr4_0, cr4_1⟩
               · -- 1: fieldAddr
                obtain rfl := Option.some.inj hi
                have hx1 := hSi
                have hx2 := negF hcl 2 1 (by kernel_rfl) hx1
                have hx3 := negF hcl 3 2 (by kernel_rfl) hx2
                have hx4 := negF hcl 4 3 (by kernel_rfl) hx3
                have hx5 := negF hcl 5 1 (by kernel_rfl) hx1
                have hx6 := negF hcl 6 1 (by kernel_rfl) hx1
                have hx7 := negF hcl 7 1 (by kernel_rfl) hx1
                obtain rfl := cr0_0
                obtain rfl := cr1_0 hx4
                obtain rfl := cr2_0
                obtain rfl := cr3_0
                obtain rfl := cr4_0 hx3
                refine hG (any_step ?_); clear hG G; intro A J hJ
                have hle0 := Fz.le.trans hle0 hle1146
                have hzst := Fz.le.refl Z1145
                have hs1164 := hs1022.mono hle1146
                have hs1165 := hs1023.mono hle1146
                have hs1166 := hs1024.mono hle1146
                have hs1167 := hs1025.mono hle1146
                have hs1168 := hs1026.mono hle1146
                have hM1169 := hMx.keep (List.Sublist.cons_cons _ (List.Sublist.cons_cons _ (List.Sublist.cons_cons _ (List.Sublist.cons_cons _ (List.Sublist.cons _ (List.Sublist.slnil)))))); clear hMx
                refine s1 hFx 152 (.pointer (some ⟨b10, 3, none⟩)) ?_; intro a1170 hF1171; clear hFx
                refine nl (qnI (hJ _ _ ?_)); clear hJ J
                have hM1172 := hM1169.nilRes
                exact ⟨ao1132, cap1133, ud5, ud6, ud7, ud151, .pointer (some ⟨b10, 3, none⟩), ud153, ud154, .row b116 [.int .i64 0, .slice none 0 0, .int .i64 0, .int .i64 u0.Block, .int .i64 0] 71, .row b15 [.int .i64 0, .slice none 0 0, .int .i64 0, .int .i64 0, .int .i64 0] 71, .row b10 [.int .i64 u0.Want, .slice ao923 ((bcloneS u0.Data) ++ (u1.drop (1 : Int).toNat)).length cap924, .int .i64 ((w64 (u0.Next + 1)).tmod 16), .int .i64 u0.Block, .int .i64 u0.Block] 71, .own (tyInt .u8) 5 ao923 cap924 ((bcloneS u0.Data) ++ (u1.drop (1 : Int).toNat)), .nil, Z1145, hle1146, hF1171.region (by kernel_rfl) (by kernel_rfl), hM1172.perm ((pk 1 rfl).trans (((pk 1 rfl).trans (((pk 1 rfl).trans (((pk 1 rfl).trans ((List.Perm.refl _).cons _)).cons _)).cons _)).cons _)), (nt hx5), (nt hx6), (nt hx7), cu151, kf, (nt hx2), (nt hx3), rfl, kf, (nt hx4), rfl, rfl, kf, (nt hx3)⟩
               · -- 2: load
                obtain rfl := Option.some.inj hi
                have hx1 := hpre 1 (by kernel_rfl)
                have hx2 := hSi
                have hx3 := negF hcl 3 2 (by kernel_rfl) hx2
                have hx4 := negF hcl 4 3 (by kernel_rfl) hx3
                have hx5 := negF hcl 5 2 (by kernel_rfl) hx2
                have hx6 := negF hcl 6 2 (by kernel_rfl) hx2
                have hx7 := negF hcl 7 2 (by kernel_rfl) hx2
                obtain rfl := cu152 hx1
                obtain rfl := cr0_0
                obtain rfl := cr1_0 hx4
                obtain rfl := cr2_0
                obtain rfl := cr3_0
                obtain rfl := cr4_0 hx3
                refine hG (any_step ?_); clear hG G; intro A J hJ
                have hle0 := Fz.le.trans hle0 hle1146
                have hzst := Fz.le.refl Z1145
                have hs1174 := hs1022.mono hle1146
                have hs1175 := hs1023.mono hle1146
                have hs1176 := hs1024.mono hle1146
                have hs1177 := hs1025.mono hle1146
                have hs1178 := hs1026.mono hle1146
                have hM1179 := hMx.keep (List.Sublist.cons_cons _ (List.Sublist.cons_cons _ (List.Sublist.cons_cons _ (List.Sublist.cons_cons _ (List.Sublist.cons _ (List.Sublist.slnil)))))); clear hMx
                refine l1 hFx hM1179 153 2 3 (.int .i64 u0.Block) rfl rfl ?_; intro a1180 hF1181; clear hFx
                refine nl (qnI (hJ _ _ ?_)); clear hJ J
                have hM1182 := hM1179.nilRes
                exact ⟨ao1132, cap1133, ud5, ud6, ud7, ud151, .pointer (some ⟨b10, 3, none⟩), .int .i64 u0.Block, ud154, .row b116 [.int .i64 0, .slice none 0 0, .int .i64 0, .int .i64 u0.Block, .int .i64 0] 71, .row b15 [.int .i64 0, .slice none 0 0, .int .i64 0, .int .i64 0, .int .i64 0] 71, .row b10 [.int .i64 u0.Want, .slice ao923 ((bcloneS u0.Data) ++ (u1.drop (1 : Int).toNat)).length cap924, .int .i64 ((w64 (u0.Next + 1)).tmod 16), .int .i64 u0.Block, .int .i64 u0.Block] 71, .own (tyInt .u8) 5 ao923 cap924 ((bcloneS u0.Data) ++ (u1.drop (1 : Int).toNat)), .nil, Z1145, hle1146, hF1181.region (by kernel_rfl) (by kernel_rfl), hM1182.perm ((pk 1 rfl).trans (((pk 1 rfl).trans (((pk 1 rfl).trans (((pk 1 rfl).trans ((List.Perm.refl _).cons _)).cons _)).cons _)).cons _)), (nt hx5), (nt hx6), (nt hx7), cu151, kf, kf, (nt hx3), rfl, kf, (nt hx4), rfl, rfl, kf, (nt hx3)⟩
               · -- 3: call
                obtain rfl := Option.some.inj hi
                have hx2 := hpre 2 (by kernel_rfl)
                have hx1 := hcl 2 1 (by kernel_rfl) hx2
                have hx3 := hSi
                have hx4 := negF hcl 4 3 (by kernel_rfl) hx3
                have hx5 := negF hcl 5 3 (by kernel_rfl) hx3
                have hx6 := negF hcl 6 3 (by kernel_rfl) hx3
                have hx7 := negF hcl 7 3 (by kernel_rfl) hx3
                obtain rfl := cu152 hx1
                obtain rfl := cu153 hx2
                obtain rfl := cr0_0
                obtain rfl := cr1_0 hx4
                obtain rfl := cr2_0
                obtain rfl := cr3_0
                obtain rfl := cr4_0 hx3
                refine hG (any_step ?_); clear hG G; intro A J hJ
                have hle0 := Fz.le.trans hle0 hle1146
                have hzst := Fz.le.refl Z1145
                have hs1184 := hs1022.mono hle1146
                have hs1185 := hs1023.mono hle1146
                have hs1186 := hs1024.mono hle1146
                have hs1187 := hs1025.mono hle1146
                have hs1188 := hs1026.mono hle1146
                have hM1189 := hMx.keep (List.Sublist.cons_cons _ (List.Sublist.cons_cons _ (List.Sublist.cons_cons _ (List.Sublist.cons_cons _ (List.Sublist.cons _ (List.Sublist.slnil)))))); clear hMx
                refine cl hFx 59 #[.int .i64 u0.Block] (nog rfl _) rfl (by kernel_rfl) (by kernel_rfl) ?_
                refine (pflow_fun u0.Block _ _ hM1189.fz).mono ?_; rintro _ wd1190 ⟨ao1194, cap1195, Z1196, rfl, hm⟩; refine ⟨_, rfl, ?_⟩; intro a1191 hF1192; have hM1193 := hM1189.callZ hm; have hle1197 := hm.ext.le; clear hm hM1189 hFx
                replace hzst := hzst.mono hle1197
                replace hs1184 := hs1184.mono hle1197
                replace hs1185 := hs1185.mono hle1197
                replace hs1186 := hs1186.mono hle1197
                replace hs1187 := hs1187.mono hle1197
                replace hs1188 := hs1188.mono hle1197
                replace hle0 := Fz.le.trans hle0 hle1197
                have hM1198 : Mem w.heap.size [] w Z [.own (tyInt .u8) 5 ao1194 cap1195 (pflow u0.Block), .row b116 [.int .i64 0, .slice none 0 0, .int .i64 0, .int .i64 u0.Block, .int .i64 0] 71, .row b15 [.int .i64 0, .slice none 0 0, .int .i64 0, .int .i64 0, .int .i64 0] 71, .row b10 [.int .i64 u0.Want, .slice ao923 ((bcloneS u0.Data) ++ (u1.drop (1 : Int).toNat)).length cap924, .int .i64 ((w64 (u0.Next + 1)).tmod 16), .int .i64 u0.Block, .int .i64 u0.Block] 71, .own (tyInt .u8) 5 ao923 cap924 ((bcloneS u0.Data) ++ (u1.drop (1 : Int).toNat))] Z1196 wd1190 := hM1193; clear hM1193
                refine nl (qnI (hJ _ _ ?_)); clear hJ J
                exact ⟨ao1194, cap1195, ud5, ud6, ud7, ud151, .pointer (some ⟨b10, 3, none⟩), .int .i64 u0.Block, .slice ao1194 (pflow u0.Block).length cap1195, .row b116 [.int .i64 0, .slice none 0 0, .int .i64 0, .int .i64 u0.Block, .int .i64 0] 71, .row b15 [.int .i64 0, .slice none 0 0, .int .i64 0, .int .i64 0, .int .i64 0] 71, .row b10 [.int .i64 u0.Want, .slice ao923 ((bcloneS u0.Data) ++ (u1.drop (1 : Int).toNat)).length cap924, .int .i64 ((w64 (u0.Next + 1)).tmod 16), .int .i64 u0.Block, .int .i64 u0.Block] 71, .own (tyInt .u8) 5 ao923 cap924 ((bcloneS u0.Data) ++ (u1.drop (1 : Int).toNat)), .own (tyInt .u8) 5 ao1194 cap1195 (pflow u0.Block), Z1196, hle1146.trans hzst, hF1192.region (by kernel_rfl) (by kernel_rfl), hM1198.perm ((pk 1 rfl).trans (((pk 1 rfl).trans (((pk 1 rfl).trans (((pk 1 rfl).trans ((List.Perm.refl _).cons _)).cons _)).cons _)).cons _)), (nt hx5), (nt hx6), (nt hx7), cu151, kf, kf, kf, rfl, kf, (nt hx4), rfl, rfl, nu, kf⟩
               · -- 4: store
                obtain rfl := Option.some.inj hi
                have hx3 := hpre 3 (by kernel_rfl)
                have hx0 := hpre 0 (by kernel_rfl)
                have hx2 := hcl 3 2 (by kernel_rfl) hx3
                have hx1 := hcl 2 1 (by kernel_rfl) hx2
                have hx4 := hSi
                have hx5 := negF hcl 5 4 (by kernel_rfl) hx4
                have hx6 := negF hcl 6 4 (by kernel_rfl) hx4
                have hx7 := negF hcl 7 4 (by kernel_rfl) hx4
                obtain rfl := cu151 hx0
                obtain rfl := cu152 hx1
                obtain rfl := cu153 hx2
                obtain rfl := cu154 hx3
                obtain rfl := cr0_0
                obtain rfl := cr1_0 hx4
                obtain rfl := cr2_0
                obtain rfl := cr3_0
                obtain rfl := cr4_1 hx3
                refine hG (any_step ?_); clear hG G; intro A J hJ
                have hle0 := Fz.le.trans hle0 hle1146
                have hzst := Fz.le.refl Z1145
                have hs1200 := hs1022.mono hle1146
                have hs1201 := hs1023.mono hle1146
                have hs1202 := hs1024.mono hle1146
                have hs1203 := hs1025.mono hle1146
                have hs1204 := hs1026.mono hle1146
                refine sr hFx hMx 1 [.int .i64 u0.Want, .slice ao923 ((bcloneS u0.Data) ++ (u1.drop (1 : Int).toNat)).length cap924, .int .i64 ((w64 (u0.Next + 1)).tmod 16), .int .i64 u0.Block, .int .i64 u0.Block] (b := b15) (off := 0) (cs := [.int .i64 0, .slice none 0 0, .int .i64 0, .int .i64 0, .int .i64 0]) (ty := 71) (u := .agg #[.int .i64 u0.Want, .slice ao923 ((bcloneS u0.Data) ++ (u1.drop (1 : Int).toNat)).length cap924, .int .i64 ((w64 (u0.Next + 1)).tmod 16), .int .i64 u0.Block, .int .i64 u0.Block]) (nog rfl _) rfl rfl (by kernel_rfl) (by kernel_rfl) (by kernel_rfl) (by kernel_rfl) (by kernel_rfl) (by kernel_rfl) (by kernel_rfl) ?_; intro wd1205 hM1206; clear hMx
                refine nl (qnI (hJ _ _ ?_)); clear hJ J
                exact ⟨ao1132, cap1133, ud5, ud6, ud7, .agg #[.int .i64 u0.Want, .slice ao923 ((bcloneS u0.Data) ++ (u1.drop (1 : Int).toNat)).length cap924, .int .i64 ((w64 (u0.Next + 1)).tmod 16), .int .i64 u0.Block, .int .i64 u0.Block], .pointer (some ⟨b10, 3, none⟩), .int .i64 u0.Block, .slice ao1132 (pflow u0.Block).length cap1133, .row b116 [.int .i64 0, .slice none 0 0, .int .i64 0, .int .i64 u0.Block, .int .i64 0] 71, .row b15 [.int .i64 u0.Want, .slice ao923 ((bcloneS u0.Data) ++ (u1.drop (1 : Int).toNat)).length cap924, .int .i64 ((w64 (u0.Next + 1)).tmod 16), .int .i64 u0.Block, .int .i64 u0.Block] 71, .row b10 [.int .i64 u0.Want, .slice ao923 ((bcloneS u0.Data) ++ (u1.drop (1 : Int).toNat)).length cap924, .int .i64 ((w64 (u0.Next + 1)).tmod 16), .int .i64 u0.Block, .int .i64 u0.Block] 71, .own (tyInt .u8) 5 ao923 cap924 ((bcloneS u0.Data) ++ (u1.drop (1 : Int).toNat)), .own (tyInt .u8) 5 ao1132 cap1133 (pflow u0.Block), Z1145, hle1146, hFx.region (by kernel_rfl) (by kernel_rfl), hM1206.perm (List.Perm.refl _), (nt hx5), (nt hx6), (nt hx7), kf, kf, kf, kf, rfl, nu, kf, rfl, rfl, (tn hx3), kf⟩
               · -- 5: assign
                obtain rfl := Option.some.inj hi
                have hx4 := hpre 4 (by kernel_rfl)
                have hx3 := hpre 3 (by kernel_rfl)
                have hx2 := hpre 2 (by kernel_rfl)
                have hx1 := hpre 1 (by kernel_rfl)
                have hx0 := hpre 0 (by kernel_rfl)
                have hx5 := hSi
                have hx6 := negF hcl 6 5 (by kernel_rfl) hx5
                have hx7 := negF hcl 7 5 (by kernel_rfl) hx5
                obtain rfl := cu151 hx0
                obtain rfl := cu152 hx1
                obtain rfl := cu153 hx2
                obtain rfl := cu154 hx3
                obtain rfl := cr0_0
                obtain rfl := cr1_1 hx4
                obtain rfl := cr2_0
                obtain rfl := cr3_0
                obtain rfl := cr4_1 hx3
                refine hG (any_step ?_); clear hG G; intro A J hJ
                have hle0 := Fz.le.trans hle0 hle1146
                have hzst := Fz.le.refl Z1145
                have hs1208 := hs1022.mono hle1146
                have hs1209 := hs1023.mono hle1146
                have hs1210 := hs1024.mono hle1146
                have hs1211 := hs1025.mono hle1146
                have hs1212 := hs1026.mono hle1146
                refine s1 hFx 5 (.slice ao1132 (pflow u0.Block).length cap1133) ?_; intro a1213 hF1214; clear hFx
                refine nl (qnI (hJ _ _ ?_)); clear hJ J
                exact ⟨ao1132, cap1133, .slice ao1132 (pflow u0.Block).length cap1133, ud6, ud7, .agg #[.int .i64 u0.Want, .slice ao923 ((bcloneS u0.Data) ++ (u1.drop (1 : Int).toNat)).length cap924, .int .i64 ((w64 (u0.Next + 1)).tmod 16), .int .i64 u0.Block, .int .i64 u0.Block], .pointer (some ⟨b10, 3, none⟩), .int .i64 u0.Block, .slice ao1132 (pflow u0.Block).length cap1133, .row b116 [.int .i64 0, .slice none 0 0, .int .i64 0, .int .i64 u0.Block, .int .i64 0] 71, .row b15 [.int .i64 u0.Want, .slice ao923 ((bcloneS u0.Data) ++ (u1.drop (1 : Int).toNat)).length cap924, .int .i64 ((w64 (u0.Next + 1)).tmod 16), .int .i64 u0.Block, .int .i64 u0.Block] 71, .row b10 [.int .i64 u0.Want, .slice ao923 ((bcloneS u0.Data) ++ (u1.drop (1 : Int).toNat)).length cap924, .int .i64 ((w64 (u0.Next + 1)).tmod 16), .int .i64 u0.Block, .int .i64 u0.Block] 71, .own (tyInt .u8) 5 ao923 cap924 ((bcloneS u0.Data) ++ (u1.drop (1 : Int).toNat)), .own (tyInt .u8) 5 ao1132 cap1133 (pflow u0.Block), Z1145, hle1146, hF1214.region (by kernel_rfl) (by kernel_rfl), hMx.perm (List.Perm.refl _), kf, (nt hx6), (nt hx7), kf, kf, kf, kf, rfl, (tn hx4), kf, rfl, rfl, (tn hx3), kf⟩
               · -- 6: assign
                obtain rfl := Option.some.inj hi
                have hx5 := hpre 5 (by kernel_rfl)
                have hx4 := hpre 4 (by kernel_rfl)
                have hx3 := hpre 3 (by kernel_rfl)
                have hx2 := hpre 2 (by kernel_rfl)
                have hx1 := hpre 1 (by kernel_rfl)
                have hx0 := hpre 0 (by kernel_rfl)
                have hx6 := hSi
                have hx7 := negF hcl 7 6 (by kernel_rfl) hx6
                obtain rfl := cu5 hx5
                obtain rfl := cu151 hx0
                obtain rfl := cu152 hx1
                obtain rfl := cu153 hx2
                obtain rfl := cu154 hx3
                obtain rfl := cr0_0
                obtain rfl := cr1_1 hx4
                obtain rfl := cr2_0
                obtain rfl := cr3_0
                obtain rfl := cr4_1 hx3
                refine hG (any_step ?_); clear hG G; intro A J hJ
                have hle0 := Fz.le.trans hle0 hle1146
                have hzst := Fz.le.refl Z1145
                have hs1216 := hs1022.mono hle1146
                have hs1217 := hs1023.mono hle1146
                have hs1218 := hs1024.mono hle1146
                have hs1219 := hs1025.mono hle1146
                have hs1220 := hs1026.mono hle1146
                refine s1 hFx 6 (.slice none 0 0) ?_; intro a1221 hF1222; clear hFx
                refine nl (qnI (hJ _ _ ?_)); clear hJ J
                exact ⟨ao1132, cap1133, .slice ao1132 (pflow u0.Block).length cap1133, .slice none 0 0, ud7, .agg #[.int .i64 u0.Want, .slice ao923 ((bcloneS u0.Data) ++ (u1.drop (1 : Int).toNat)).length cap924, .int .i64 ((w64 (u0.Next + 1)).tmod 16), .int .i64 u0.Block, .int .i64 u0.Block], .pointer (some ⟨b10, 3, none⟩), .int .i64 u0.Block, .slice ao1132 (pflow u0.Block).length cap1133, .row b116 [.int .i64 0, .slice none 0 0, .int .i64 0, .int .i64 u0.Block, .int .i64 0] 71, .row b15 [.int .i64 u0.Want, .slice ao923 ((bcloneS u0.Data) ++ (u1.drop (1 : Int).toNat)).length cap924, .int .i64 ((w64 (u0.Next + 1)).tmod 16), .int .i64 u0.Block, .int .i64 u0.Block] 71, .row b10 [.int .i64 u0.Want, .slice ao923 ((bcloneS u0.Data) ++ (u1.drop (1 : Int).toNat)).length cap924, .int .i64 ((w64 (u0.Next + 1)).tmod 16), .int .i64 u0.Block, .int .i64 u0.Block] 71, .own (tyInt .u8) 5 ao923 cap924 ((bcloneS u0.Data) ++ (u1.drop (1 : Int).toNat)), .own (tyInt .u8) 5 ao1132 cap1133 (pflow u0.Block), Z1145, hle1146, hF1222.region (by kernel_rfl) (by kernel_rfl), hMx.perm (List.Perm.refl _), kf, kf, (nt hx7), kf, kf, kf, kf, rfl, (tn hx4), kf, rfl, rfl, (tn hx3), kf⟩
               · -- 7: assign
                obtain rfl := Option.some.inj hi
                have hx6 := hpre 6 (by kernel_rfl)
                have hx5 := hpre 5 (by kernel_rfl)
                have hx4 := hpre 4 (by kernel_rfl)
                have hx3 := hpre 3 (by kernel_rfl)
                have hx2 := hpre 2 (by kernel_rfl)
                have hx1 := hpre 1 (by kernel_rfl)
                have hx0 := hpre 0 (by kernel_rfl)
                have hx7 := hSi
                obtain rfl := cu5 hx5
                obtain rfl := cu6 hx6
                obtain rfl := cu151 hx0
                obtain rfl := cu152 hx1
                obtain rfl := cu153 hx2
                obtain rfl := cu154 hx3
                obtain rfl := cr0_0
                obtain rfl := cr1_1 hx4
                obtain rfl := cr2_0
                obtain rfl := cr3_0
                obtain rfl := cr4_1 hx3
                refine hG (any_step ?_); clear hG G; intro A J hJ
                have hle0 := Fz.le.trans hle0 hle1146
                have hzst := Fz.le.refl Z1145
                have hs1224 := hs1022.mono hle1146
                have hs1225 := hs1023.mono hle1146
                have hs1226 := hs1024.mono hle1146
                have hs1227 := hs1025.mono hle1146
                have hs1228 := hs1026.mono hle1146
                refine s1 hFx 7 (.int .i64 0) ?_; intro a1229 hF1230; clear hFx
                refine nl (qnI (hJ _ _ ?_)); clear hJ J
                exact ⟨ao1132, cap1133, .slice ao1132 (pflow u0.Block).length cap1133, .slice none 0 0, .int .i64 0, .agg #[.int .i64 u0.Want, .slice ao923 ((bcloneS u0.Data) ++ (u1.drop (1 : Int).toNat)).length cap924, .int .i64 ((w64 (u0.Next + 1)).tmod 16), .int .i64 u0.Block, .int .i64 u0.Block], .pointer (some ⟨b10, 3, none⟩), .int .i64 u0.Block, .slice ao1132 (pflow u0.Block).length cap1133, .row b116 [.int .i64 0, .slice none 0 0, .int .i64 0, .int .i64 u0.Block, .int .i64 0] 71, .row b15 [.int .i64 u0.Want, .slice ao923 ((bcloneS u0.Data) ++ (u1.drop (1 : Int).toNat)).length cap924, .int .i64 ((w64 (u0.Next + 1)).tmod 16), .int .i64 u0.Block, .int .i64 u0.Block] 71, .row b10 [.int .i64 u0.Want, .slice ao923 ((bcloneS u0.Data) ++ (u1.drop (1 : Int).toNat)).length cap924, .int .i64 ((w64 (u0.Next + 1)).tmod 16), .int .i64 u0.Block, .int .i64 u0.Block] 71, .own (tyInt .u8) 5 ao923 cap924 ((bcloneS u0.Data) ++ (u1.drop (1 : Int).toNat)), .own (tyInt .u8) 5 ao1132 cap1133 (pflow u0.Block), Z1145, hle1146, hF1230.region (by kernel_rfl) (by kernel_rfl), hMx.perm (List.Perm.refl _), kf, kf, kf, kf, kf, kf, kf, rfl, (tn hx4), kf, rfl, rfl, (tn hx3), kf⟩
              case hE =>
               intro S hS a1232 wd1233 hI; refine hid ?_; intro G hG; obtain ⟨ao1132, hI⟩ := hI; obtain ⟨cap1133, hI⟩ := hI; obtain ⟨ud5, hI⟩ := hI; obtain ⟨ud6, hI⟩ := hI; obtain ⟨ud7, hI⟩ := hI; obtain ⟨ud151, hI⟩ := hI; obtain ⟨ud152, hI⟩ := hI; obtain ⟨ud153, hI⟩ := hI; obtain ⟨ud154, hI⟩ := hI; obtain ⟨rh0, hI⟩ := hI; obtain ⟨rh1, hI⟩ := hI; obtain ⟨rh2, hI⟩ := hI; obtain ⟨rh3, hI⟩ := hI; obtain ⟨rh4, hI⟩ := hI; obtain ⟨Z1145, hI⟩ := hI; obtain ⟨hle1146, hI⟩ := hI; obtain ⟨hFx, hI⟩ := hI; obtain ⟨hMx, hI⟩ := hI; obtain ⟨cu5, hI⟩ := hI; obtain ⟨cu6, hI⟩ := hI; obtain ⟨cu7, hI⟩ := hI; obtain ⟨cu151, hI⟩ := hI; obtain ⟨cu152, hI⟩ := hI; obtain ⟨cu153, hI⟩ := hI; obtain ⟨cu154, hI⟩ := hI; obtain ⟨cr0_0, hI⟩ := hI; obtain ⟨cr1_0, hI⟩ := hI; obtain ⟨cr1_1, hI⟩ := hI; obtain ⟨cr2_0, hI⟩ := hI; obtain ⟨cr3_0, hI⟩ := hI; obtain ⟨cr4_0, hI⟩ := hI; have cr4_1 := hI; clear hI; refine hG ?_; clear hG G
               obtain rfl := cu5 (hS 5 (by decide))
               obtain rfl := cu6 (hS 6 (by decide))
               obtain rfl := cu7 (hS 7 (by decide))
               obtain rfl := cu151 (hS 0 (by decide))
               obtain rfl := cu152 (hS 1 (by decide))
               obtain rfl := cu153 (hS 2 (by decide))
               obtain rfl := cu154 (hS 3 (by decide))
               obtain rfl := cr0_0
               obtain rfl := cr1_1 (hS 4 (by decide))
               obtain rfl := cr2_0
               obtain rfl := cr3_0
               obtain rfl := cr4_1 (hS 3 (by decide))
               have hle0 := Fz.le.trans hle0 hle1146
               have hs1234 := hs1022.mono hle1146
               have hs1235 := hs1023.mono hle1146
               have hs1236 := hs1024.mono hle1146
               have hs1237 := hs1025.mono hle1146
               have hs1238 := hs1026.mono hle1146
               refine thn ?_
               refine wp_ret ?_
               refine thr ?_
               refine ibr ?_
               refine thr ?_
               obtain ⟨Z1239, hle1240, hM1241, hs1242⟩ := hMx.freeze 3 rfl
               replace hs1234 := hs1234.mono hle1240
               replace hs1235 := hs1235.mono hle1240
               replace hs1236 := hs1236.mono hle1240
               replace hs1237 := hs1237.mono hle1240
               replace hs1238 := hs1238.mono hle1240
               replace hle0 := Fz.le.trans hle0 hle1240
               have hM1243 : Mem w.heap.size [] w Z [.row b116 [.int .i64 0, .slice none 0 0, .int .i64 0, .int .i64 u0.Block, .int .i64 0] 71, .row b15 [.int .i64 u0.Want, .slice ao923 ((bcloneS u0.Data) ++ (u1.drop (1 : Int).toNat)).length cap924, .int .i64 ((w64 (u0.Next + 1)).tmod 16), .int .i64 u0.Block, .int .i64 u0.Block] 71, .row b10 [.int .i64 u0.Want, .slice ao923 ((bcloneS u0.Data) ++ (u1.drop (1 : Int).toNat)).length cap924, .int .i64 ((w64 (u0.Next + 1)).tmod 16), .int .i64 u0.Block, .int .i64 u0.Block] 71, .own (tyInt .u8) 5 ao1132 cap1133 (pflow u0.Block)] Z1239 wd1233 := hM1241; clear hM1241
               have hM1244 : Mem w.heap.size [] w Z [.own (tyInt .u8) 5 none 0 ([] : List Int), .row b116 [.int .i64 0, .slice none 0 0, .int .i64 0, .int .i64 u0.Block, .int .i64 0] 71, .row b15 [.int .i64 u0.Want, .slice ao923 ((bcloneS u0.Data) ++ (u1.drop (1 : Int).toNat)).length cap924, .int .i64 ((w64 (u0.Next + 1)).tmod 16), .int .i64 u0.Block, .int .i64 u0.Block] 71, .row b10 [.int .i64 u0.Want, .slice ao923 ((bcloneS u0.Data) ++ (u1.drop (1 : Int).toNat)).length cap924, .int .i64 ((w64 (u0.Next + 1)).tmod 16), .int .i64 u0.Block, .int .i64 u0.Block] 71, .own (tyInt .u8) 5 ao1132 cap1133 (pflow u0.Block)] Z1239 wd1233 := hM1243.addNil (tyInt .u8) 5 (by decide); clear hM1243
               obtain ⟨nb1245, hnb1246⟩ : ∃ b, ao1132.isNone = b := ⟨_, rfl⟩; have hp1247 := hp1110 nb1245 (by rw [← hnb1246]; exact hM1244.ownNil 4 rfl); clear hp1110
               refine rt (fn := Try.f41) (v := .tuple #[.agg #[.int .i64 u0.Want, .slice ao923 ((bcloneS u0.Data) ++ (u1.drop (1 : Int).toNat)).length cap924, .int .i64 ((w64 (u0.Next + 1)).tmod 16), .int .i64 u0.Block, .int .i64 u0.Block], .slice ao1132 (pflow u0.Block).length cap1133, .slice none ([] : List Int).length 0, .int .i64 0]) hFx (re4c hFx (fn := Try.f41) rfl (ad := ⟨b15, 0, none⟩) (by kernel_rfl) (loadVar_run hM1244 2 (b := b15) (k := 5) (vs := [.int .i64 u0.Want, .slice ao923 ((bcloneS u0.Data) ++ (u1.drop (1 : Int).toNat)).length cap924, .int .i64 ((w64 (u0.Next + 1)).tmod 16), .int .i64 u0.Block, .int .i64 u0.Block]) (ty := 71) rfl (by kernel_rfl) (by kernel_rfl)) (by kernel_rfl) (by kernel_rfl) (by kernel_rfl)) ?_
               have hM1248 := hM1244.perm ((pk 4 rfl).trans ((List.Perm.refl _).cons _))
               exact ⟨((⟨u0.Want, (bcloneS u0.Data) ++ (u1.drop (1 : Int).toNat), (w64 (u0.Next + 1)).tmod 16, u0.Block, u0.Block⟩ : Getter), (pflow u0.Block), ([] : List Int), 0, nb1245, true), ao923, cap924, ao1132, cap1133, none, 0, Z1239, rfl, hp1247, hs1242, hnb1246, rfl, hM1248.keep (List.Sublist.cons_cons _ (List.Sublist.cons_cons _ (List.Sublist.cons _ (List.Sublist.cons _ (List.Sublist.cons _ (List.Sublist.slnil))))))⟩
             · -- no
              have hp1249 := hp1088.2 hb1109; clear hp1088
              refine wp_skip ?_
              refine thn ?_
              refine sqH ?_; intro hQ1250Q hQ1250
              refine l2 hF1108 hM1101 155 2 0 5 [.int .i64 u0.Want, .slice ao923 ((bcloneS u0.Data) ++ (u1.drop (1 : Int).toNat)).length cap924, .int .i64 ((w64 (u0.Next + 1)).tmod 16), .int .i64 u0.Block, .int .i64 (w64 (u0.Left - 1))] rfl rfl ?_; intro a1251 hF1252; clear hF1108
              refine sr hF1252 hM1101 1 [.int .i64 u0.Want, .slice ao923 ((bcloneS u0.Data) ++ (u1.drop (1 : Int).toNat)).length cap924, .int .i64 ((w64 (u0.Next + 1)).tmod 16), .int .i64 u0.Block, .int .i64 (w64 (u0.Left - 1))] (b := b15) (off := 0) (cs := [.int .i64 0, .slice none 0 0, .int .i64 0, .int .i64 0, .int .i64 0]) (ty := 71) (u := .agg #[.int .i64 u0.Want, .slice ao923 ((bcloneS u0.Data) ++ (u1.drop (1 : Int).toNat)).length cap924, .int .i64 ((w64 (u0.Next + 1)).tmod 16), .int .i64 u0.Block, .int .i64 (w64 (u0.Left - 1))]) (nog rfl _) rfl rfl (by kernel_rfl) (by kernel_rfl) (by kernel_rfl) (by kernel_rfl) (by kernel_rfl) (by kernel_rfl) (by kernel_rfl) ?_; intro wd1253 hM1254; clear hM1101
              refine s1 hF1252 5 (.slice none 0 0) ?_; intro a1255 hF1256; clear hF1252
              refine s1 hF1256 6 (.slice none 0 0) ?_; intro a1257 hF1258; clear hF1256
              refine s1 hF1258 7 (.int .i64 0) ?_; intro a1259 hF1260; clear hF1258
              have hM1261 : Mem w.heap.size [] w Z [.row b116 [.int .i64 0, .slice none 0 0, .int .i64 0, .int .i64 u0.Block, .int .i64 0] 71, .row b15 [.int .i64 u0.Want, .slice ao923 ((bcloneS u0.Data) ++ (u1.drop (1 : Int).toNat)).length cap924, .int .i64 ((w64 (u0.Next + 1)).tmod 16), .int .i64 u0.Block, .int .i64 (w64 (u0.Left - 1))] 71, .row b10 [.int .i64 u0.Want, .slice ao923 ((bcloneS u0.Data) ++ (u1.drop (1 : Int).toNat)).length cap924, .int .i64 ((w64 (u0.Next + 1)).tmod 16), .int .i64 u0.Block, .int .i64 (w64 (u0.Left - 1))] 71, .own (tyInt .u8) 5 ao923 cap924 ((bcloneS u0.Data) ++ (u1.drop (1 : Int).toNat))] Z936 wd1253 := hM1254; clear hM1254
              refine nlH (hQ1250 _ _ ?_); clear hQ1250 hQ1250Q
              refine wp_ret ?_
              refine ibr ?_
              refine thr ?_
              obtain ⟨Z1262, hle1263, hM1264, hs1265⟩ := hM1261.freeze 3 rfl
              replace hs1022 := hs1022.mono hle1263
              replace hs1023 := hs1023.mono hle1263
              replace hs1024 := hs1024.mono hle1263
              replace hs1025 := hs1025.mono hle1263
              replace hs1026 := hs1026.mono hle1263
              replace hle0 := Fz.le.trans hle0 hle1263
              have hM1266 : Mem w.heap.size [] w Z [.row b116 [.int .i64 0, .slice none 0 0, .int .i64 0, .int .i64 u0.Block, .int .i64 0] 71, .row b15 [.int .i64 u0.Want, .slice ao923 ((bcloneS u0.Data) ++ (u1.drop (1 : Int).toNat)).length cap924, .int .i64 ((w64 (u0.Next + 1)).tmod 16), .int .i64 u0.Block, .int .i64 (w64 (u0.Left - 1))] 71, .row b10 [.int .i64 u0.Want, .slice ao923 ((bcloneS u0.Data) ++ (u1.drop (1 : Int).toNat)).length cap924, .int .i64 ((w64 (u0.Next + 1)).tmod 16), .int .i64 u0.Block, .int .i64 (w64 (u0.Left - 1))] 71] Z1262 wd1253 := hM1264; clear hM1264
              have hM1267 : Mem w.heap.size [] w Z [.own (tyInt .u8) 5 none 0 ([] : List Int), .row b116 [.int .i64 0, .slice none 0 0, .int .i64 0, .int .i64 u0.Block, .int .i64 0] 71, .row b15 [.int .i64 u0.Want, .slice ao923 ((bcloneS u0.Data) ++ (u1.drop (1 : Int).toNat)).length cap924, .int .i64 ((w64 (u0.Next + 1)).tmod 16), .int .i64 u0.Block, .int .i64 (w64 (u0.Left - 1))] 71, .row b10 [.int .i64 u0.Want, .slice ao923 ((bcloneS u0.Data) ++ (u1.drop (1 : Int).toNat)).length cap924, .int .i64 ((w64 (u0.Next + 1)).tmod 16), .int .i64 u0.Block, .int .i64 (w64 (u0.Left - 1))] 71] Z1262 wd1253 := hM1266.addNil (tyInt .u8) 5 (by decide); clear hM1266
              have hM1268 : Mem w.heap.size [] w Z [.own (tyInt .u8) 5 none 0 ([] : List Int), .own (tyInt .u8) 5 none 0 ([] : List Int), .row b116 [.int .i64 0, .slice none 0 0, .int .i64 0, .int .i64 u0.Block, .int .i64 0] 71, .row b15 [.int .i64 u0.Want, .slice ao923 ((bcloneS u0.Data) ++ (u1.drop (1 : Int).toNat)).length cap924, .int .i64 ((w64 (u0.Next + 1)).tmod 16), .int .i64 u0.Block, .int .i64 (w64 (u0.Left - 1))] 71, .row b10 [.int .i64 u0.Want, .slice ao923 ((bcloneS u0.Data) ++ (u1.drop (1 : Int).toNat)).length cap924, .int .i64 ((w64 (u0.Next + 1)).tmod 16), .int .i64 u0.Block, .int .i64 (w64 (u0.Left - 1))] 71] Z1262 wd1253 := hM1267.addNil (tyInt .u8) 5 (by decide); clear hM1267
              refine rt (fn := Try.f41) (v := .tuple #[.agg #[.int .i64 u0.Want, .slice ao923 ((bcloneS u0.Data) ++ (u1.drop (1 : Int).toNat)).length cap924, .int .i64 ((w64 (u0.Next + 1)).tmod 16), .int .i64 u0.Block, .int .i64 (w64 (u0.Left - 1))], .slice none ([] : List Int).length 0, .slice none ([] : List Int).length 0, .int .i64 0]) hF1260 (re4c hF1260 (fn := Try.f41) rfl (ad := ⟨b15, 0, none⟩) (by kernel_rfl) (loadVar_run hM1268 3 (b := b15) (k := 5) (vs := [.int .i64 u0.Want, .slice ao923 ((bcloneS u0.Data) ++ (u1.drop (1 : Int).toNat)).length cap924, .int .i64 ((w64 (u0.Next + 1)).tmod 16), .int .i64 u0.Block, .int .i64 (w64 (u0.Left - 1))]) (ty := 71) rfl (by kernel_rfl) (by kernel_rfl)) (by kernel_rfl) (by kernel_rfl) (by kernel_rfl)) ?_
              exact ⟨((⟨u0.Want, (bcloneS u0.Data) ++ (u1.drop (1 : Int).toNat), (w64 (u0.Next + 1)).tmod 16, u0.Block, w64 (u0.Left - 1)⟩ : Getter), ([] : List Int), ([] : List Int), 0, true, true), ao923, cap924, none, 0, none, 0, Z1262, rfl, hp1249, hs1265, rfl, rfl, hM1268.keep (List.Sublist.cons_cons _ (List.Sublist.cons_cons _ (List.Sublist.cons _ (List.Sublist.cons _ (List.Sublist.cons _ (List.Sublist.slnil))))))⟩
            · -- no
             have hp1269 := hp1059.2 hb1087; clear hp1059
             refine wp_skip ?_
             refine thn ?_
             have hF1270 : Fr 157 [] [⟨2, [], .pointer (some ⟨b10, 0, none⟩)⟩, ⟨4, [], .pointer (some ⟨b15, 0, none⟩)⟩] a1085 := hF1086.region (by kernel_rfl) (by kernel_rfl); clear hF1086
             refine sqH ?_; intro hQ1271Q hQ1271
             refine l2 hF1270 hM1079 155 2 0 5 [.int .i64 u0.Want, .slice ao923 ((bcloneS u0.Data) ++ (u1.drop (1 : Int).toNat)).length cap924, .int .i64 ((w64 (u0.Next + 1)).tmod 16), .int .i64 u0.Block, .int .i64 u0.Left] rfl rfl ?_; intro a1272 hF1273; clear hF1270
             refine sr hF1273 hM1079 1 [.int .i64 u0.Want, .slice ao923 ((bcloneS u0.Data) ++ (u1.drop (1 : Int).toNat)).length cap924, .int .i64 ((w64 (u0.Next + 1)).tmod 16), .int .i64 u0.Block, .int .i64 u0.Left] (b := b15) (off := 0) (cs := [.int .i64 0, .slice none 0 0, .int .i64 0, .int .i64 0, .int .i64 0]) (ty := 71) (u := .agg #[.int .i64 u0.Want, .slice ao923 ((bcloneS u0.Data) ++ (u1.drop (1 : Int).toNat)).length cap924, .int .i64 ((w64 (u0.Next + 1)).tmod 16), .int .i64 u0.Block, .int .i64 u0.Left]) (nog rfl _) rfl rfl (by kernel_rfl) (by kernel_rfl) (by kernel_rfl) (by kernel_rfl) (by kernel_rfl) (by kernel_rfl) (by kernel_rfl) ?_; intro wd1274 hM1275; clear hM1079
             refine s1 hF1273 5 (.slice none 0 0) ?_; intro a1276 hF1277; clear hF1273
             refine s1 hF1277 6 (.slice none 0 0) ?_; intro a1278 hF1279; clear hF1277
             refine s1 hF1279 7 (.int .i64 0) ?_; intro a1280 hF1281; clear hF1279
             have hM1282 : Mem w.heap.size [] w Z [.row b116 [.int .i64 0, .slice none 0 0, .int .i64 0, .int .i64 u0.Block, .int .i64 0] 71, .row b15 [.int .i64 u0.Want, .slice ao923 ((bcloneS u0.Data) ++ (u1.drop (1 : Int).toNat)).length cap924, .int .i64 ((w64 (u0.Next + 1)).tmod 16), .int .i64 u0.Block, .int .i64 u0.Left] 71, .row b10 [.int .i64 u0.Want, .slice ao923 ((bcloneS u0.Data) ++ (u1.drop (1 : Int).toNat)).length cap924, .int .i64 ((w64 (u0.Next + 1)).tmod 16), .int .i64 u0.Block, .int .i64 u0.Left] 71, .own (tyInt .u8) 5 ao923 cap924 ((bcloneS u0.Data) ++ (u1.drop (1 : Int).toNat))] Z936 wd1274 := hM1275; clear hM1275
             refine nlH (hQ1271 _ _ ?_); clear hQ1271 hQ1271Q
             refine wp_ret ?_
             refine ibr ?_
             refine thr ?_
             obtain ⟨Z1283, hle1284, hM1285, hs1286⟩ := hM1282.freeze 3 rfl
             replace hs1022 := hs1022.mono hle1284
             replace hs1023 := hs1023.mono hle1284
             replace hs1024 := hs1024.mono hle1284
             replace hs1025 := hs1025.mono hle1284
             replace hs1026 := hs1026.mono hle1284
             replace hle0 := Fz.le.trans hle0 hle1284
             have hM1287 : Mem w.heap.size [] w Z [.row b116 [.int .i64 0, .slice none 0 0, .int .i64 0, .int .i64 u0.Block, .int .i64 0] 71, .row b15 [.int .i64 u0.Want, .slice ao923 ((bcloneS u0.Data) ++ (u1.drop (1 : Int).toNat)).length cap924, .int .i64 ((w64 (u0.Next + 1)).tmod 16), .int .i64 u0.Block, .int .i64 u0.Left] 71, .row b10 [.int .i64 u0.Want, .slice ao923 ((bcloneS u0.Data) ++ (u1.drop (1 : Int).toNat)).length cap924, .int .i64 ((w64 (u0.Next + 1)).tmod 16), .int .i64 u0.Block, .int .i64 u0.Left] 71] Z1283 wd1274 := hM1285; clear hM1285
             have hM1288 : Mem w.heap.size [] w Z [.own (tyInt .u8) 5 none 0 ([] : List Int), .row b116 [.int .i64 0, .slice none 0 0, .int .i64 0, .int .i64 u0.Block, .int .i64 0] 71, .row b15 [.int .i64 u0.Want, .slice ao923 ((bcloneS u0.Data) ++ (u1.drop (1 : Int).toNat)).length cap924, .int .i64 ((w64 (u0.Next + 1)).tmod 16), .int .i64 u0.Block, .int .i64 u0.Left] 71, .row b10 [.int .i64 u0.Want, .slice ao923 ((bcloneS u0.Data) ++ (u1.drop (1 : Int).toNat)).length cap924, .int .i64 ((w64 (u0.Next + 1)).tmod 16), .int .i64 u0.Block, .int .i64 u0.Left] 71] Z1283 wd1274 := hM1287.addNil (tyInt .u8) 5 (by decide); clear hM1287
             have hM1289 : Mem w.heap.size [] w Z [.own (tyInt .u8) 5 none 0 ([] : List Int), .own (tyInt .u8) 5 none 0 ([] : List Int), .row b116 [.int .i64 0, .slice none 0 0, .int .i64 0, .int .i64 u0.Block, .int .i64 0] 71, .row b15 [.int .i64 u0.Want, .slice ao923 ((bcloneS u0.Data) ++ (u1.drop (1 : Int).toNat)).length cap924, .int .i64 ((w64 (u0.Next + 1)).tmod 16), .int .i64 u0.Block, .int .i64 u0.Left] 71, .row b10 [.int .i64 u0.Want, .slice ao923 ((bcloneS u0.Data) ++ (u1.drop (1 : Int).toNat)).length cap924, .int .i64 ((w64 (u0.Next + 1)).tmod 16), .int .i64 u0.Block, .int .i64 u0.Left] 71] Z1283 wd1274 := hM1288.addNil (tyInt .u8) 5 (by decide); clear hM1288
             refine rt (fn := Try.f41) (v := .tuple #[.agg #[.int .i64 u0.Want, .slice ao923 ((bcloneS u0.Data) ++ (u1.drop (1 : Int).toNat)).length cap924, .int .i64 ((w64 (u0.Next + 1)).tmod 16), .int .i64 u0.Block, .int .i64 u0.Left], .slice none ([] : List Int).length 0, .slice none ([] : List Int).length 0, .int .i64 0]) hF1281 (re4c hF1281 (fn := Try.f41) rfl (ad := ⟨b15, 0, none⟩) (by kernel_rfl) (loadVar_run hM1289 3 (b := b15) (k := 5) (vs := [.int .i64 u0.Want, .slice ao923 ((bcloneS u0.Data) ++ (u1.drop (1 : Int).toNat)).length cap924, .int .i64 ((w64 (u0.Next + 1)).tmod 16), .int .i64 u0.Block, .int .i64 u0.Left]) (ty := 71) rfl (by kernel_rfl) (by kernel_rfl)) (by kernel_rfl) (by kernel_rfl) (by kernel_rfl)) ?_
             exact ⟨((⟨u0.Want, (bcloneS u0.Data) ++ (u1.drop (1 : Int).toNat), (w64 (u0.Next + 1)).tmod 16, u0.Block, u0.Left⟩ : Getter), ([] : List Int), ([] : List Int), 0, true, true), ao923, cap924, none, 0, none, 0, Z1283, rfl, hp1269, hs1286, rfl, rfl, hM1289.keep (List.Sublist.cons_cons _ (List.Sublist.cons_cons _ (List.Sublist.cons _ (List.Sublist.cons _ (List.Sublist.cons _ (List.Sublist.slnil))))))⟩
      · -- no
       have hp1290 := hp797.2 hb803; clear hp797
       refine wp_skip ?_
       refine ibn ?_
       refine thn ?_
       refine sqH ?_; intro hQ1291Q hQ1291
       refine s1 hF802 156 (.agg #[.int .i64 0, .slice none 0 0, .int .i64 0, .int .i64 0, .int .i64 0]) ?_; intro a1292 hF1293; clear hF802
       refine sr hF1293 hM123 1 [.int .i64 0, .slice none 0 0, .int .i64 0, .int .i64 0, .int .i64 0] (b := b15) (off := 0) (cs := [.int .i64 0, .slice none 0 0, .int .i64 0, .int .i64 0, .int .i64 0]) (ty := 71) (u := .agg #[.int .i64 0, .slice none 0 0, .int .i64 0, .int .i64 0, .int .i64 0]) (nog rfl _) rfl rfl (by kernel_rfl) (by kernel_rfl) (by kernel_rfl) (by kernel_rfl) (by kernel_rfl) (by kernel_rfl) (by kernel_rfl) ?_; intro wd1294 hM1295; clear hM123
       refine s1 hF1293 5 (.slice none 0 0) ?_; intro a1296 hF1297; clear hF1293
       refine s1 hF1297 6 (.slice none 0 0) ?_; intro a1298 hF1299; clear hF1297
       refine s1 hF1299 7 (.int .i64 8) ?_; intro a1300 hF1301; clear hF1299
       have hM1302 : Mem w.heap.size [] w Z [.row b116 [.int .i64 0, .slice none 0 0, .int .i64 0, .int .i64 u0.Block, .int .i64 0] 71, .row b15 [.int .i64 0, .slice none 0 0, .int .i64 0, .int .i64 0, .int .i64 0] 71, .row b10 [.int .i64 u0.Want, .slice ao1 u0.Data.length cap2, .int .i64 u0.Next, .int .i64 u0.Block, .int .i64 u0.Left] 71] Z wd1294 := hM1295; clear hM1295
       refine nlH (hQ1291 _ _ ?_); clear hQ1291 hQ1291Q
       refine wp_ret ?_
       have hM1303 : Mem w.heap.size [] w Z [.own (tyInt .u8) 5 none 0 ([] : List Int), .row b116 [.int .i64 0, .slice none 0 0, .int .i64 0, .int .i64 u0.Block, .int .i64 0] 71, .row b15 [.int .i64 0, .slice none 0 0, .int .i64 0, .int .i64 0, .int .i64 0] 71, .row b10 [.int .i64 u0.Want, .slice ao1 u0.Data.length cap2, .int .i64 u0.Next, .int .i64 u0.Block, .int .i64 u0.Left] 71] Z wd1294 := hM1302.addNil (tyInt .u8) 5 (by decide); clear hM1302
       have hM1304 : Mem w.heap.size [] w Z [.own (tyInt .u8) 5 none 0 ([] : List Int), .own (tyInt .u8) 5 none 0 ([] : List Int), .row b116 [.int .i64 0, .slice none 0 0, .int .i64 0, .int .i64 u0.Block, .int .i64 0] 71, .row b15 [.int .i64 0, .slice none 0 0, .int .i64 0, .int .i64 0, .int .i64 0] 71, .row b10 [.int .i64 u0.Want, .slice ao1 u0.Data.length cap2, .int .i64 u0.Next, .int .i64 u0.Block, .int .i64 u0.Left] 71] Z wd1294 := hM1303.addNil (tyInt .u8) 5 (by decide); clear hM1303
       refine rt (fn := Try.f41) (v := .tuple #[.agg #[.int .i64 0, .slice none 0 0, .int .i64 0, .int .i64 0, .int .i64 0], .slice none ([] : List Int).length 0, .slice none ([] : List Int).length 0, .int .i64 8]) hF1301 (re4c hF1301 (fn := Try.f41) rfl (ad := ⟨b15, 0, none⟩) (by kernel_rfl) (loadVar_run hM1304 3 (b := b15) (k := 5) (vs := [.int .i64 0, .slice none 0 0, .int .i64 0, .int .i64 0, .int .i64 0]) (ty := 71) rfl (by kernel_rfl) (by kernel_rfl)) (by kernel_rfl) (by kernel_rfl) (by kernel_rfl)) ?_
       exact ⟨((⟨0, [], 0, 0, 0⟩ : Getter), ([] : List Int), ([] : List Int), 8, true, true), none, 0, none, 0, none, 0, Z, rfl, hp1290, (SlR.nil _ _), rfl, rfl, hM1304.keep (List.Sublist.cons_cons _ (List.Sublist.cons_cons _ (List.Sublist.cons _ (List.Sublist.cons _ (List.Sublist.cons _ (List.Sublist.slnil))))))⟩

end Go.Proofs.Ytkogkombalcgeaa
