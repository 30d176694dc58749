/- The walks, made by program: each call does what its pure predicate says. -/
import Derived.Test.YtginlmgkimfjmaaPDd
import Derived.Test.YtginlmgkimfjmaaWDc
set_option linter.unusedVariables false
set_option linter.unusedSimpArgs false
namespace Go.Proofs.Ytginlmgkimfjmaa
open Go.Sy Go.RowKit
theorem scontains_fun (u0 : List Int) (u1 : Int) (ao1 : Option Addr) (cap2 : Nat) (Z : Fz) (w : World) (hs3 : SlR (tyInt .i64) Z ao1 cap2 u0) (hZ : Z.on w) : Calls Try.prog 70 #[.slice ao1 u0.length cap2, .int .i64 u1] w fun e w' => e = .returned (.bool (scontainsS u0 u1)) ∧ Below w.heap.size w w' :=
  (scontains_walk u0 u1 ao1 cap2 Z w hs3 hZ (scontains_ok u0 u1)).mono fun _ _ ⟨r, he, hk, hb⟩ => ⟨by subst hk; exact he, hb⟩

theorem sindex_fun (u0 : List Int) (u1 : Int) (ao1 : Option Addr) (cap2 : Nat) (Z : Fz) (w : World) (hs3 : SlR (tyInt .i64) Z ao1 cap2 u0) (hZ : Z.on w) : Calls Try.prog 99 #[.slice ao1 u0.length cap2, .int .i64 u1] w fun e w' => e = .returned (.int .i64 (sindexS u0 u1)) ∧ Below w.heap.size w w' :=
  (sindex_walk u0 u1 ao1 cap2 Z w hs3 hZ (sindex_ok2 u0 u1)).mono fun _ _ ⟨r, he, hk, hb⟩ => ⟨by subst hk; exact he, hb⟩

theorem fname_fun (u0 : Frame) (hpre : 0 ≤ u0.ID ∧ u0.ID ≤ 536870911) (ao1 : Option Addr) (cap2 : Nat) (Z : Fz) (w : World) (hs3 : SlR (tyInt .u8) Z ao1 cap2 u0.Data) (hZ : Z.on w) : Calls Try.prog 113 #[.agg #[.int .i64 u0.ID, .bool u0.Long, .bool u0.Fast, .bool u0.Remote, .int .i64 u0.Size, .slice ao1 u0.Data.length cap2]] w fun e w' => e = .returned (str (fnameS u0)) ∧ Below w.heap.size w w' :=
  (fname_walk u0 ao1 cap2 Z w hs3 hZ (fname_ok u0 hpre)).mono fun _ _ ⟨r, he, hk, hb⟩ => ⟨by subst hk; exact he, hb⟩

theorem dasks_fun (u0 : Task) (u1 : Int) (u2 : Bool) (hpre : u0.Every ≠ 0)  (Z : Fz) (w : World)  (hZ : Z.on w) : Calls Try.prog 84 #[.agg #[.int .i64 u0.ID, .int .i64 u0.Bytes, .int .i64 u0.Every, .int .i64 u0.Late, .int .i64 u0.Jitter], .int .i64 u1, .bool u2] w fun e w' => e = .returned (.int .i64 (dasksS u0 u1 u2)) ∧ Below w.heap.size w w' :=
  (dasks_walk u0 u1 u2  Z w  hZ (dasks_ok u0 u1 u2 hpre)).mono fun _ _ ⟨r, he, hk, hb⟩ => ⟨by subst hk; exact he, hb⟩

theorem dcheck_fun (u0 : List Task) (ao1 : Option Addr) (cap2 : Nat) (Z : Fz) (w : World) (hs3 : SlR tyTask Z ao1 cap2 u0) (hZ : Z.on w) : Calls Try.prog 47 #[.slice ao1 u0.length cap2] w fun e w' => e = .returned (.int .i64 (dcheckS u0)) ∧ Below w.heap.size w w' :=
  (dcheck_walk u0 ao1 cap2 Z w hs3 hZ (dcheck_ok u0)).mono fun _ _ ⟨r, he, hk, hb⟩ => ⟨by subst hk; exact he, hb⟩

theorem tclone_fun (u0 : List Task) (hpre : u0.length ≤ 2000000) (ao1 : Option Addr) (cap2 : Nat) (Z : Fz) (w : World) (hs3 : SlR tyTask Z ao1 cap2 u0) (hZ : Z.on w) : Calls Try.prog 16 #[.slice ao1 u0.length cap2] w fun e w' => ∃ (ao1001 : Option Addr) (cap1002 : Nat) (Z' : Fz), e = .returned (.slice ao1001 (tcloneS u0).length cap1002) ∧ Mem w.heap.size [] w Z [.own tyTask 34 ao1001 cap1002 (tcloneS u0)] Z' w' :=
  (tclone_walk u0 ao1 cap2 Z w hs3 hZ (tclone_ok u0 hpre)).mono fun _ _ ⟨r, h0, h1, h2, he, hk, hm⟩ => by subst hk; exact ⟨h0, h1, h2, he, hm⟩

theorem dfix_fun (u0 : Int) (u1 : Int → Int) (hpre : fixpre u0 u1) (fid1 : Nat) (caps2 : Array Value) (Z : Fz) (w : World) (hf3 : ∀ (Z1 : Fz) (w1 : World), Z.le Z1 → Z1.on w1 → ∀ (x0 : Int), Calls Try.prog fid1 (#[.int .i64 x0] ++ caps2) w1 fun e w2 => e = .returned (.int .i64 (u1 x0)) ∧ Below w1.heap.size w1 w2) (hg4 : ∀ x w, Sem.run Try.prog (callFunc fid1 x) w = .ok (.enter fid1 x) w) (hZ : Z.on w) : Calls Try.prog 82 #[.int .i64 u0, .func (.func fid1) #[] caps2] w fun e w' => e = .returned (.int .i64 (dfixS u0 u1)) ∧ Below w.heap.size w w' :=
  (dfix_walk u0 u1 fid1 caps2 Z w hf3 hg4 hZ (dfix_ok u0 u1 hpre)).mono fun _ _ ⟨r, he, hk, hb⟩ => ⟨by subst hk; exact he, hb⟩

set_option maxRecDepth 100000 in
set_option maxHeartbeats 0 in
theorem fcheckfr_walk (u0 : Frame) (ao1 : Option Addr) (cap2 : Nat) (Z : Fz) (w : World) (hs3 : SlR (tyInt .u8) Z ao1 cap2 u0.Data) (hZ : Z.on w) {K : Int → Prop} (hp : fcheckfr_vc u0 K) : Calls Try.prog 58 #[.agg #[.int .i64 u0.ID, .bool u0.Long, .bool u0.Fast, .bool u0.Remote, .int .i64 u0.Size, .slice ao1 u0.Data.length cap2]] w fun e w' => ∃ r : Int, e = .returned (.int .i64 r) ∧ K r ∧ Below w.heap.size w w' := by
 refine enter0 Try.func58 rfl rfl (by kernel_rfl) ?_; intro a0 hF0; have hM0 := Mem.start w Z hZ; have hle0 := Fz.le.refl Z
 have hp4 := hp (hs3.small); clear hp
 refine sqH ?_; intro hQ5Q hQ5
 refine sn hF0 hM0 (fun b => .pointer (some ⟨b, 0, none⟩)) [.int .i64 u0.ID, .bool u0.Long, .bool u0.Fast, .bool u0.Remote, .int .i64 u0.Size, .slice ao1 u0.Data.length cap2] 58 (nog rfl _) rfl (by kernel_rfl) (by kernel_rfl) ?_; intro b6 a7 wd9 hF8 hM10; clear hF0 hM0
 refine s1 hF8 2 (.int .i64 0) ?_; intro a11 hF12; clear hF8
 refine nlH (hQ5 _ _ ?_); clear hQ5 hQ5Q
 refine wp_seq ?_
 refine wp_block ?_
 refine sqH ?_; intro hQ13Q hQ13
 refine s1 hF12 4 (.pointer (some ⟨b6, 0, none⟩)) ?_; intro a14 hF15; clear hF12
 refine l1 hF15 hM10 5 0 0 (.int .i64 u0.ID) rfl rfl ?_; intro a16 hF17; clear hF15
 refine s1 hF17 6 (.bool (decide (u0.ID < 0))) ?_; intro a18 hF19; clear hF17
 refine s1 hF19 7 (.bool (decide (u0.ID < 0))) ?_; intro a20 hF21; clear hF19
 have hF22 := hF21.atom ((decide (u0.ID < 0)) == false) (by kernel_rfl); clear hF21
 refine gp hF22 8 0 [] (decide (u0.ID < 0)) (.pointer (some ⟨b6, 1, none⟩)) rfl rfl ?_; intro a23 hF24; clear hF22
 refine gd hF24 (.bool u0.Long) (m := 0) (cj := []) (bj := decide (u0.ID < 0)) rfl rfl (by kernel_rfl) rfl (by kernel_rfl) (by kernel_rfl) (by kernel_rfl) (fun hg => ld hF24 hM10 0 (g := [0]) (b := b6) (off := 1) (cs := [.int .i64 u0.ID, .bool u0.Long, .bool u0.Fast, .bool u0.Remote, .int .i64 u0.Size, .slice ao1 u0.Data.length cap2]) (ty := 58) rfl (by kernel_rfl) (by kernel_rfl) (by kernel_rfl) (by kernel_rfl) hg) ?_; intro a25 hF26; clear hF24
 refine gp hF26 10 0 [] (decide (u0.ID < 0)) (.bool (!u0.Long)) rfl rfl ?_; intro a27 hF28; clear hF26
 refine gp hF28 11 0 [] (decide (u0.ID < 0)) (.bool (!u0.Long)) rfl rfl ?_; intro a29 hF30; clear hF28
 have hF31 := hF30.atom ((!u0.Long) == true) (by kernel_rfl); clear hF30
 refine gp hF31 12 1 [0] (!u0.Long) (.pointer (some ⟨b6, 0, none⟩)) rfl rfl ?_; intro a32 hF33; clear hF31
 refine gd hF33 (.int .i64 u0.ID) (m := 1) (cj := [0]) (bj := !u0.Long) rfl rfl (by kernel_rfl) rfl (by kernel_rfl) (by kernel_rfl) (by kernel_rfl) (fun hg => ld hF33 hM10 0 (g := [1, 0]) (b := b6) (off := 0) (cs := [.int .i64 u0.ID, .bool u0.Long, .bool u0.Fast, .bool u0.Remote, .int .i64 u0.Size, .slice ao1 u0.Data.length cap2]) (ty := 58) rfl (by kernel_rfl) (by kernel_rfl) (by kernel_rfl) (by kernel_rfl) hg) ?_; intro a34 hF35; clear hF33
 refine gp hF35 14 1 [0] (!u0.Long) (.bool (decide (u0.ID > 2047))) rfl rfl ?_; intro a36 hF37; clear hF35
 refine gd hF37 (.bool ((!u0.Long) && (decide (u0.ID > 2047)))) (m := 0) (cj := []) (bj := decide (u0.ID < 0)) rfl rfl (by kernel_rfl) rfl (by kernel_rfl) (by kernel_rfl) (by kernel_rfl) (fun hg => pk_and hF37 (g := [0]) (m := 1) (b := !u0.Long) (v := decide (u0.ID > 2047)) rfl (by kernel_rfl) (by kernel_rfl) (by kernel_rfl) hg) ?_; intro a38 hF39; clear hF37
 refine st hF39 (.bool ((decide (u0.ID < 0)) || ((!u0.Long) && (decide (u0.ID > 2047))))) (nog rfl _) rfl (by kernel_rfl) (pk_or hF39 (g := []) (m := 0) (b := decide (u0.ID < 0)) (v := (!u0.Long) && (decide (u0.ID > 2047))) rfl (by kernel_rfl) (by kernel_rfl) (by kernel_rfl) rfl) ?_; intro a40 hF41; clear hF39
 refine s1 hF41 17 (.bool ((decide (u0.ID < 0)) || ((!u0.Long) && (decide (u0.ID > 2047))))) ?_; intro a42 hF43; clear hF41
 have hF44 := hF43.atom (((decide (u0.ID < 0)) || ((!u0.Long) && (decide (u0.ID > 2047)))) == false) (by kernel_rfl); clear hF43
 refine gp hF44 18 2 [] ((decide (u0.ID < 0)) || ((!u0.Long) && (decide (u0.ID > 2047)))) (.pointer (some ⟨b6, 0, none⟩)) rfl rfl ?_; intro a45 hF46; clear hF44
 refine gd hF46 (.int .i64 u0.ID) (m := 2) (cj := []) (bj := (decide (u0.ID < 0)) || ((!u0.Long) && (decide (u0.ID > 2047)))) rfl rfl (by kernel_rfl) rfl (by kernel_rfl) (by kernel_rfl) (by kernel_rfl) (fun hg => ld hF46 hM10 0 (g := [2]) (b := b6) (off := 0) (cs := [.int .i64 u0.ID, .bool u0.Long, .bool u0.Fast, .bool u0.Remote, .int .i64 u0.Size, .slice ao1 u0.Data.length cap2]) (ty := 58) rfl (by kernel_rfl) (by kernel_rfl) (by kernel_rfl) (by kernel_rfl) hg) ?_; intro a47 hF48; clear hF46
 refine gp hF48 20 2 [] ((decide (u0.ID < 0)) || ((!u0.Long) && (decide (u0.ID > 2047)))) (.bool (decide (u0.ID > 536870911))) rfl rfl ?_; intro a49 hF50; clear hF48
 refine st hF50 (.bool (((decide (u0.ID < 0)) || ((!u0.Long) && (decide (u0.ID > 2047)))) || (decide (u0.ID > 536870911)))) (nog rfl _) rfl (by kernel_rfl) (pk_or hF50 (g := []) (m := 2) (b := (decide (u0.ID < 0)) || ((!u0.Long) && (decide (u0.ID > 2047)))) (v := decide (u0.ID > 536870911)) rfl (by kernel_rfl) (by kernel_rfl) (by kernel_rfl) rfl) ?_; intro a51 hF52; clear hF50
 refine s1 hF52 3 (.bool (((decide (u0.ID < 0)) || ((!u0.Long) && (decide (u0.ID > 2047)))) || (decide (u0.ID > 536870911)))) ?_; intro a53 hF54; clear hF52
 refine nlH (hQ13 _ _ ?_); clear hQ13 hQ13Q
 refine cd hF54 (t := ((decide (u0.ID < 0)) || ((!u0.Long) && (decide (u0.ID > 2047)))) || (decide (u0.ID > 536870911))) (by kernel_rfl) (fun hb55 => ?_) (fun hb55 => ?_)
 ·
  have hp56 := hp4.1 hb55; clear hp4
  have hF57 : Fr 77 [] [] a53 := hF54.reg; clear hF54
  refine sqH ?_; intro hQ58Q hQ58
  refine s1 hF57 2 (.int .i64 3) ?_; intro a59 hF60; clear hF57
  refine nlH (hQ58 _ _ ?_); clear hQ58 hQ58Q
  refine wp_ret ?_
  refine ibr ?_
  refine thr ?_
  refine rt (fn := Try.f58) (v := .int .i64 3) hF60 (re1 hF60 (fn := Try.f58) rfl (by kernel_rfl)) ?_
  exact ⟨3, rfl, hp56, hM10.below⟩
 ·
  have hp61 := hp4.2 hb55; clear hp4
  have hF62 : Fr 77 [] [⟨1, [], .pointer (some ⟨b6, 0, none⟩)⟩] a53 := hF54.reg; clear hF54
  refine sqH ?_; intro hQ63Q hQ63
  refine s1 hF62 23 (.pointer (some ⟨b6, 3, none⟩)) ?_; intro a64 hF65; clear hF62
  refine l1 hF65 hM10 24 0 3 (.bool u0.Remote) rfl rfl ?_; intro a66 hF67; clear hF65
  refine s1 hF67 25 (.bool u0.Remote) ?_; intro a68 hF69; clear hF67
  have hF70 := hF69.atom (u0.Remote == true) (by kernel_rfl); clear hF69
  refine gp hF70 26 0 [] (u0.Remote) (.pointer (some ⟨b6, 2, none⟩)) rfl rfl ?_; intro a71 hF72; clear hF70
  refine gd hF72 (.bool u0.Fast) (m := 0) (cj := []) (bj := u0.Remote) rfl rfl (by kernel_rfl) rfl (by kernel_rfl) (by kernel_rfl) (by kernel_rfl) (fun hg => ld hF72 hM10 0 (g := [0]) (b := b6) (off := 2) (cs := [.int .i64 u0.ID, .bool u0.Long, .bool u0.Fast, .bool u0.Remote, .int .i64 u0.Size, .slice ao1 u0.Data.length cap2]) (ty := 58) rfl (by kernel_rfl) (by kernel_rfl) (by kernel_rfl) (by kernel_rfl) hg) ?_; intro a73 hF74; clear hF72
  refine gp hF74 28 0 [] (u0.Remote) (.bool u0.Fast) rfl rfl ?_; intro a75 hF76; clear hF74
  have hF77 := hF76.atom (u0.Fast == false) (by kernel_rfl); clear hF76
  refine gp hF77 29 1 [0] (u0.Fast) (.pointer (some ⟨b6, 5, none⟩)) rfl rfl ?_; intro a78 hF79; clear hF77
  refine gd hF79 (.slice ao1 u0.Data.length cap2) (m := 1) (cj := [0]) (bj := u0.Fast) rfl rfl (by kernel_rfl) rfl (by kernel_rfl) (by kernel_rfl) (by kernel_rfl) (fun hg => ld hF79 hM10 0 (g := [1, 0]) (b := b6) (off := 5) (cs := [.int .i64 u0.ID, .bool u0.Long, .bool u0.Fast, .bool u0.Remote, .int .i64 u0.Size, .slice ao1 u0.Data.length cap2]) (ty := 58) rfl (by kernel_rfl) (by kernel_rfl) (by kernel_rfl) (by kernel_rfl) hg) ?_; intro a80 hF81; clear hF79
  refine gp hF81 31 1 [0] (u0.Fast) (.int .i64 (u0.Data.length : Int)) rfl rfl ?_; intro a82 hF83; clear hF81
  refine gp hF83 32 1 [0] (u0.Fast) (.bool (decide ((u0.Data.length : Int) > 0))) rfl rfl ?_; intro a84 hF85; clear hF83
  refine gd hF85 (.bool (u0.Fast || (decide ((u0.Data.length : Int) > 0)))) (m := 0) (cj := []) (bj := u0.Remote) rfl rfl (by kernel_rfl) rfl (by kernel_rfl) (by kernel_rfl) (by kernel_rfl) (fun hg => pk_or hF85 (g := [0]) (m := 1) (b := u0.Fast) (v := decide ((u0.Data.length : Int) > 0)) rfl (by kernel_rfl) (by kernel_rfl) (by kernel_rfl) hg) ?_; intro a86 hF87; clear hF85
  refine st hF87 (.bool (u0.Remote && (u0.Fast || (decide ((u0.Data.length : Int) > 0))))) (nog rfl _) rfl (by kernel_rfl) (pk_and hF87 (g := []) (m := 0) (b := u0.Remote) (v := u0.Fast || (decide ((u0.Data.length : Int) > 0))) rfl (by kernel_rfl) (by kernel_rfl) (by kernel_rfl) rfl) ?_; intro a88 hF89; clear hF87
  refine s1 hF89 22 (.bool (u0.Remote && (u0.Fast || (decide ((u0.Data.length : Int) > 0))))) ?_; intro a90 hF91; clear hF89
  refine nlH (hQ63 _ _ ?_); clear hQ63 hQ63Q
  refine cd hF91 (t := u0.Remote && (u0.Fast || (decide ((u0.Data.length : Int) > 0)))) (by kernel_rfl) (fun hb92 => ?_) (fun hb92 => ?_)
  ·
   have hp93 := hp61.1 hb92; clear hp61
   have hF94 : Fr 77 [] [] a90 := hF91.reg; clear hF91
   refine sqH ?_; intro hQ95Q hQ95
   refine s1 hF94 2 (.int .i64 4) ?_; intro a96 hF97; clear hF94
   refine nlH (hQ95 _ _ ?_); clear hQ95 hQ95Q
   refine wp_ret ?_
   refine ibr ?_
   refine thr ?_
   refine rt (fn := Try.f58) (v := .int .i64 4) hF97 (re1 hF97 (fn := Try.f58) rfl (by kernel_rfl)) ?_
   exact ⟨4, rfl, hp93, hM10.below⟩
  ·
   have hp98 := hp61.2 hb92; clear hp61
   have hF99 : Fr 77 [] [⟨1, [], .pointer (some ⟨b6, 0, none⟩)⟩] a90 := hF91.reg; clear hF91
   refine sqH ?_; intro hQ100Q hQ100
   refine s1 hF99 36 (.pointer (some ⟨b6, 4, none⟩)) ?_; intro a101 hF102; clear hF99
   refine l1 hF102 hM10 37 0 4 (.int .i64 u0.Size) rfl rfl ?_; intro a103 hF104; clear hF102
   refine s1 hF104 38 (.bool (decide (u0.Size < 0))) ?_; intro a105 hF106; clear hF104
   refine s1 hF106 39 (.bool (decide (u0.Size < 0))) ?_; intro a107 hF108; clear hF106
   have hF109 := hF108.atom ((decide (u0.Size < 0)) == false) (by kernel_rfl); clear hF108
   refine gp hF109 40 0 [] (decide (u0.Size < 0)) (.pointer (some ⟨b6, 4, none⟩)) rfl rfl ?_; intro a110 hF111; clear hF109
   refine gd hF111 (.int .i64 u0.Size) (m := 0) (cj := []) (bj := decide (u0.Size < 0)) rfl rfl (by kernel_rfl) rfl (by kernel_rfl) (by kernel_rfl) (by kernel_rfl) (fun hg => ld hF111 hM10 0 (g := [0]) (b := b6) (off := 4) (cs := [.int .i64 u0.ID, .bool u0.Long, .bool u0.Fast, .bool u0.Remote, .int .i64 u0.Size, .slice ao1 u0.Data.length cap2]) (ty := 58) rfl (by kernel_rfl) (by kernel_rfl) (by kernel_rfl) (by kernel_rfl) hg) ?_; intro a112 hF113; clear hF111
   refine gp hF113 42 0 [] (decide (u0.Size < 0)) (.bool (decide (u0.Size > 8))) rfl rfl ?_; intro a114 hF115; clear hF113
   refine st hF115 (.bool ((decide (u0.Size < 0)) || (decide (u0.Size > 8)))) (nog rfl _) rfl (by kernel_rfl) (pk_or hF115 (g := []) (m := 0) (b := decide (u0.Size < 0)) (v := decide (u0.Size > 8)) rfl (by kernel_rfl) (by kernel_rfl) (by kernel_rfl) rfl) ?_; intro a116 hF117; clear hF115
   refine s1 hF117 44 (.bool ((decide (u0.Size < 0)) || (decide (u0.Size > 8)))) ?_; intro a118 hF119; clear hF117
   have hF120 := hF119.atom (((decide (u0.Size < 0)) || (decide (u0.Size > 8))) == false) (by kernel_rfl); clear hF119
   refine gp hF120 45 1 [] ((decide (u0.Size < 0)) || (decide (u0.Size > 8))) (.pointer (some ⟨b6, 3, none⟩)) rfl rfl ?_; intro a121 hF122; clear hF120
   refine gd hF122 (.bool u0.Remote) (m := 1) (cj := []) (bj := (decide (u0.Size < 0)) || (decide (u0.Size > 8))) rfl rfl (by kernel_rfl) rfl (by kernel_rfl) (by kernel_rfl) (by kernel_rfl) (fun hg => ld hF122 hM10 0 (g := [1]) (b := b6) (off := 3) (cs := [.int .i64 u0.ID, .bool u0.Long, .bool u0.Fast, .bool u0.Remote, .int .i64 u0.Size, .slice ao1 u0.Data.length cap2]) (ty := 58) rfl (by kernel_rfl) (by kernel_rfl) (by kernel_rfl) (by kernel_rfl) hg) ?_; intro a123 hF124; clear hF122
   refine gp hF124 47 1 [] ((decide (u0.Size < 0)) || (decide (u0.Size > 8))) (.bool (!u0.Remote)) rfl rfl ?_; intro a125 hF126; clear hF124
   refine gp hF126 48 1 [] ((decide (u0.Size < 0)) || (decide (u0.Size > 8))) (.bool (!u0.Remote)) rfl rfl ?_; intro a127 hF128; clear hF126
   have hF129 := hF128.atom ((!u0.Remote) == true) (by kernel_rfl); clear hF128
   refine gp hF129 49 2 [1] (!u0.Remote) (.pointer (some ⟨b6, 4, none⟩)) rfl rfl ?_; intro a130 hF131; clear hF129
   refine gd hF131 (.int .i64 u0.Size) (m := 2) (cj := [1]) (bj := !u0.Remote) rfl rfl (by kernel_rfl) rfl (by kernel_rfl) (by kernel_rfl) (by kernel_rfl) (fun hg => ld hF131 hM10 0 (g := [2, 1]) (b := b6) (off := 4) (cs := [.int .i64 u0.ID, .bool u0.Long, .bool u0.Fast, .bool u0.Remote, .int .i64 u0.Size, .slice ao1 u0.Data.length cap2]) (ty := 58) rfl (by kernel_rfl) (by kernel_rfl) (by kernel_rfl) (by kernel_rfl) hg) ?_; intro a132 hF133; clear hF131
   refine gp hF133 51 2 [1] (!u0.Remote) (.bool (u0.Size != 0)) rfl rfl ?_; intro a134 hF135; clear hF133
   refine gd hF135 (.bool ((!u0.Remote) && (u0.Size != 0))) (m := 1) (cj := []) (bj := (decide (u0.Size < 0)) || (decide (u0.Size > 8))) rfl rfl (by kernel_rfl) rfl (by kernel_rfl) (by kernel_rfl) (by kernel_rfl) (fun hg => pk_and hF135 (g := [1]) (m := 2) (b := !u0.Remote) (v := u0.Size != 0) rfl (by kernel_rfl) (by kernel_rfl) (by kernel_rfl) hg) ?_; intro a136 hF137; clear hF135
   refine st hF137 (.bool (((decide (u0.Size < 0)) || (decide (u0.Size > 8))) || ((!u0.Remote) && (u0.Size != 0)))) (nog rfl _) rfl (by kernel_rfl) (pk_or hF137 (g := []) (m := 1) (b := (decide (u0.Size < 0)) || (decide (u0.Size > 8))) (v := (!u0.Remote) && (u0.Size != 0)) rfl (by kernel_rfl) (by kernel_rfl) (by kernel_rfl) rfl) ?_; intro a138 hF139; clear hF137
   refine s1 hF139 35 (.bool (((decide (u0.Size < 0)) || (decide (u0.Size > 8))) || ((!u0.Remote) && (u0.Size != 0)))) ?_; intro a140 hF141; clear hF139
   refine nlH (hQ100 _ _ ?_); clear hQ100 hQ100Q
   refine cd hF141 (t := ((decide (u0.Size < 0)) || (decide (u0.Size > 8))) || ((!u0.Remote) && (u0.Size != 0))) (by kernel_rfl) (fun hb142 => ?_) (fun hb142 => ?_)
   ·
    have hp143 := hp98.1 hb142; clear hp98
    have hF144 : Fr 77 [] [] a140 := hF141.reg; clear hF141
    refine sqH ?_; intro hQ145Q hQ145
    refine s1 hF144 2 (.int .i64 3) ?_; intro a146 hF147; clear hF144
    refine nlH (hQ145 _ _ ?_); clear hQ145 hQ145Q
    refine wp_ret ?_
    refine ibr ?_
    refine thr ?_
    refine rt (fn := Try.f58) (v := .int .i64 3) hF147 (re1 hF147 (fn := Try.f58) rfl (by kernel_rfl)) ?_
    exact ⟨3, rfl, hp143, hM10.below⟩
   ·
    have hp148 := hp98.2 hb142; clear hp98
    have hF149 : Fr 77 [] [⟨1, [], .pointer (some ⟨b6, 0, none⟩)⟩] a140 := hF141.reg; clear hF141
    refine sqH ?_; intro hQ150Q hQ150
    refine s1 hF149 55 (.pointer (some ⟨b6, 5, none⟩)) ?_; intro a151 hF152; clear hF149
    refine l1 hF152 hM10 56 0 5 (.slice ao1 u0.Data.length cap2) rfl rfl ?_; intro a153 hF154; clear hF152
    refine s1 hF154 57 (.int .i64 (u0.Data.length : Int)) ?_; intro a155 hF156; clear hF154
    refine s1 hF156 58 (.bool (decide ((u0.Data.length : Int) > 64))) ?_; intro a157 hF158; clear hF156
    refine s1 hF158 59 (.bool (decide ((u0.Data.length : Int) > 64))) ?_; intro a159 hF160; clear hF158
    have hF161 := hF160.atom ((decide ((u0.Data.length : Int) > 64)) == false) (by kernel_rfl); clear hF160
    refine gp hF161 60 0 [] (decide ((u0.Data.length : Int) > 64)) (.pointer (some ⟨b6, 2, none⟩)) rfl rfl ?_; intro a162 hF163; clear hF161
    refine gd hF163 (.bool u0.Fast) (m := 0) (cj := []) (bj := decide ((u0.Data.length : Int) > 64)) rfl rfl (by kernel_rfl) rfl (by kernel_rfl) (by kernel_rfl) (by kernel_rfl) (fun hg => ld hF163 hM10 0 (g := [0]) (b := b6) (off := 2) (cs := [.int .i64 u0.ID, .bool u0.Long, .bool u0.Fast, .bool u0.Remote, .int .i64 u0.Size, .slice ao1 u0.Data.length cap2]) (ty := 58) rfl (by kernel_rfl) (by kernel_rfl) (by kernel_rfl) (by kernel_rfl) hg) ?_; intro a164 hF165; clear hF163
    refine gp hF165 62 0 [] (decide ((u0.Data.length : Int) > 64)) (.bool (!u0.Fast)) rfl rfl ?_; intro a166 hF167; clear hF165
    refine gp hF167 63 0 [] (decide ((u0.Data.length : Int) > 64)) (.bool (!u0.Fast)) rfl rfl ?_; intro a168 hF169; clear hF167
    have hF170 := hF169.atom ((!u0.Fast) == true) (by kernel_rfl); clear hF169
    refine gp hF170 64 1 [0] (!u0.Fast) (.pointer (some ⟨b6, 5, none⟩)) rfl rfl ?_; intro a171 hF172; clear hF170
    refine gd hF172 (.slice ao1 u0.Data.length cap2) (m := 1) (cj := [0]) (bj := !u0.Fast) rfl rfl (by kernel_rfl) rfl (by kernel_rfl) (by kernel_rfl) (by kernel_rfl) (fun hg => ld hF172 hM10 0 (g := [1, 0]) (b := b6) (off := 5) (cs := [.int .i64 u0.ID, .bool u0.Long, .bool u0.Fast, .bool u0.Remote, .int .i64 u0.Size, .slice ao1 u0.Data.length cap2]) (ty := 58) rfl (by kernel_rfl) (by kernel_rfl) (by kernel_rfl) (by kernel_rfl) hg) ?_; intro a173 hF174; clear hF172
    refine gp hF174 66 1 [0] (!u0.Fast) (.int .i64 (u0.Data.length : Int)) rfl rfl ?_; intro a175 hF176; clear hF174
    refine gp hF176 67 1 [0] (!u0.Fast) (.bool (decide ((u0.Data.length : Int) > 8))) rfl rfl ?_; intro a177 hF178; clear hF176
    refine gd hF178 (.bool ((!u0.Fast) && (decide ((u0.Data.length : Int) > 8)))) (m := 0) (cj := []) (bj := decide ((u0.Data.length : Int) > 64)) rfl rfl (by kernel_rfl) rfl (by kernel_rfl) (by kernel_rfl) (by kernel_rfl) (fun hg => pk_and hF178 (g := [0]) (m := 1) (b := !u0.Fast) (v := decide ((u0.Data.length : Int) > 8)) rfl (by kernel_rfl) (by kernel_rfl) (by kernel_rfl) hg) ?_; intro a179 hF180; clear hF178
    refine st hF180 (.bool ((decide ((u0.Data.length : Int) > 64)) || ((!u0.Fast) && (decide ((u0.Data.length : Int) > 8))))) (nog rfl _) rfl (by kernel_rfl) (pk_or hF180 (g := []) (m := 0) (b := decide ((u0.Data.length : Int) > 64)) (v := (!u0.Fast) && (decide ((u0.Data.length : Int) > 8))) rfl (by kernel_rfl) (by kernel_rfl) (by kernel_rfl) rfl) ?_; intro a181 hF182; clear hF180
    refine s1 hF182 54 (.bool ((decide ((u0.Data.length : Int) > 64)) || ((!u0.Fast) && (decide ((u0.Data.length : Int) > 8))))) ?_; intro a183 hF184; clear hF182
    refine nlH (hQ150 _ _ ?_); clear hQ150 hQ150Q
    refine cd hF184 (t := (decide ((u0.Data.length : Int) > 64)) || ((!u0.Fast) && (decide ((u0.Data.length : Int) > 8)))) (by kernel_rfl) (fun hb185 => ?_) (fun hb185 => ?_)
    ·
     have hp186 := hp148.1 hb185; clear hp148
     have hF187 : Fr 77 [] [] a183 := hF184.reg; clear hF184
     refine sqH ?_; intro hQ188Q hQ188
     refine s1 hF187 2 (.int .i64 2) ?_; intro a189 hF190; clear hF187
     refine nlH (hQ188 _ _ ?_); clear hQ188 hQ188Q
     refine wp_ret ?_
     refine ibr ?_
     refine thr ?_
     refine rt (fn := Try.f58) (v := .int .i64 2) hF190 (re1 hF190 (fn := Try.f58) rfl (by kernel_rfl)) ?_
     exact ⟨2, rfl, hp186, hM10.below⟩
    ·
     have hp191 := hp148.2 hb185; clear hp148
     have hF192 : Fr 77 [] [⟨1, [], .pointer (some ⟨b6, 0, none⟩)⟩] a183 := hF184.reg; clear hF184
     refine wp_seq (any_invE mixed [[], [], [1], [2], [0, 3], [4], [4, 5]] 7 (fun S a w1 => ∃ (ao197 : Option Addr) (cap198 : Nat) (ud70 : Value) (ud71 : Value) (ud72 : Value) (ud73 : Value) (ud74 : Value) (ud75 : Value) (ud76 : Value) (rh0 : Res) (rh1 : Res) (Z221 : Fz), Fz.le Z Z221 ∧ Fr 77 [] [⟨1, [], .pointer (some ⟨b6, 0, none⟩)⟩, ⟨70, [], ud70⟩, ⟨71, [], ud71⟩, ⟨72, [], ud72⟩, ⟨73, [], ud73⟩, ⟨74, [], ud74⟩, ⟨75, [], ud75⟩, ⟨76, [], ud76⟩] a ∧ Mem w.heap.size [] w Z [rh0, rh1] Z221 w1 ∧ (S 6 = true → ud70 = .bool (!(scontainsS fsizes (u0.Data.length : Int)))) ∧ (S 0 = true → ud71 = .slice ao197 fsizes.length cap198) ∧ (S 1 = true → ud72 = .pointer (some ⟨b6, 5, none⟩)) ∧ (S 2 = true → ud73 = .slice ao1 u0.Data.length cap2) ∧ (S 3 = true → ud74 = .int .i64 (u0.Data.length : Int)) ∧ (S 4 = true → ud75 = .bool (scontainsS fsizes (u0.Data.length : Int))) ∧ (S 5 = true → ud76 = .bool (!(scontainsS fsizes (u0.Data.length : Int)))) ∧ (rh0 = .row b6 [.int .i64 u0.ID, .bool u0.Long, .bool u0.Fast, .bool u0.Remote, .int .i64 u0.Size, .slice ao1 u0.Data.length cap2] 58) ∧ (S 0 = false → rh1 = .nil) ∧ (S 0 = true → S 4 = false → rh1 = .own (tyInt .i64) 3 ao197 cap198 fsizes) ∧ (S 4 = true → rh1 = .nil) ∧ (S 4 = true → SlR (tyInt .i64) Z221 ao197 cap198 fsizes)) ?h0 ?hs ?hE)
     case h0 =>
      have hF223 := hF192.any 70
      have hF224 := hF223.any 71
      have hF225 := hF224.any 72
      have hF226 := hF225.any 73
      have hF227 := hF226.any 74
      have hF228 := hF227.any 75
      have hF229 := hF228.any 76
      have hM230 := hM10.nilRes
      have hM231 := (hM230.perm ((pk 1 rfl).trans (lpr.cons _))).drew
      exact ⟨none, 0, a183.tmps.getD 70 undef, a183.tmps.getD 71 undef, a183.tmps.getD 72 undef, a183.tmps.getD 73 undef, a183.tmps.getD 74 undef, a183.tmps.getD 75 undef, a183.tmps.getD 76 undef, .row b6 [.int .i64 u0.ID, .bool u0.Long, .bool u0.Fast, .bool u0.Remote, .int .i64 u0.Size, .slice ao1 u0.Data.length cap2] 58, .nil, Z, Fz.le.refl _, hF229.reg, hM231, ff, ff, ff, ff, ff, ff, ff, rfl, kf, ff, ff, ff⟩
     case hs =>
      intro S hcl i o hil hi hSi hpre a w1 hI; refine Go.Sy.hid ?_; intro G hG; obtain ⟨ao197, cap198, ud70, ud71, ud72, ud73, ud74, ud75, ud76, rh0, rh1, Z221, hle222, hFx, hMx, cu70, cu71, cu72, cu73, cu74, cu75, cu76, cr0_0, cr1_0, cr1_1, cr1_2, hI⟩ := hI; have cf0 := hI; clear hI
      have hcase : i = 0 ∨ i = 1 ∨ i = 2 ∨ i = 3 ∨ i = 4 ∨ i = 5 ∨ i = 6 := by clear hi; omega
      rcases hcase with rfl | rfl | rfl | rfl | rfl | rfl | rfl
      ·
       obtain rfl := oj hi
       have hx0 := hSi
       have hx4 := ngF hcl 4 0 hx0
       have hx5 := ngF hcl 5 4 hx4
       have hx6 := ngF hcl 6 4 hx4
       obtain rfl := cr0_0
       obtain rfl := cr1_0 hx0
       refine hG (any_step ?_); clear hG G; intro A J hJ
       have hle0 := Fz.le.trans hle0 hle222
       have hzst := Fz.le.refl Z221
       have hs232 := hs3.mono hle222
       have hM233 := hMx.keep (List.Sublist.cons_cons _ (List.Sublist.cons _ (List.Sublist.slnil))); clear hMx
       refine cl hFx 91 #[] (nog rfl _) rfl (by kernel_rfl) (by kernel_rfl) ?_
       refine (fsizes_fun  _ _ hM233.fz).mono ?_; rintro _ wd234 ⟨ao238, cap239, Z240, rfl, hm⟩; refine ⟨_, rfl, ?_⟩; intro a235 hF236; have hM237 := hM233.callZ hm; have hle241 := hm.ext.le; clear hm hM233 hFx
       replace hzst := hzst.mono hle241
       replace hs232 := hs232.mono hle241
       replace hle0 := Fz.le.trans hle0 hle241
       have hM242 : Mem w.heap.size [] w Z [.own (tyInt .i64) 3 ao238 cap239 fsizes, .row b6 [.int .i64 u0.ID, .bool u0.Long, .bool u0.Fast, .bool u0.Remote, .int .i64 u0.Size, .slice ao1 u0.Data.length cap2] 58] Z240 wd234 := hM237; clear hM237
       refine nl (qnI (hJ _ _ ?_)); clear hJ J
       exact ⟨ao238, cap239, ud70, .slice ao238 fsizes.length cap239, ud72, ud73, ud74, ud75, ud76, .row b6 [.int .i64 u0.ID, .bool u0.Long, .bool u0.Fast, .bool u0.Remote, .int .i64 u0.Size, .slice ao1 u0.Data.length cap2] 58, .own (tyInt .i64) 3 ao238 cap239 fsizes, Z240, hle222.trans hzst, hF236.reg, hM242.perm ((pk 1 rfl).trans (lpr.cons _)), (nt hx6), kf, cu72, cu73, cu74, (nt hx4), (nt hx5), rfl, nu, kf2, (nt hx4), (nt hx4)⟩
      ·
       obtain rfl := oj hi
       have hx1 := hSi
       have hx2 := ngF hcl 2 1 hx1
       have hx3 := ngF hcl 3 2 hx2
       have hx4 := ngF hcl 4 3 hx3
       have hx5 := ngF hcl 5 4 hx4
       have hx6 := ngF hcl 6 4 hx4
       obtain rfl := cr0_0
       refine hG (any_step ?_); clear hG G; intro A J hJ
       have hle0 := Fz.le.trans hle0 hle222
       have hzst := Fz.le.refl Z221
       have hs244 := hs3.mono hle222
       refine s1 hFx 72 (.pointer (some ⟨b6, 5, none⟩)) ?_; intro a245 hF246; clear hFx
       refine nl (qnI (hJ _ _ ?_)); clear hJ J
       exact ⟨ao197, cap198, ud70, ud71, .pointer (some ⟨b6, 5, none⟩), ud73, ud74, ud75, ud76, .row b6 [.int .i64 u0.ID, .bool u0.Long, .bool u0.Fast, .bool u0.Remote, .int .i64 u0.Size, .slice ao1 u0.Data.length cap2] 58, rh1, Z221, hle222, hF246.reg, hMx.perm lpr, (nt hx6), cu71, kf, (nt hx2), (nt hx3), (nt hx4), (nt hx5), rfl, cr1_0, cr1_1, (nt hx4), (nt hx4)⟩
      ·
       obtain rfl := oj hi
       have hx1 := hpre 1 (by kernel_rfl)
       have hx2 := hSi
       have hx3 := ngF hcl 3 2 hx2
       have hx4 := ngF hcl 4 3 hx3
       have hx5 := ngF hcl 5 4 hx4
       have hx6 := ngF hcl 6 4 hx4
       obtain rfl := cu72 hx1
       obtain rfl := cr0_0
       refine hG (any_step ?_); clear hG G; intro A J hJ
       have hle0 := Fz.le.trans hle0 hle222
       have hzst := Fz.le.refl Z221
       have hs248 := hs3.mono hle222
       refine l1 hFx hMx 73 0 5 (.slice ao1 u0.Data.length cap2) rfl rfl ?_; intro a249 hF250; clear hFx
       refine nl (qnI (hJ _ _ ?_)); clear hJ J
       exact ⟨ao197, cap198, ud70, ud71, .pointer (some ⟨b6, 5, none⟩), .slice ao1 u0.Data.length cap2, ud74, ud75, ud76, .row b6 [.int .i64 u0.ID, .bool u0.Long, .bool u0.Fast, .bool u0.Remote, .int .i64 u0.Size, .slice ao1 u0.Data.length cap2] 58, rh1, Z221, hle222, hF250.reg, hMx.perm lpr, (nt hx6), cu71, kf, kf, (nt hx3), (nt hx4), (nt hx5), rfl, cr1_0, cr1_1, (nt hx4), (nt hx4)⟩
      ·
       obtain rfl := oj hi
       have hx2 := hpre 2 (by kernel_rfl)
       have hx1 := hcl 2 1 (by kernel_rfl) hx2
       have hx3 := hSi
       have hx4 := ngF hcl 4 3 hx3
       have hx5 := ngF hcl 5 4 hx4
       have hx6 := ngF hcl 6 4 hx4
       obtain rfl := cu72 hx1
       obtain rfl := cu73 hx2
       obtain rfl := cr0_0
       refine hG (any_step ?_); clear hG G; intro A J hJ
       have hle0 := Fz.le.trans hle0 hle222
       have hzst := Fz.le.refl Z221
       have hs252 := hs3.mono hle222
       refine s1 hFx 74 (.int .i64 (u0.Data.length : Int)) ?_; intro a253 hF254; clear hFx
       refine nl (qnI (hJ _ _ ?_)); clear hJ J
       exact ⟨ao197, cap198, ud70, ud71, .pointer (some ⟨b6, 5, none⟩), .slice ao1 u0.Data.length cap2, .int .i64 (u0.Data.length : Int), ud75, ud76, .row b6 [.int .i64 u0.ID, .bool u0.Long, .bool u0.Fast, .bool u0.Remote, .int .i64 u0.Size, .slice ao1 u0.Data.length cap2] 58, rh1, Z221, hle222, hF254.reg, hMx.perm lpr, (nt hx6), cu71, kf, kf, kf, (nt hx4), (nt hx5), rfl, cr1_0, cr1_1, (nt hx4), (nt hx4)⟩
      ·
       obtain rfl := oj hi
       have hx3 := hpre 3 (by kernel_rfl)
       have hx0 := hpre 0 (by kernel_rfl)
       have hx2 := hcl 3 2 (by kernel_rfl) hx3
       have hx1 := hcl 2 1 (by kernel_rfl) hx2
       have hx4 := hSi
       have hx5 := ngF hcl 5 4 hx4
       have hx6 := ngF hcl 6 4 hx4
       obtain rfl := cu71 hx0
       obtain rfl := cu72 hx1
       obtain rfl := cu73 hx2
       obtain rfl := cu74 hx3
       obtain rfl := cr0_0
       obtain rfl := cr1_1 hx0 hx4
       refine hG (any_step ?_); clear hG G; intro A J hJ
       have hle0 := Fz.le.trans hle0 hle222
       have hzst := Fz.le.refl Z221
       have hs256 := hs3.mono hle222
       obtain ⟨Z257, hle258, hM259, hs260⟩ := hMx.freeze 1 rfl
       replace hzst := hzst.mono hle258
       replace hs256 := hs256.mono hle258
       replace hle0 := Fz.le.trans hle0 hle258
       have hM261 : Mem w.heap.size [] w Z [.row b6 [.int .i64 u0.ID, .bool u0.Long, .bool u0.Fast, .bool u0.Remote, .int .i64 u0.Size, .slice ao1 u0.Data.length cap2] 58] Z257 w1 := hM259; clear hM259
       refine fcl hFx hM261 (.bool (scontainsS fsizes (u0.Data.length : Int))) 70 #[.slice ao197 fsizes.length cap198, .int .i64 (u0.Data.length : Int)] (nog rfl _) rfl (by kernel_rfl) (fun _ => by kernel_rfl) (scontains_fun fsizes (u0.Data.length : Int) ao197 cap198 _ _ hs260 hM261.fz) ?_; intro a262 wd264 hF263 hM265; clear hFx hM261
       refine nl (qnI (hJ _ _ ?_)); clear hJ J
       have hM266 := hM265.nilRes
       exact ⟨ao197, cap198, ud70, .slice ao197 fsizes.length cap198, .pointer (some ⟨b6, 5, none⟩), .slice ao1 u0.Data.length cap2, .int .i64 (u0.Data.length : Int), .bool (scontainsS fsizes (u0.Data.length : Int)), ud76, .row b6 [.int .i64 u0.ID, .bool u0.Long, .bool u0.Fast, .bool u0.Remote, .int .i64 u0.Size, .slice ao1 u0.Data.length cap2] 58, .nil, Z257, hle222.trans hzst, hF263.reg, hM266.perm ((pk 1 rfl).trans (lpr.cons _)), (nt hx6), kf, kf, kf, kf, kf, (nt hx5), rfl, (tn hx0), (fun _ => nu), kf, (fun _ => hs260)⟩
      ·
       obtain rfl := oj hi
       have hx4 := hpre 4 (by kernel_rfl)
       have hx3 := hcl 4 3 (by kernel_rfl) hx4
       have hx0 := hcl 4 0 (by kernel_rfl) hx4
       have hx2 := hcl 3 2 (by kernel_rfl) hx3
       have hx1 := hcl 2 1 (by kernel_rfl) hx2
       have hx5 := hSi
       have hx6 := ngF hcl 6 5 hx5
       obtain rfl := cu71 hx0
       obtain rfl := cu72 hx1
       obtain rfl := cu73 hx2
       obtain rfl := cu74 hx3
       obtain rfl := cu75 hx4
       obtain rfl := cr0_0
       obtain rfl := cr1_2 hx4
       refine hG (any_step ?_); clear hG G; intro A J hJ
       have hle0 := Fz.le.trans hle0 hle222
       have hzst := Fz.le.refl Z221
       have hs268 := hs3.mono hle222
       have hs269 := cf0 hx4
       have hM270 := hMx.keep (List.Sublist.cons_cons _ (List.Sublist.cons _ (List.Sublist.slnil))); clear hMx
       refine s1 hFx 76 (.bool (!(scontainsS fsizes (u0.Data.length : Int)))) ?_; intro a271 hF272; clear hFx
       refine nl (qnI (hJ _ _ ?_)); clear hJ J
       have hM273 := hM270.nilRes
       exact ⟨ao197, cap198, ud70, .slice ao197 fsizes.length cap198, .pointer (some ⟨b6, 5, none⟩), .slice ao1 u0.Data.length cap2, .int .i64 (u0.Data.length : Int), .bool (scontainsS fsizes (u0.Data.length : Int)), .bool (!(scontainsS fsizes (u0.Data.length : Int))), .row b6 [.int .i64 u0.ID, .bool u0.Long, .bool u0.Fast, .bool u0.Remote, .int .i64 u0.Size, .slice ao1 u0.Data.length cap2] 58, .nil, Z221, hle222, hF272.reg, hM273.perm ((pk 1 rfl).trans (lpr.cons _)), (nt hx6), kf, kf, kf, kf, kf, kf, rfl, (tn hx0), (fun _ => tn hx4), kf, (fun _ => hs269)⟩
      ·
       obtain rfl := oj hi
       have hx5 := hpre 5 (by kernel_rfl)
       have hx4 := hpre 4 (by kernel_rfl)
       have hx3 := hcl 4 3 (by kernel_rfl) hx4
       have hx0 := hcl 4 0 (by kernel_rfl) hx4
       have hx2 := hcl 3 2 (by kernel_rfl) hx3
       have hx1 := hcl 2 1 (by kernel_rfl) hx2
       have hx6 := hSi
       obtain rfl := cu71 hx0
       obtain rfl := cu72 hx1
       obtain rfl := cu73 hx2
       obtain rfl := cu74 hx3
       obtain rfl := cu75 hx4
       obtain rfl := cu76 hx5
       obtain rfl := cr0_0
       obtain rfl := cr1_2 hx4
       refine hG (any_step ?_); clear hG G; intro A J hJ
       have hle0 := Fz.le.trans hle0 hle222
       have hzst := Fz.le.refl Z221
       have hs275 := hs3.mono hle222
       have hs276 := cf0 hx4
       have hM277 := hMx.keep (List.Sublist.cons_cons _ (List.Sublist.cons _ (List.Sublist.slnil))); clear hMx
       refine s1 hFx 70 (.bool (!(scontainsS fsizes (u0.Data.length : Int)))) ?_; intro a278 hF279; clear hFx
       refine nl (qnI (hJ _ _ ?_)); clear hJ J
       have hM280 := hM277.nilRes
       exact ⟨ao197, cap198, .bool (!(scontainsS fsizes (u0.Data.length : Int))), .slice ao197 fsizes.length cap198, .pointer (some ⟨b6, 5, none⟩), .slice ao1 u0.Data.length cap2, .int .i64 (u0.Data.length : Int), .bool (scontainsS fsizes (u0.Data.length : Int)), .bool (!(scontainsS fsizes (u0.Data.length : Int))), .row b6 [.int .i64 u0.ID, .bool u0.Long, .bool u0.Fast, .bool u0.Remote, .int .i64 u0.Size, .slice ao1 u0.Data.length cap2] 58, .nil, Z221, hle222, hF279.reg, hM280.perm ((pk 1 rfl).trans (lpr.cons _)), kf, kf, kf, kf, kf, kf, kf, rfl, (tn hx0), (fun _ => tn hx4), kf, (fun _ => hs276)⟩
     case hE =>
      intro S hS a282 wd283 hI; refine Go.Sy.hid ?_; intro G hG; obtain ⟨ao197, cap198, ud70, ud71, ud72, ud73, ud74, ud75, ud76, rh0, rh1, Z221, hle222, hFx, hMx, cu70, cu71, cu72, cu73, cu74, cu75, cu76, cr0_0, cr1_0, cr1_1, cr1_2, hI⟩ := hI; have cf0 := hI; clear hI; refine hG ?_; clear hG G
      obtain rfl := cu70 (hS 6 (by decide))
      obtain rfl := cu71 (hS 0 (by decide))
      obtain rfl := cu72 (hS 1 (by decide))
      obtain rfl := cu73 (hS 2 (by decide))
      obtain rfl := cu74 (hS 3 (by decide))
      obtain rfl := cu75 (hS 4 (by decide))
      obtain rfl := cu76 (hS 5 (by decide))
      obtain rfl := cr0_0
      obtain rfl := cr1_2 (hS 4 (by decide))
      have hle0 := Fz.le.trans hle0 hle222
      have hs284 := hs3.mono hle222
      have hs285 := cf0 (hS 4 (by decide))
      have hMx := hMx.keep (List.Sublist.cons_cons _ (List.Sublist.cons _ (List.Sublist.slnil)))
      refine thn ?_
      refine cd hFx (t := !(scontainsS fsizes (u0.Data.length : Int))) (by kernel_rfl) (fun hb286 => ?_) (fun hb286 => ?_)
      ·
       have hp287 := hp191.1 hb286; clear hp191
       have hF288 : Fr 77 [] [] a282 := hFx.reg; clear hFx
       refine sqH ?_; intro hQ289Q hQ289
       refine s1 hF288 2 (.int .i64 4) ?_; intro a290 hF291; clear hF288
       refine nlH (hQ289 _ _ ?_); clear hQ289 hQ289Q
       refine wp_ret ?_
       refine ibr ?_
       refine thr ?_
       refine rt (fn := Try.f58) (v := .int .i64 4) hF291 (re1 hF291 (fn := Try.f58) rfl (by kernel_rfl)) ?_
       exact ⟨4, rfl, hp287, hMx.below⟩
      ·
       have hp292 := hp191.2 hb286; clear hp191
       refine wp_skip ?_
       refine ibn ?_
       refine thn ?_
       have hF293 : Fr 77 [] [] a282 := hFx.reg; clear hFx
       refine sqH ?_; intro hQ294Q hQ294
       refine s1 hF293 2 (.int .i64 0) ?_; intro a295 hF296; clear hF293
       refine nlH (hQ294 _ _ ?_); clear hQ294 hQ294Q
       refine wp_ret ?_
       refine rt (fn := Try.f58) (v := .int .i64 0) hF296 (re1 hF296 (fn := Try.f58) rfl (by kernel_rfl)) ?_
       exact ⟨0, rfl, hp292, hMx.below⟩
theorem fcheckfr_fun (u0 : Frame) (ao1 : Option Addr) (cap2 : Nat) (Z : Fz) (w : World) (hs3 : SlR (tyInt .u8) Z ao1 cap2 u0.Data) (hZ : Z.on w) : Calls Try.prog 58 #[.agg #[.int .i64 u0.ID, .bool u0.Long, .bool u0.Fast, .bool u0.Remote, .int .i64 u0.Size, .slice ao1 u0.Data.length cap2]] w fun e w' => e = .returned (.int .i64 (fcheckfr u0)) ∧ Below w.heap.size w w' :=
  (fcheckfr_walk u0 ao1 cap2 Z w hs3 hZ (fcheckfr_ok u0)).mono fun _ _ ⟨r, he, hk, hb⟩ => ⟨by subst hk; exact he, hb⟩

set_option maxRecDepth 100000 in
set_option maxHeartbeats 0 in
theorem csize_walk (u0 : Int)  (Z : Fz) (w : World)  (hZ : Z.on w) {K : (Int × Int) → Prop} (hp : csize_vc u0 K) : Calls Try.prog 89 #[.int .i64 u0] w fun e w' => ∃ r : Int × Int, e = .returned (.tuple #[.int .i64 r.1, .int .i64 r.2]) ∧ K r ∧ Below w.heap.size w w' := by
 refine enter0 Try.func89 rfl rfl (by kernel_rfl) ?_; intro a0 hF0; have hM0 := Mem.start w Z hZ; have hle0 := Fz.le.refl Z
 refine sqH ?_; intro hQ1Q hQ1
 refine s1 hF0 2 (.int .i64 0) ?_; intro a2 hF3; clear hF0
 refine s1 hF3 3 (.int .i64 0) ?_; intro a4 hF5; clear hF3
 refine nlH (hQ1 _ _ ?_); clear hQ1 hQ1Q
 refine wp_seq ?_
 refine sqH ?_; intro hQ6Q hQ6
 refine s1 hF5 4 (.int .i64 u0) ?_; intro a7 hF8; clear hF5
 refine s1 hF8 5 (.bool (decide (u0 < 0))) ?_; intro a9 hF10; clear hF8
 refine s1 hF10 6 (.bool (decide (u0 < 0))) ?_; intro a11 hF12; clear hF10
 have hF13 := hF12.atom ((decide (u0 < 0)) == false) (by kernel_rfl); clear hF12
 refine gp hF13 7 0 [] (decide (u0 < 0)) (.int .i64 u0) rfl rfl ?_; intro a14 hF15; clear hF13
 refine gcl hF15 hM0 (.agg #[.int .i64 ckinds.1.Size, .int .u64 ckinds.1.Poly, .int .u64 ckinds.1.From, .int .u64 ckinds.1.End, .int .i64 ckinds.2.1.Size, .int .u64 ckinds.2.1.Poly, .int .u64 ckinds.2.1.From, .int .u64 ckinds.2.1.End, .int .i64 ckinds.2.2.1.Size, .int .u64 ckinds.2.2.1.Poly, .int .u64 ckinds.2.2.1.From, .int .u64 ckinds.2.2.1.End, .int .i64 ckinds.2.2.2.1.Size, .int .u64 ckinds.2.2.2.1.Poly, .int .u64 ckinds.2.2.2.1.From, .int .u64 ckinds.2.2.2.1.End, .int .i64 ckinds.2.2.2.2.Size, .int .u64 ckinds.2.2.2.2.Poly, .int .u64 ckinds.2.2.2.2.From, .int .u64 ckinds.2.2.2.2.End]) 116 #[] (m := 0) (cj := []) (bj := decide (u0 < 0)) rfl rfl (by kernel_rfl) rfl (by kernel_rfl) (by kernel_rfl) (by kernel_rfl) (fun _ => by kernel_rfl) (fun hg => ckinds_fun  _ _ hM0.fz) ?_; intro a16 wd18 hF17 hM19; clear hF15 hM0
 refine gp hF17 9 0 [] (decide (u0 < 0)) (.int .i64 5) rfl rfl ?_; intro a20 hF21; clear hF17
 refine gp hF21 10 0 [] (decide (u0 < 0)) (.bool (decide (u0 ≥ 5))) rfl rfl ?_; intro a22 hF23; clear hF21
 refine st hF23 (.bool ((decide (u0 < 0)) || (decide (u0 ≥ 5)))) (nog rfl _) rfl (by kernel_rfl) (pk_or hF23 (g := []) (m := 0) (b := decide (u0 < 0)) (v := decide (u0 ≥ 5)) rfl (by kernel_rfl) (by kernel_rfl) (by kernel_rfl) rfl) ?_; intro a24 hF25; clear hF23
 refine nlH (hQ6 _ _ ?_); clear hQ6 hQ6Q
 refine cd hF25 (t := (decide (u0 < 0)) || (decide (u0 ≥ 5))) (by kernel_rfl) (fun hb26 => ?_) (fun hb26 => ?_)
 ·
  have hp27 := hp.1 hb26; clear hp
  have hF28 : Fr 16 [] [] a24 := hF25.reg; clear hF25
  refine sqH ?_; intro hQ29Q hQ29
  refine s1 hF28 2 (.int .i64 0) ?_; intro a30 hF31; clear hF28
  refine s1 hF31 3 (.int .i64 8) ?_; intro a32 hF33; clear hF31
  refine nlH (hQ29 _ _ ?_); clear hQ29 hQ29Q
  refine wp_ret ?_
  refine thr ?_
  refine rt (fn := Try.f89) (v := .tuple #[.int .i64 0, .int .i64 8]) hF33 (re2 hF33 (fn := Try.f89) rfl (by kernel_rfl) (by kernel_rfl)) ?_
  exact ⟨(0, 8), rfl, hp27, hM19.below⟩
 ·
  have hp34 := hp.2 hb26; clear hp
  refine wp_skip ?_
  refine thn ?_
  have hF35 : Fr 16 [] [⟨0, [], .int .i64 u0⟩] a24 := hF25.reg; clear hF25
  refine sqH ?_; intro hQ36Q hQ36
  refine fcl hF35 hM19 (.agg #[.int .i64 ckinds.1.Size, .int .u64 ckinds.1.Poly, .int .u64 ckinds.1.From, .int .u64 ckinds.1.End, .int .i64 ckinds.2.1.Size, .int .u64 ckinds.2.1.Poly, .int .u64 ckinds.2.1.From, .int .u64 ckinds.2.1.End, .int .i64 ckinds.2.2.1.Size, .int .u64 ckinds.2.2.1.Poly, .int .u64 ckinds.2.2.1.From, .int .u64 ckinds.2.2.1.End, .int .i64 ckinds.2.2.2.1.Size, .int .u64 ckinds.2.2.2.1.Poly, .int .u64 ckinds.2.2.2.1.From, .int .u64 ckinds.2.2.2.1.End, .int .i64 ckinds.2.2.2.2.Size, .int .u64 ckinds.2.2.2.2.Poly, .int .u64 ckinds.2.2.2.2.From, .int .u64 ckinds.2.2.2.2.End]) 116 #[] (nog rfl _) rfl (by kernel_rfl) (fun _ => by kernel_rfl) (ckinds_fun  _ _ hM19.fz) ?_; intro a37 wd39 hF38 hM40; clear hF35 hM19
  refine s1 hF38 13 (.int .i64 u0) ?_; intro a41 hF42; clear hF38
  have hc43 := hp34.1; have hp44 := hp34.2; clear hp34
  have hix : ∀ x : Int, 0 ≤ x ∧ x < 5 → x = 0 ∨ x = 1 ∨ x = 2 ∨ x = 3 ∨ x = 4 := by intro x hx; omega
  refine st hF42 (.agg #[.int .i64 (([ckinds.1.Size, ckinds.2.1.Size, ckinds.2.2.1.Size, ckinds.2.2.2.1.Size, ckinds.2.2.2.2.Size] : List Int).getD u0.toNat 0), .int .u64 (([ckinds.1.Poly, ckinds.2.1.Poly, ckinds.2.2.1.Poly, ckinds.2.2.2.1.Poly, ckinds.2.2.2.2.Poly] : List Int).getD u0.toNat 0), .int .u64 (([ckinds.1.From, ckinds.2.1.From, ckinds.2.2.1.From, ckinds.2.2.2.1.From, ckinds.2.2.2.2.From] : List Int).getD u0.toNat 0), .int .u64 (([ckinds.1.End, ckinds.2.1.End, ckinds.2.2.1.End, ckinds.2.2.2.1.End, ckinds.2.2.2.2.End] : List Int).getD u0.toNat 0)]) (nog rfl _) rfl (by kernel_rfl) ((by generalize u0 = ix at *; rcases hix _ hc43 with rfl | rfl | rfl | rfl | rfl <;> exact p0 hF42 (by kernel_rfl))) ?_; intro a45 hF46; clear hF42
  refine s1 hF46 15 (.int .i64 (([ckinds.1.Size, ckinds.2.1.Size, ckinds.2.2.1.Size, ckinds.2.2.2.1.Size, ckinds.2.2.2.2.Size] : List Int).getD u0.toNat 0)) ?_; intro a47 hF48; clear hF46
  refine s1 hF48 2 (.int .i64 (([ckinds.1.Size, ckinds.2.1.Size, ckinds.2.2.1.Size, ckinds.2.2.2.1.Size, ckinds.2.2.2.2.Size] : List Int).getD u0.toNat 0)) ?_; intro a49 hF50; clear hF48
  refine s1 hF50 3 (.int .i64 0) ?_; intro a51 hF52; clear hF50
  refine nlH (hQ36 _ _ ?_); clear hQ36 hQ36Q
  refine wp_ret ?_
  refine rt (fn := Try.f89) (v := .tuple #[.int .i64 (([ckinds.1.Size, ckinds.2.1.Size, ckinds.2.2.1.Size, ckinds.2.2.2.1.Size, ckinds.2.2.2.2.Size] : List Int).getD u0.toNat 0), .int .i64 0]) hF52 (re2 hF52 (fn := Try.f89) rfl (by kernel_rfl) (by kernel_rfl)) ?_
  exact ⟨(([ckinds.1.Size, ckinds.2.1.Size, ckinds.2.2.1.Size, ckinds.2.2.2.1.Size, ckinds.2.2.2.2.Size] : List Int).getD u0.toNat 0, 0), rfl, hp44, hM40.below⟩
theorem csize_fun (u0 : Int)  (Z : Fz) (w : World)  (hZ : Z.on w) : Calls Try.prog 89 #[.int .i64 u0] w fun e w' => e = .returned (.tuple #[.int .i64 ((csize u0).1), .int .i64 ((csize u0).2)]) ∧ Below w.heap.size w w' :=
  (csize_walk u0  Z w  hZ (csize_ok u0)).mono fun _ _ ⟨r, he, hk, hb⟩ => ⟨by subst hk; exact he, hb⟩

set_option maxRecDepth 100000 in
set_option maxHeartbeats 0 in
theorem fhead_walk (u0 : Frame) (ao1 : Option Addr) (cap2 : Nat) (Z : Fz) (w : World) (hs3 : SlR (tyInt .u8) Z ao1 cap2 u0.Data) (hZ : Z.on w) {K : (List UInt8) → Prop} (hp : fhead_vc u0 K) : Calls Try.prog 87 #[.agg #[.int .i64 u0.ID, .bool u0.Long, .bool u0.Fast, .bool u0.Remote, .int .i64 u0.Size, .slice ao1 u0.Data.length cap2]] w fun e w' => ∃ r : (List UInt8), e = .returned (str r) ∧ K r ∧ Below w.heap.size w w' := by
 refine enter0 Try.func87 rfl rfl (by kernel_rfl) ?_; intro a0 hF0; have hM0 := Mem.start w Z hZ; have hle0 := Fz.le.refl Z
 have hp4 := hp (hs3.small); clear hp
 refine sqH ?_; intro hQ5Q hQ5
 refine sn hF0 hM0 (fun b => .pointer (some ⟨b, 0, none⟩)) [.int .i64 u0.ID, .bool u0.Long, .bool u0.Fast, .bool u0.Remote, .int .i64 u0.Size, .slice ao1 u0.Data.length cap2] 58 (nog rfl _) rfl (by kernel_rfl) (by kernel_rfl) ?_; intro b6 a7 wd9 hF8 hM10; clear hF0 hM0
 refine s1 hF8 2 (str []) ?_; intro a11 hF12; clear hF8
 refine nlH (hQ5 _ _ ?_); clear hQ5 hQ5Q
 refine sqH ?_; intro hQ13Q hQ13
 refine s1 hF12 7 (.pointer (some ⟨b6, 4, none⟩)) ?_; intro a14 hF15; clear hF12
 refine l1 hF15 hM10 8 0 4 (.int .i64 u0.Size) rfl rfl ?_; intro a16 hF17; clear hF15
 refine s1 hF17 3 (.int .i64 u0.Size) ?_; intro a18 hF19; clear hF17
 refine nlH (hQ13 _ _ ?_); clear hQ13 hQ13Q
 refine wp_seq ?_
 refine sqH ?_; intro hQ20Q hQ20
 refine s1 hF19 9 (.pointer (some ⟨b6, 3, none⟩)) ?_; intro a21 hF22; clear hF19
 refine l1 hF22 hM10 10 0 3 (.bool u0.Remote) rfl rfl ?_; intro a23 hF24; clear hF22
 refine s1 hF24 11 (.bool (!u0.Remote)) ?_; intro a25 hF26; clear hF24
 refine nlH (hQ20 _ _ ?_); clear hQ20 hQ20Q
 refine cd hF26 (t := !u0.Remote) (by kernel_rfl) (fun hb27 => ?_) (fun hb27 => ?_)
 ·
  have hp28 := hp4.1 hb27; clear hp4
  have hF29 : Fr 45 [] [⟨1, [], .pointer (some ⟨b6, 0, none⟩)⟩] a25 := hF26.reg; clear hF26
  refine any_invE mixed [[], [], [1], [2], [0, 3], [0, 1, 2, 3, 4]] 6 (fun S a w1 => ∃ (ao34 : Option Addr) (cap35 : Nat) (ud3 : Value) (ud12 : Value) (ud13 : Value) (ud14 : Value) (ud15 : Value) (ud16 : Value) (rh0 : Res) (rh1 : Res) (Z56 : Fz), Fz.le Z Z56 ∧ Fr 45 [] [⟨1, [], .pointer (some ⟨b6, 0, none⟩)⟩, ⟨3, [], ud3⟩, ⟨12, [], ud12⟩, ⟨13, [], ud13⟩, ⟨14, [], ud14⟩, ⟨15, [], ud15⟩, ⟨16, [], ud16⟩] a ∧ Mem w.heap.size [] w Z [rh0, rh1] Z56 w1 ∧ (S 5 = true → ud3 = .int .i64 (sindexS fsizes (u0.Data.length : Int))) ∧ (S 0 = true → ud12 = .slice ao34 fsizes.length cap35) ∧ (S 1 = true → ud13 = .pointer (some ⟨b6, 5, none⟩)) ∧ (S 2 = true → ud14 = .slice ao1 u0.Data.length cap2) ∧ (S 3 = true → ud15 = .int .i64 (u0.Data.length : Int)) ∧ (S 4 = true → ud16 = .int .i64 (sindexS fsizes (u0.Data.length : Int))) ∧ (rh0 = .row b6 [.int .i64 u0.ID, .bool u0.Long, .bool u0.Fast, .bool u0.Remote, .int .i64 u0.Size, .slice ao1 u0.Data.length cap2] 58) ∧ (S 0 = false → rh1 = .nil) ∧ (S 0 = true → S 4 = false → rh1 = .own (tyInt .i64) 3 ao34 cap35 fsizes) ∧ (S 4 = true → rh1 = .nil) ∧ (S 4 = true → SlR (tyInt .i64) Z56 ao34 cap35 fsizes)) ?h0 ?hs ?hE
  case h0 =>
   have hF58 := hF29.any 3
   have hF59 := hF58.any 12
   have hF60 := hF59.any 13
   have hF61 := hF60.any 14
   have hF62 := hF61.any 15
   have hF63 := hF62.any 16
   have hM64 := hM10.nilRes
   have hM65 := (hM64.perm ((pk 1 rfl).trans (lpr.cons _))).drew
   exact ⟨none, 0, a25.tmps.getD 3 undef, a25.tmps.getD 12 undef, a25.tmps.getD 13 undef, a25.tmps.getD 14 undef, a25.tmps.getD 15 undef, a25.tmps.getD 16 undef, .row b6 [.int .i64 u0.ID, .bool u0.Long, .bool u0.Fast, .bool u0.Remote, .int .i64 u0.Size, .slice ao1 u0.Data.length cap2] 58, .nil, Z, Fz.le.refl _, hF63.reg, hM65, ff, ff, ff, ff, ff, ff, rfl, kf, ff, ff, ff⟩
  case hs =>
   intro S hcl i o hil hi hSi hpre a w1 hI; refine Go.Sy.hid ?_; intro G hG; obtain ⟨ao34, cap35, ud3, ud12, ud13, ud14, ud15, ud16, rh0, rh1, Z56, hle57, hFx, hMx, cu3, cu12, cu13, cu14, cu15, cu16, cr0_0, cr1_0, cr1_1, cr1_2, hI⟩ := hI; have cf0 := hI; clear hI
   have hcase : i = 0 ∨ i = 1 ∨ i = 2 ∨ i = 3 ∨ i = 4 ∨ i = 5 := by clear hi; omega
   rcases hcase with rfl | rfl | rfl | rfl | rfl | rfl
   ·
    obtain rfl := oj hi
    have hx0 := hSi
    have hx4 := ngF hcl 4 0 hx0
    have hx5 := ngF hcl 5 0 hx0
    obtain rfl := cr0_0
    obtain rfl := cr1_0 hx0
    refine hG (any_step ?_); clear hG G; intro A J hJ
    have hle0 := Fz.le.trans hle0 hle57
    have hzst := Fz.le.refl Z56
    have hs66 := hs3.mono hle57
    have hM67 := hMx.keep (List.Sublist.cons_cons _ (List.Sublist.cons _ (List.Sublist.slnil))); clear hMx
    refine cl hFx 91 #[] (nog rfl _) rfl (by kernel_rfl) (by kernel_rfl) ?_
    refine (fsizes_fun  _ _ hM67.fz).mono ?_; rintro _ wd68 ⟨ao72, cap73, Z74, rfl, hm⟩; refine ⟨_, rfl, ?_⟩; intro a69 hF70; have hM71 := hM67.callZ hm; have hle75 := hm.ext.le; clear hm hM67 hFx
    replace hzst := hzst.mono hle75
    replace hs66 := hs66.mono hle75
    replace hle0 := Fz.le.trans hle0 hle75
    have hM76 : Mem w.heap.size [] w Z [.own (tyInt .i64) 3 ao72 cap73 fsizes, .row b6 [.int .i64 u0.ID, .bool u0.Long, .bool u0.Fast, .bool u0.Remote, .int .i64 u0.Size, .slice ao1 u0.Data.length cap2] 58] Z74 wd68 := hM71; clear hM71
    refine nl (qnI (hJ _ _ ?_)); clear hJ J
    exact ⟨ao72, cap73, ud3, .slice ao72 fsizes.length cap73, ud13, ud14, ud15, ud16, .row b6 [.int .i64 u0.ID, .bool u0.Long, .bool u0.Fast, .bool u0.Remote, .int .i64 u0.Size, .slice ao1 u0.Data.length cap2] 58, .own (tyInt .i64) 3 ao72 cap73 fsizes, Z74, hle57.trans hzst, hF70.reg, hM76.perm ((pk 1 rfl).trans (lpr.cons _)), (nt hx5), kf, cu13, cu14, cu15, (nt hx4), rfl, nu, kf2, (nt hx4), (nt hx4)⟩
   ·
    obtain rfl := oj hi
    have hx1 := hSi
    have hx2 := ngF hcl 2 1 hx1
    have hx3 := ngF hcl 3 2 hx2
    have hx4 := ngF hcl 4 3 hx3
    have hx5 := ngF hcl 5 1 hx1
    obtain rfl := cr0_0
    refine hG (any_step ?_); clear hG G; intro A J hJ
    have hle0 := Fz.le.trans hle0 hle57
    have hzst := Fz.le.refl Z56
    have hs78 := hs3.mono hle57
    refine s1 hFx 13 (.pointer (some ⟨b6, 5, none⟩)) ?_; intro a79 hF80; clear hFx
    refine nl (qnI (hJ _ _ ?_)); clear hJ J
    exact ⟨ao34, cap35, ud3, ud12, .pointer (some ⟨b6, 5, none⟩), ud14, ud15, ud16, .row b6 [.int .i64 u0.ID, .bool u0.Long, .bool u0.Fast, .bool u0.Remote, .int .i64 u0.Size, .slice ao1 u0.Data.length cap2] 58, rh1, Z56, hle57, hF80.reg, hMx.perm lpr, (nt hx5), cu12, kf, (nt hx2), (nt hx3), (nt hx4), rfl, cr1_0, cr1_1, (nt hx4), (nt hx4)⟩
   ·
    obtain rfl := oj hi
    have hx1 := hpre 1 (by kernel_rfl)
    have hx2 := hSi
    have hx3 := ngF hcl 3 2 hx2
    have hx4 := ngF hcl 4 3 hx3
    have hx5 := ngF hcl 5 2 hx2
    obtain rfl := cu13 hx1
    obtain rfl := cr0_0
    refine hG (any_step ?_); clear hG G; intro A J hJ
    have hle0 := Fz.le.trans hle0 hle57
    have hzst := Fz.le.refl Z56
    have hs82 := hs3.mono hle57
    refine l1 hFx hMx 14 0 5 (.slice ao1 u0.Data.length cap2) rfl rfl ?_; intro a83 hF84; clear hFx
    refine nl (qnI (hJ _ _ ?_)); clear hJ J
    exact ⟨ao34, cap35, ud3, ud12, .pointer (some ⟨b6, 5, none⟩), .slice ao1 u0.Data.length cap2, ud15, ud16, .row b6 [.int .i64 u0.ID, .bool u0.Long, .bool u0.Fast, .bool u0.Remote, .int .i64 u0.Size, .slice ao1 u0.Data.length cap2] 58, rh1, Z56, hle57, hF84.reg, hMx.perm lpr, (nt hx5), cu12, kf, kf, (nt hx3), (nt hx4), rfl, cr1_0, cr1_1, (nt hx4), (nt hx4)⟩
   ·
    obtain rfl := oj hi
    have hx2 := hpre 2 (by kernel_rfl)
    have hx1 := hcl 2 1 (by kernel_rfl) hx2
    have hx3 := hSi
    have hx4 := ngF hcl 4 3 hx3
    have hx5 := ngF hcl 5 3 hx3
    obtain rfl := cu13 hx1
    obtain rfl := cu14 hx2
    obtain rfl := cr0_0
    refine hG (any_step ?_); clear hG G; intro A J hJ
    have hle0 := Fz.le.trans hle0 hle57
    have hzst := Fz.le.refl Z56
    have hs86 := hs3.mono hle57
    refine s1 hFx 15 (.int .i64 (u0.Data.length : Int)) ?_; intro a87 hF88; clear hFx
    refine nl (qnI (hJ _ _ ?_)); clear hJ J
    exact ⟨ao34, cap35, ud3, ud12, .pointer (some ⟨b6, 5, none⟩), .slice ao1 u0.Data.length cap2, .int .i64 (u0.Data.length : Int), ud16, .row b6 [.int .i64 u0.ID, .bool u0.Long, .bool u0.Fast, .bool u0.Remote, .int .i64 u0.Size, .slice ao1 u0.Data.length cap2] 58, rh1, Z56, hle57, hF88.reg, hMx.perm lpr, (nt hx5), cu12, kf, kf, kf, (nt hx4), rfl, cr1_0, cr1_1, (nt hx4), (nt hx4)⟩
   ·
    obtain rfl := oj hi
    have hx3 := hpre 3 (by kernel_rfl)
    have hx0 := hpre 0 (by kernel_rfl)
    have hx2 := hcl 3 2 (by kernel_rfl) hx3
    have hx1 := hcl 2 1 (by kernel_rfl) hx2
    have hx4 := hSi
    have hx5 := ngF hcl 5 4 hx4
    obtain rfl := cu12 hx0
    obtain rfl := cu13 hx1
    obtain rfl := cu14 hx2
    obtain rfl := cu15 hx3
    obtain rfl := cr0_0
    obtain rfl := cr1_1 hx0 hx4
    refine hG (any_step ?_); clear hG G; intro A J hJ
    have hle0 := Fz.le.trans hle0 hle57
    have hzst := Fz.le.refl Z56
    have hs90 := hs3.mono hle57
    obtain ⟨Z91, hle92, hM93, hs94⟩ := hMx.freeze 1 rfl
    replace hzst := hzst.mono hle92
    replace hs90 := hs90.mono hle92
    replace hle0 := Fz.le.trans hle0 hle92
    have hM95 : Mem w.heap.size [] w Z [.row b6 [.int .i64 u0.ID, .bool u0.Long, .bool u0.Fast, .bool u0.Remote, .int .i64 u0.Size, .slice ao1 u0.Data.length cap2] 58] Z91 w1 := hM93; clear hM93
    refine fcl hFx hM95 (.int .i64 (sindexS fsizes (u0.Data.length : Int))) 99 #[.slice ao34 fsizes.length cap35, .int .i64 (u0.Data.length : Int)] (nog rfl _) rfl (by kernel_rfl) (fun _ => by kernel_rfl) (sindex_fun fsizes (u0.Data.length : Int) ao34 cap35 _ _ hs94 hM95.fz) ?_; intro a96 wd98 hF97 hM99; clear hFx hM95
    refine nl (qnI (hJ _ _ ?_)); clear hJ J
    have hM100 := hM99.nilRes
    exact ⟨ao34, cap35, ud3, .slice ao34 fsizes.length cap35, .pointer (some ⟨b6, 5, none⟩), .slice ao1 u0.Data.length cap2, .int .i64 (u0.Data.length : Int), .int .i64 (sindexS fsizes (u0.Data.length : Int)), .row b6 [.int .i64 u0.ID, .bool u0.Long, .bool u0.Fast, .bool u0.Remote, .int .i64 u0.Size, .slice ao1 u0.Data.length cap2] 58, .nil, Z91, hle57.trans hzst, hF97.reg, hM100.perm ((pk 1 rfl).trans (lpr.cons _)), (nt hx5), kf, kf, kf, kf, kf, rfl, (tn hx0), (fun _ => nu), kf, (fun _ => hs94)⟩
   ·
    obtain rfl := oj hi
    have hx4 := hpre 4 (by kernel_rfl)
    have hx3 := hpre 3 (by kernel_rfl)
    have hx2 := hpre 2 (by kernel_rfl)
    have hx1 := hpre 1 (by kernel_rfl)
    have hx0 := hpre 0 (by kernel_rfl)
    have hx5 := hSi
    obtain rfl := cu12 hx0
    obtain rfl := cu13 hx1
    obtain rfl := cu14 hx2
    obtain rfl := cu15 hx3
    obtain rfl := cu16 hx4
    obtain rfl := cr0_0
    obtain rfl := cr1_2 hx4
    refine hG (any_step ?_); clear hG G; intro A J hJ
    have hle0 := Fz.le.trans hle0 hle57
    have hzst := Fz.le.refl Z56
    have hs102 := hs3.mono hle57
    have hs103 := cf0 hx4
    have hM104 := hMx.keep (List.Sublist.cons_cons _ (List.Sublist.cons _ (List.Sublist.slnil))); clear hMx
    refine s1 hFx 3 (.int .i64 (sindexS fsizes (u0.Data.length : Int))) ?_; intro a105 hF106; clear hFx
    refine nl (qnI (hJ _ _ ?_)); clear hJ J
    have hM107 := hM104.nilRes
    exact ⟨ao34, cap35, .int .i64 (sindexS fsizes (u0.Data.length : Int)), .slice ao34 fsizes.length cap35, .pointer (some ⟨b6, 5, none⟩), .slice ao1 u0.Data.length cap2, .int .i64 (u0.Data.length : Int), .int .i64 (sindexS fsizes (u0.Data.length : Int)), .row b6 [.int .i64 u0.ID, .bool u0.Long, .bool u0.Fast, .bool u0.Remote, .int .i64 u0.Size, .slice ao1 u0.Data.length cap2] 58, .nil, Z56, hle57, hF106.reg, hM107.perm ((pk 1 rfl).trans (lpr.cons _)), kf, kf, kf, kf, kf, kf, rfl, (tn hx0), (fun _ => tn hx4), kf, (fun _ => hs103)⟩
  case hE =>
   intro S hS a109 wd110 hI; refine Go.Sy.hid ?_; intro G hG; obtain ⟨ao34, cap35, ud3, ud12, ud13, ud14, ud15, ud16, rh0, rh1, Z56, hle57, hFx, hMx, cu3, cu12, cu13, cu14, cu15, cu16, cr0_0, cr1_0, cr1_1, cr1_2, hI⟩ := hI; have cf0 := hI; clear hI; refine hG ?_; clear hG G
   obtain rfl := cu3 (hS 5 (by decide))
   obtain rfl := cu12 (hS 0 (by decide))
   obtain rfl := cu13 (hS 1 (by decide))
   obtain rfl := cu14 (hS 2 (by decide))
   obtain rfl := cu15 (hS 3 (by decide))
   obtain rfl := cu16 (hS 4 (by decide))
   obtain rfl := cr0_0
   obtain rfl := cr1_2 (hS 4 (by decide))
   have hle0 := Fz.le.trans hle0 hle57
   have hs111 := hs3.mono hle57
   have hs112 := cf0 (hS 4 (by decide))
   have hMx := hMx.keep (List.Sublist.cons_cons _ (List.Sublist.cons _ (List.Sublist.slnil)))
   refine thn ?_
   have hF113 : Fr 45 [] [⟨1, [], .pointer (some ⟨b6, 0, none⟩)⟩, ⟨3, [], .int .i64 (sindexS fsizes (u0.Data.length : Int))⟩] a109 := hFx.reg; clear hFx
   refine sqH ?_; intro hQ114Q hQ114
   refine l2 hF113 hMx 17 0 0 6 [.int .i64 u0.ID, .bool u0.Long, .bool u0.Fast, .bool u0.Remote, .int .i64 u0.Size, .slice ao1 u0.Data.length cap2] rfl rfl ?_; intro a115 hF116; clear hF113
   have hc117 := hp28.1; have hp118 := hp28.2; clear hp28
   refine fcl hF116 hMx (str (fnameS u0)) 113 #[.agg #[.int .i64 u0.ID, .bool u0.Long, .bool u0.Fast, .bool u0.Remote, .int .i64 u0.Size, .slice ao1 u0.Data.length cap2]] (nog rfl _) rfl (by kernel_rfl) (fun _ => by kernel_rfl) (fname_fun u0 hc117 ao1 cap2 _ _ hs111 hMx.fz) ?_; intro a119 wd121 hF120 hM122; clear hF116 hMx
   have hc123 := hp118.1; have hp124 := hp118.2; clear hp118
   refine st hF120 (str (([48] : List UInt8) ++ (fnameS u0))) (nog rfl _) rfl (by kernel_rfl) (stradd_run hF120 (g := []) rfl (by kernel_rfl) (by kernel_rfl) hc123 rfl) ?_; intro a125 hF126; clear hF120
   refine s1 hF126 4 (str (([48] : List UInt8) ++ (fnameS u0))) ?_; intro a127 hF128; clear hF126
   refine nlH (hQ114 _ _ ?_); clear hQ114 hQ114Q
   refine wp_seq ?_
   refine wp_block ?_
   refine sqH ?_; intro hQ129Q hQ129
   refine s1 hF128 23 (.pointer (some ⟨b6, 2, none⟩)) ?_; intro a130 hF131; clear hF128
   refine l1 hF131 hM122 24 0 2 (.bool u0.Fast) rfl rfl ?_; intro a132 hF133; clear hF131
   refine s1 hF133 22 (.bool u0.Fast) ?_; intro a134 hF135; clear hF133
   refine nlH (hQ129 _ _ ?_); clear hQ129 hQ129Q
   refine cd hF135 (t := u0.Fast) (by kernel_rfl) (fun hb136 => ?_) (fun hb136 => ?_)
   ·
    have hp137 := hp124.1 hb136; clear hp124
    refine rgH ?_; intro hQ138Q hQ138
    refine s1 hF135 25 (str (([48] : List UInt8) ++ (fnameS u0))) ?_; intro a139 hF140; clear hF135
    have hc141 := hp137.1; have hp142 := hp137.2; clear hp137
    refine st hF140 (str ((([48] : List UInt8) ++ (fnameS u0)) ++ ([49, 48, 49, 48] : List UInt8))) (nog rfl _) rfl (by kernel_rfl) (stradd_run hF140 (g := []) rfl (by kernel_rfl) (by kernel_rfl) hc141 rfl) ?_; intro a143 hF144; clear hF140
    refine s1 hF144 4 (str ((([48] : List UInt8) ++ (fnameS u0)) ++ ([49, 48, 49, 48] : List UInt8))) ?_; intro a145 hF146; clear hF144
    refine nlH (hQ138 _ _ ?_); clear hQ138 hQ138Q
    refine ibn ?_
    refine thn ?_
    refine sqH ?_; intro hQ147Q hQ147
    refine s1 hF146 33 (.pointer (some ⟨b6, 5, none⟩)) ?_; intro a148 hF149; clear hF146
    refine l1 hF149 hM122 34 0 5 (.slice ao1 u0.Data.length cap2) rfl rfl ?_; intro a150 hF151; clear hF149
    have hc152 := hp142.1; have hp153 := hp142.2; clear hp142
    refine fcl hF151 hM122 (.tuple #[str ((bofS u0.Data).1), .int .i64 ((bofS u0.Data).2)]) 114 #[.slice ao1 u0.Data.length cap2] (nog rfl _) rfl (by kernel_rfl) (fun _ => by kernel_rfl) (bof_fun u0.Data hc152 ao1 cap2 _ _ hs111 hM122.fz) ?_; intro a154 wd156 hF155 hM157; clear hF151 hM122
    refine s1 hF155 32 (.tuple #[str ((bofS u0.Data).1), .int .i64 ((bofS u0.Data).2)]) ?_; intro a158 hF159; clear hF155
    refine s1 hF159 36 (str ((bofS u0.Data).1)) ?_; intro a160 hF161; clear hF159
    refine s1 hF161 37 (.int .i64 ((bofS u0.Data).2)) ?_; intro a162 hF163; clear hF161
    refine s1 hF163 5 (str ((bofS u0.Data).1)) ?_; intro a164 hF165; clear hF163
    refine s1 hF165 6 (.int .i64 ((bofS u0.Data).2)) ?_; intro a166 hF167; clear hF165
    refine nlH (hQ147 _ _ ?_); clear hQ147 hQ147Q
    have hF168 : Fr 45 [] [⟨3, [], .int .i64 (sindexS fsizes (u0.Data.length : Int))⟩, ⟨4, [], str ((([48] : List UInt8) ++ (fnameS u0)) ++ ([49, 48, 49, 48] : List UInt8))⟩, ⟨5, [], str ((bofS u0.Data).1)⟩] a166 := hF167.reg; clear hF167
    refine sqH ?_; intro hQ169Q hQ169
    refine s1 hF168 38 (str ((([48] : List UInt8) ++ (fnameS u0)) ++ ([49, 48, 49, 48] : List UInt8))) ?_; intro a170 hF171; clear hF168
    refine s1 hF171 39 (.int .i64 (sindexS fsizes (u0.Data.length : Int))) ?_; intro a172 hF173; clear hF171
    refine s1 hF173 40 (.int .u64 (wu64 (sindexS fsizes (u0.Data.length : Int)))) ?_; intro a174 hF175; clear hF173
    have hc176 := hp153.1; have hp177 := hp153.2; clear hp153
    refine fcl hF175 hM157 (str (bwriteS (wu64 (sindexS fsizes (u0.Data.length : Int))) 4)) 115 #[.int .u64 (wu64 (sindexS fsizes (u0.Data.length : Int))), .int .i64 4] (nog rfl _) rfl (by kernel_rfl) (fun _ => by kernel_rfl) (bwrite_fun (wu64 (sindexS fsizes (u0.Data.length : Int))) 4 hc176 _ _ hM157.fz) ?_; intro a178 wd180 hF179 hM181; clear hF175 hM157
    have hc182 := hp177.1; have hp183 := hp177.2; clear hp177
    refine st hF179 (str (((([48] : List UInt8) ++ (fnameS u0)) ++ ([49, 48, 49, 48] : List UInt8)) ++ (bwriteS (wu64 (sindexS fsizes (u0.Data.length : Int))) 4))) (nog rfl _) rfl (by kernel_rfl) (stradd_run hF179 (g := []) rfl (by kernel_rfl) (by kernel_rfl) hc182 rfl) ?_; intro a184 hF185; clear hF179
    refine s1 hF185 43 (str ((bofS u0.Data).1)) ?_; intro a186 hF187; clear hF185
    have hc188 := hp183.1; have hp189 := hp183.2; clear hp183
    refine st hF187 (str ((((([48] : List UInt8) ++ (fnameS u0)) ++ ([49, 48, 49, 48] : List UInt8)) ++ (bwriteS (wu64 (sindexS fsizes (u0.Data.length : Int))) 4)) ++ ((bofS u0.Data).1))) (nog rfl _) rfl (by kernel_rfl) (stradd_run hF187 (g := []) rfl (by kernel_rfl) (by kernel_rfl) hc188 rfl) ?_; intro a190 hF191; clear hF187
    refine s1 hF191 2 (str ((((([48] : List UInt8) ++ (fnameS u0)) ++ ([49, 48, 49, 48] : List UInt8)) ++ (bwriteS (wu64 (sindexS fsizes (u0.Data.length : Int))) 4)) ++ ((bofS u0.Data).1))) ?_; intro a192 hF193; clear hF191
    refine nlH (hQ169 _ _ ?_); clear hQ169 hQ169Q
    refine wp_ret ?_
    refine rt (fn := Try.f87) (v := str ((((([48] : List UInt8) ++ (fnameS u0)) ++ ([49, 48, 49, 48] : List UInt8)) ++ (bwriteS (wu64 (sindexS fsizes (u0.Data.length : Int))) 4)) ++ ((bofS u0.Data).1))) hF193 (re1 hF193 (fn := Try.f87) rfl (by kernel_rfl)) ?_
    exact ⟨(((([48] : List UInt8) ++ (fnameS u0)) ++ ([49, 48, 49, 48] : List UInt8)) ++ (bwriteS (wu64 (sindexS fsizes (u0.Data.length : Int))) 4)) ++ ((bofS u0.Data).1), rfl, hp189, hM181.below⟩
   ·
    have hp194 := hp124.2 hb136; clear hp124
    refine sqH ?_; intro hQ195Q hQ195
    refine s1 hF135 28 (.pointer (some ⟨b6, 1, none⟩)) ?_; intro a196 hF197; clear hF135
    refine l1 hF197 hM122 29 0 1 (.bool u0.Long) rfl rfl ?_; intro a198 hF199; clear hF197
    refine s1 hF199 27 (.bool u0.Long) ?_; intro a200 hF201; clear hF199
    refine nlH (hQ195 _ _ ?_); clear hQ195 hQ195Q
    refine cd hF201 (t := u0.Long) (by kernel_rfl) (fun hb202 => ?_) (fun hb202 => ?_)
    ·
     have hp203 := hp194.1 hb202; clear hp194
     refine rgH ?_; intro hQ204Q hQ204
     refine s1 hF201 30 (str (([48] : List UInt8) ++ (fnameS u0))) ?_; intro a205 hF206; clear hF201
     have hc207 := hp203.1; have hp208 := hp203.2; clear hp203
     refine st hF206 (str ((([48] : List UInt8) ++ (fnameS u0)) ++ ([48, 48] : List UInt8))) (nog rfl _) rfl (by kernel_rfl) (stradd_run hF206 (g := []) rfl (by kernel_rfl) (by kernel_rfl) hc207 rfl) ?_; intro a209 hF210; clear hF206
     refine s1 hF210 4 (str ((([48] : List UInt8) ++ (fnameS u0)) ++ ([48, 48] : List UInt8))) ?_; intro a211 hF212; clear hF210
     refine nlH (hQ204 _ _ ?_); clear hQ204 hQ204Q
     refine ibn ?_
     refine thn ?_
     refine sqH ?_; intro hQ213Q hQ213
     refine s1 hF212 33 (.pointer (some ⟨b6, 5, none⟩)) ?_; intro a214 hF215; clear hF212
     refine l1 hF215 hM122 34 0 5 (.slice ao1 u0.Data.length cap2) rfl rfl ?_; intro a216 hF217; clear hF215
     have hc218 := hp208.1; have hp219 := hp208.2; clear hp208
     refine fcl hF217 hM122 (.tuple #[str ((bofS u0.Data).1), .int .i64 ((bofS u0.Data).2)]) 114 #[.slice ao1 u0.Data.length cap2] (nog rfl _) rfl (by kernel_rfl) (fun _ => by kernel_rfl) (bof_fun u0.Data hc218 ao1 cap2 _ _ hs111 hM122.fz) ?_; intro a220 wd222 hF221 hM223; clear hF217 hM122
     refine s1 hF221 32 (.tuple #[str ((bofS u0.Data).1), .int .i64 ((bofS u0.Data).2)]) ?_; intro a224 hF225; clear hF221
     refine s1 hF225 36 (str ((bofS u0.Data).1)) ?_; intro a226 hF227; clear hF225
     refine s1 hF227 37 (.int .i64 ((bofS u0.Data).2)) ?_; intro a228 hF229; clear hF227
     refine s1 hF229 5 (str ((bofS u0.Data).1)) ?_; intro a230 hF231; clear hF229
     refine s1 hF231 6 (.int .i64 ((bofS u0.Data).2)) ?_; intro a232 hF233; clear hF231
     refine nlH (hQ213 _ _ ?_); clear hQ213 hQ213Q
     have hF234 : Fr 45 [] [⟨3, [], .int .i64 (sindexS fsizes (u0.Data.length : Int))⟩, ⟨4, [], str ((([48] : List UInt8) ++ (fnameS u0)) ++ ([48, 48] : List UInt8))⟩, ⟨5, [], str ((bofS u0.Data).1)⟩] a232 := hF233.reg; clear hF233
     refine sqH ?_; intro hQ235Q hQ235
     refine s1 hF234 38 (str ((([48] : List UInt8) ++ (fnameS u0)) ++ ([48, 48] : List UInt8))) ?_; intro a236 hF237; clear hF234
     refine s1 hF237 39 (.int .i64 (sindexS fsizes (u0.Data.length : Int))) ?_; intro a238 hF239; clear hF237
     refine s1 hF239 40 (.int .u64 (wu64 (sindexS fsizes (u0.Data.length : Int)))) ?_; intro a240 hF241; clear hF239
     have hc242 := hp219.1; have hp243 := hp219.2; clear hp219
     refine fcl hF241 hM223 (str (bwriteS (wu64 (sindexS fsizes (u0.Data.length : Int))) 4)) 115 #[.int .u64 (wu64 (sindexS fsizes (u0.Data.length : Int))), .int .i64 4] (nog rfl _) rfl (by kernel_rfl) (fun _ => by kernel_rfl) (bwrite_fun (wu64 (sindexS fsizes (u0.Data.length : Int))) 4 hc242 _ _ hM223.fz) ?_; intro a244 wd246 hF245 hM247; clear hF241 hM223
     have hc248 := hp243.1; have hp249 := hp243.2; clear hp243
     refine st hF245 (str (((([48] : List UInt8) ++ (fnameS u0)) ++ ([48, 48] : List UInt8)) ++ (bwriteS (wu64 (sindexS fsizes (u0.Data.length : Int))) 4))) (nog rfl _) rfl (by kernel_rfl) (stradd_run hF245 (g := []) rfl (by kernel_rfl) (by kernel_rfl) hc248 rfl) ?_; intro a250 hF251; clear hF245
     refine s1 hF251 43 (str ((bofS u0.Data).1)) ?_; intro a252 hF253; clear hF251
     have hc254 := hp249.1; have hp255 := hp249.2; clear hp249
     refine st hF253 (str ((((([48] : List UInt8) ++ (fnameS u0)) ++ ([48, 48] : List UInt8)) ++ (bwriteS (wu64 (sindexS fsizes (u0.Data.length : Int))) 4)) ++ ((bofS u0.Data).1))) (nog rfl _) rfl (by kernel_rfl) (stradd_run hF253 (g := []) rfl (by kernel_rfl) (by kernel_rfl) hc254 rfl) ?_; intro a256 hF257; clear hF253
     refine s1 hF257 2 (str ((((([48] : List UInt8) ++ (fnameS u0)) ++ ([48, 48] : List UInt8)) ++ (bwriteS (wu64 (sindexS fsizes (u0.Data.length : Int))) 4)) ++ ((bofS u0.Data).1))) ?_; intro a258 hF259; clear hF257
     refine nlH (hQ235 _ _ ?_); clear hQ235 hQ235Q
     refine wp_ret ?_
     refine rt (fn := Try.f87) (v := str ((((([48] : List UInt8) ++ (fnameS u0)) ++ ([48, 48] : List UInt8)) ++ (bwriteS (wu64 (sindexS fsizes (u0.Data.length : Int))) 4)) ++ ((bofS u0.Data).1))) hF259 (re1 hF259 (fn := Try.f87) rfl (by kernel_rfl)) ?_
     exact ⟨(((([48] : List UInt8) ++ (fnameS u0)) ++ ([48, 48] : List UInt8)) ++ (bwriteS (wu64 (sindexS fsizes (u0.Data.length : Int))) 4)) ++ ((bofS u0.Data).1), rfl, hp255, hM247.below⟩
    ·
     have hp260 := hp194.2 hb202; clear hp194
     refine rgH ?_; intro hQ261Q hQ261
     refine s1 hF201 20 (str (([48] : List UInt8) ++ (fnameS u0))) ?_; intro a262 hF263; clear hF201
     have hc264 := hp260.1; have hp265 := hp260.2; clear hp260
     refine st hF263 (str ((([48] : List UInt8) ++ (fnameS u0)) ++ ([48] : List UInt8))) (nog rfl _) rfl (by kernel_rfl) (stradd_run hF263 (g := []) rfl (by kernel_rfl) (by kernel_rfl) hc264 rfl) ?_; intro a266 hF267; clear hF263
     refine s1 hF267 4 (str ((([48] : List UInt8) ++ (fnameS u0)) ++ ([48] : List UInt8))) ?_; intro a268 hF269; clear hF267
     refine nlH (hQ261 _ _ ?_); clear hQ261 hQ261Q
     refine ibn ?_
     refine thn ?_
     refine sqH ?_; intro hQ270Q hQ270
     refine s1 hF269 33 (.pointer (some ⟨b6, 5, none⟩)) ?_; intro a271 hF272; clear hF269
     refine l1 hF272 hM122 34 0 5 (.slice ao1 u0.Data.length cap2) rfl rfl ?_; intro a273 hF274; clear hF272
     have hc275 := hp265.1; have hp276 := hp265.2; clear hp265
     refine fcl hF274 hM122 (.tuple #[str ((bofS u0.Data).1), .int .i64 ((bofS u0.Data).2)]) 114 #[.slice ao1 u0.Data.length cap2] (nog rfl _) rfl (by kernel_rfl) (fun _ => by kernel_rfl) (bof_fun u0.Data hc275 ao1 cap2 _ _ hs111 hM122.fz) ?_; intro a277 wd279 hF278 hM280; clear hF274 hM122
     refine s1 hF278 32 (.tuple #[str ((bofS u0.Data).1), .int .i64 ((bofS u0.Data).2)]) ?_; intro a281 hF282; clear hF278
     refine s1 hF282 36 (str ((bofS u0.Data).1)) ?_; intro a283 hF284; clear hF282
     refine s1 hF284 37 (.int .i64 ((bofS u0.Data).2)) ?_; intro a285 hF286; clear hF284
     refine s1 hF286 5 (str ((bofS u0.Data).1)) ?_; intro a287 hF288; clear hF286
     refine s1 hF288 6 (.int .i64 ((bofS u0.Data).2)) ?_; intro a289 hF290; clear hF288
     refine nlH (hQ270 _ _ ?_); clear hQ270 hQ270Q
     have hF291 : Fr 45 [] [⟨3, [], .int .i64 (sindexS fsizes (u0.Data.length : Int))⟩, ⟨4, [], str ((([48] : List UInt8) ++ (fnameS u0)) ++ ([48] : List UInt8))⟩, ⟨5, [], str ((bofS u0.Data).1)⟩] a289 := hF290.reg; clear hF290
     refine sqH ?_; intro hQ292Q hQ292
     refine s1 hF291 38 (str ((([48] : List UInt8) ++ (fnameS u0)) ++ ([48] : List UInt8))) ?_; intro a293 hF294; clear hF291
     refine s1 hF294 39 (.int .i64 (sindexS fsizes (u0.Data.length : Int))) ?_; intro a295 hF296; clear hF294
     refine s1 hF296 40 (.int .u64 (wu64 (sindexS fsizes (u0.Data.length : Int)))) ?_; intro a297 hF298; clear hF296
     have hc299 := hp276.1; have hp300 := hp276.2; clear hp276
     refine fcl hF298 hM280 (str (bwriteS (wu64 (sindexS fsizes (u0.Data.length : Int))) 4)) 115 #[.int .u64 (wu64 (sindexS fsizes (u0.Data.length : Int))), .int .i64 4] (nog rfl _) rfl (by kernel_rfl) (fun _ => by kernel_rfl) (bwrite_fun (wu64 (sindexS fsizes (u0.Data.length : Int))) 4 hc299 _ _ hM280.fz) ?_; intro a301 wd303 hF302 hM304; clear hF298 hM280
     have hc305 := hp300.1; have hp306 := hp300.2; clear hp300
     refine st hF302 (str (((([48] : List UInt8) ++ (fnameS u0)) ++ ([48] : List UInt8)) ++ (bwriteS (wu64 (sindexS fsizes (u0.Data.length : Int))) 4))) (nog rfl _) rfl (by kernel_rfl) (stradd_run hF302 (g := []) rfl (by kernel_rfl) (by kernel_rfl) hc305 rfl) ?_; intro a307 hF308; clear hF302
     refine s1 hF308 43 (str ((bofS u0.Data).1)) ?_; intro a309 hF310; clear hF308
     have hc311 := hp306.1; have hp312 := hp306.2; clear hp306
     refine st hF310 (str ((((([48] : List UInt8) ++ (fnameS u0)) ++ ([48] : List UInt8)) ++ (bwriteS (wu64 (sindexS fsizes (u0.Data.length : Int))) 4)) ++ ((bofS u0.Data).1))) (nog rfl _) rfl (by kernel_rfl) (stradd_run hF310 (g := []) rfl (by kernel_rfl) (by kernel_rfl) hc311 rfl) ?_; intro a313 hF314; clear hF310
     refine s1 hF314 2 (str ((((([48] : List UInt8) ++ (fnameS u0)) ++ ([48] : List UInt8)) ++ (bwriteS (wu64 (sindexS fsizes (u0.Data.length : Int))) 4)) ++ ((bofS u0.Data).1))) ?_; intro a315 hF316; clear hF314
     refine nlH (hQ292 _ _ ?_); clear hQ292 hQ292Q
     refine wp_ret ?_
     refine rt (fn := Try.f87) (v := str ((((([48] : List UInt8) ++ (fnameS u0)) ++ ([48] : List UInt8)) ++ (bwriteS (wu64 (sindexS fsizes (u0.Data.length : Int))) 4)) ++ ((bofS u0.Data).1))) hF316 (re1 hF316 (fn := Try.f87) rfl (by kernel_rfl)) ?_
     exact ⟨(((([48] : List UInt8) ++ (fnameS u0)) ++ ([48] : List UInt8)) ++ (bwriteS (wu64 (sindexS fsizes (u0.Data.length : Int))) 4)) ++ ((bofS u0.Data).1), rfl, hp312, hM304.below⟩
 ·
  have hp317 := hp4.2 hb27; clear hp4
  refine wp_skip ?_
  refine thn ?_
  refine sqH ?_; intro hQ318Q hQ318
  refine l2 hF26 hM10 17 0 0 6 [.int .i64 u0.ID, .bool u0.Long, .bool u0.Fast, .bool u0.Remote, .int .i64 u0.Size, .slice ao1 u0.Data.length cap2] rfl rfl ?_; intro a319 hF320; clear hF26
  have hc321 := hp317.1; have hp322 := hp317.2; clear hp317
  refine fcl hF320 hM10 (str (fnameS u0)) 113 #[.agg #[.int .i64 u0.ID, .bool u0.Long, .bool u0.Fast, .bool u0.Remote, .int .i64 u0.Size, .slice ao1 u0.Data.length cap2]] (nog rfl _) rfl (by kernel_rfl) (fun _ => by kernel_rfl) (fname_fun u0 hc321 ao1 cap2 _ _ hs3 hM10.fz) ?_; intro a323 wd325 hF324 hM326; clear hF320 hM10
  have hc327 := hp322.1; have hp328 := hp322.2; clear hp322
  refine st hF324 (str (([48] : List UInt8) ++ (fnameS u0))) (nog rfl _) rfl (by kernel_rfl) (stradd_run hF324 (g := []) rfl (by kernel_rfl) (by kernel_rfl) hc327 rfl) ?_; intro a329 hF330; clear hF324
  refine s1 hF330 4 (str (([48] : List UInt8) ++ (fnameS u0))) ?_; intro a331 hF332; clear hF330
  refine nlH (hQ318 _ _ ?_); clear hQ318 hQ318Q
  refine wp_seq ?_
  refine wp_block ?_
  refine sqH ?_; intro hQ333Q hQ333
  refine s1 hF332 23 (.pointer (some ⟨b6, 2, none⟩)) ?_; intro a334 hF335; clear hF332
  refine l1 hF335 hM326 24 0 2 (.bool u0.Fast) rfl rfl ?_; intro a336 hF337; clear hF335
  refine s1 hF337 22 (.bool u0.Fast) ?_; intro a338 hF339; clear hF337
  refine nlH (hQ333 _ _ ?_); clear hQ333 hQ333Q
  refine cd hF339 (t := u0.Fast) (by kernel_rfl) (fun hb340 => ?_) (fun hb340 => ?_)
  ·
   have hp341 := hp328.1 hb340; clear hp328
   have hF342 : Fr 45 [] [⟨1, [], .pointer (some ⟨b6, 0, none⟩)⟩, ⟨3, [], .int .i64 u0.Size⟩, ⟨4, [], str (([48] : List UInt8) ++ (fnameS u0))⟩] a338 := hF339.reg; clear hF339
   refine rgH ?_; intro hQ343Q hQ343
   refine s1 hF342 25 (str (([48] : List UInt8) ++ (fnameS u0))) ?_; intro a344 hF345; clear hF342
   have hc346 := hp341.1; have hp347 := hp341.2; clear hp341
   refine st hF345 (str ((([48] : List UInt8) ++ (fnameS u0)) ++ ([49, 48, 49, 48] : List UInt8))) (nog rfl _) rfl (by kernel_rfl) (stradd_run hF345 (g := []) rfl (by kernel_rfl) (by kernel_rfl) hc346 rfl) ?_; intro a348 hF349; clear hF345
   refine s1 hF349 4 (str ((([48] : List UInt8) ++ (fnameS u0)) ++ ([49, 48, 49, 48] : List UInt8))) ?_; intro a350 hF351; clear hF349
   refine nlH (hQ343 _ _ ?_); clear hQ343 hQ343Q
   refine ibn ?_
   refine thn ?_
   refine sqH ?_; intro hQ352Q hQ352
   refine s1 hF351 33 (.pointer (some ⟨b6, 5, none⟩)) ?_; intro a353 hF354; clear hF351
   refine l1 hF354 hM326 34 0 5 (.slice ao1 u0.Data.length cap2) rfl rfl ?_; intro a355 hF356; clear hF354
   have hc357 := hp347.1; have hp358 := hp347.2; clear hp347
   refine fcl hF356 hM326 (.tuple #[str ((bofS u0.Data).1), .int .i64 ((bofS u0.Data).2)]) 114 #[.slice ao1 u0.Data.length cap2] (nog rfl _) rfl (by kernel_rfl) (fun _ => by kernel_rfl) (bof_fun u0.Data hc357 ao1 cap2 _ _ hs3 hM326.fz) ?_; intro a359 wd361 hF360 hM362; clear hF356 hM326
   refine s1 hF360 32 (.tuple #[str ((bofS u0.Data).1), .int .i64 ((bofS u0.Data).2)]) ?_; intro a363 hF364; clear hF360
   refine s1 hF364 36 (str ((bofS u0.Data).1)) ?_; intro a365 hF366; clear hF364
   refine s1 hF366 37 (.int .i64 ((bofS u0.Data).2)) ?_; intro a367 hF368; clear hF366
   refine s1 hF368 5 (str ((bofS u0.Data).1)) ?_; intro a369 hF370; clear hF368
   refine s1 hF370 6 (.int .i64 ((bofS u0.Data).2)) ?_; intro a371 hF372; clear hF370
   refine nlH (hQ352 _ _ ?_); clear hQ352 hQ352Q
   refine sqH ?_; intro hQ373Q hQ373
   refine s1 hF372 38 (str ((([48] : List UInt8) ++ (fnameS u0)) ++ ([49, 48, 49, 48] : List UInt8))) ?_; intro a374 hF375; clear hF372
   refine s1 hF375 39 (.int .i64 u0.Size) ?_; intro a376 hF377; clear hF375
   refine s1 hF377 40 (.int .u64 (wu64 u0.Size)) ?_; intro a378 hF379; clear hF377
   have hc380 := hp358.1; have hp381 := hp358.2; clear hp358
   refine fcl hF379 hM362 (str (bwriteS (wu64 u0.Size) 4)) 115 #[.int .u64 (wu64 u0.Size), .int .i64 4] (nog rfl _) rfl (by kernel_rfl) (fun _ => by kernel_rfl) (bwrite_fun (wu64 u0.Size) 4 hc380 _ _ hM362.fz) ?_; intro a382 wd384 hF383 hM385; clear hF379 hM362
   have hc386 := hp381.1; have hp387 := hp381.2; clear hp381
   refine st hF383 (str (((([48] : List UInt8) ++ (fnameS u0)) ++ ([49, 48, 49, 48] : List UInt8)) ++ (bwriteS (wu64 u0.Size) 4))) (nog rfl _) rfl (by kernel_rfl) (stradd_run hF383 (g := []) rfl (by kernel_rfl) (by kernel_rfl) hc386 rfl) ?_; intro a388 hF389; clear hF383
   refine s1 hF389 43 (str ((bofS u0.Data).1)) ?_; intro a390 hF391; clear hF389
   have hc392 := hp387.1; have hp393 := hp387.2; clear hp387
   refine st hF391 (str ((((([48] : List UInt8) ++ (fnameS u0)) ++ ([49, 48, 49, 48] : List UInt8)) ++ (bwriteS (wu64 u0.Size) 4)) ++ ((bofS u0.Data).1))) (nog rfl _) rfl (by kernel_rfl) (stradd_run hF391 (g := []) rfl (by kernel_rfl) (by kernel_rfl) hc392 rfl) ?_; intro a394 hF395; clear hF391
   refine s1 hF395 2 (str ((((([48] : List UInt8) ++ (fnameS u0)) ++ ([49, 48, 49, 48] : List UInt8)) ++ (bwriteS (wu64 u0.Size) 4)) ++ ((bofS u0.Data).1))) ?_; intro a396 hF397; clear hF395
   refine nlH (hQ373 _ _ ?_); clear hQ373 hQ373Q
   refine wp_ret ?_
   refine rt (fn := Try.f87) (v := str ((((([48] : List UInt8) ++ (fnameS u0)) ++ ([49, 48, 49, 48] : List UInt8)) ++ (bwriteS (wu64 u0.Size) 4)) ++ ((bofS u0.Data).1))) hF397 (re1 hF397 (fn := Try.f87) rfl (by kernel_rfl)) ?_
   exact ⟨(((([48] : List UInt8) ++ (fnameS u0)) ++ ([49, 48, 49, 48] : List UInt8)) ++ (bwriteS (wu64 u0.Size) 4)) ++ ((bofS u0.Data).1), rfl, hp393, hM385.below⟩
  ·
   have hp398 := hp328.2 hb340; clear hp328
   have hF399 : Fr 45 [] [⟨1, [], .pointer (some ⟨b6, 0, none⟩)⟩, ⟨3, [], .int .i64 u0.Size⟩, ⟨4, [], str (([48] : List UInt8) ++ (fnameS u0))⟩] a338 := hF339.reg; clear hF339
   refine sqH ?_; intro hQ400Q hQ400
   refine s1 hF399 28 (.pointer (some ⟨b6, 1, none⟩)) ?_; intro a401 hF402; clear hF399
   refine l1 hF402 hM326 29 0 1 (.bool u0.Long) rfl rfl ?_; intro a403 hF404; clear hF402
   refine s1 hF404 27 (.bool u0.Long) ?_; intro a405 hF406; clear hF404
   refine nlH (hQ400 _ _ ?_); clear hQ400 hQ400Q
   refine cd hF406 (t := u0.Long) (by kernel_rfl) (fun hb407 => ?_) (fun hb407 => ?_)
   ·
    have hp408 := hp398.1 hb407; clear hp398
    refine rgH ?_; intro hQ409Q hQ409
    refine s1 hF406 30 (str (([48] : List UInt8) ++ (fnameS u0))) ?_; intro a410 hF411; clear hF406
    have hc412 := hp408.1; have hp413 := hp408.2; clear hp408
    refine st hF411 (str ((([48] : List UInt8) ++ (fnameS u0)) ++ ([48, 48] : List UInt8))) (nog rfl _) rfl (by kernel_rfl) (stradd_run hF411 (g := []) rfl (by kernel_rfl) (by kernel_rfl) hc412 rfl) ?_; intro a414 hF415; clear hF411
    refine s1 hF415 4 (str ((([48] : List UInt8) ++ (fnameS u0)) ++ ([48, 48] : List UInt8))) ?_; intro a416 hF417; clear hF415
    refine nlH (hQ409 _ _ ?_); clear hQ409 hQ409Q
    refine ibn ?_
    refine thn ?_
    refine sqH ?_; intro hQ418Q hQ418
    refine s1 hF417 33 (.pointer (some ⟨b6, 5, none⟩)) ?_; intro a419 hF420; clear hF417
    refine l1 hF420 hM326 34 0 5 (.slice ao1 u0.Data.length cap2) rfl rfl ?_; intro a421 hF422; clear hF420
    have hc423 := hp413.1; have hp424 := hp413.2; clear hp413
    refine fcl hF422 hM326 (.tuple #[str ((bofS u0.Data).1), .int .i64 ((bofS u0.Data).2)]) 114 #[.slice ao1 u0.Data.length cap2] (nog rfl _) rfl (by kernel_rfl) (fun _ => by kernel_rfl) (bof_fun u0.Data hc423 ao1 cap2 _ _ hs3 hM326.fz) ?_; intro a425 wd427 hF426 hM428; clear hF422 hM326
    refine s1 hF426 32 (.tuple #[str ((bofS u0.Data).1), .int .i64 ((bofS u0.Data).2)]) ?_; intro a429 hF430; clear hF426
    refine s1 hF430 36 (str ((bofS u0.Data).1)) ?_; intro a431 hF432; clear hF430
    refine s1 hF432 37 (.int .i64 ((bofS u0.Data).2)) ?_; intro a433 hF434; clear hF432
    refine s1 hF434 5 (str ((bofS u0.Data).1)) ?_; intro a435 hF436; clear hF434
    refine s1 hF436 6 (.int .i64 ((bofS u0.Data).2)) ?_; intro a437 hF438; clear hF436
    refine nlH (hQ418 _ _ ?_); clear hQ418 hQ418Q
    have hF439 : Fr 45 [] [⟨3, [], .int .i64 u0.Size⟩, ⟨4, [], str ((([48] : List UInt8) ++ (fnameS u0)) ++ ([48, 48] : List UInt8))⟩, ⟨5, [], str ((bofS u0.Data).1)⟩] a437 := hF438.reg; clear hF438
    refine sqH ?_; intro hQ440Q hQ440
    refine s1 hF439 38 (str ((([48] : List UInt8) ++ (fnameS u0)) ++ ([48, 48] : List UInt8))) ?_; intro a441 hF442; clear hF439
    refine s1 hF442 39 (.int .i64 u0.Size) ?_; intro a443 hF444; clear hF442
    refine s1 hF444 40 (.int .u64 (wu64 u0.Size)) ?_; intro a445 hF446; clear hF444
    have hc447 := hp424.1; have hp448 := hp424.2; clear hp424
    refine fcl hF446 hM428 (str (bwriteS (wu64 u0.Size) 4)) 115 #[.int .u64 (wu64 u0.Size), .int .i64 4] (nog rfl _) rfl (by kernel_rfl) (fun _ => by kernel_rfl) (bwrite_fun (wu64 u0.Size) 4 hc447 _ _ hM428.fz) ?_; intro a449 wd451 hF450 hM452; clear hF446 hM428
    have hc453 := hp448.1; have hp454 := hp448.2; clear hp448
    refine st hF450 (str (((([48] : List UInt8) ++ (fnameS u0)) ++ ([48, 48] : List UInt8)) ++ (bwriteS (wu64 u0.Size) 4))) (nog rfl _) rfl (by kernel_rfl) (stradd_run hF450 (g := []) rfl (by kernel_rfl) (by kernel_rfl) hc453 rfl) ?_; intro a455 hF456; clear hF450
    refine s1 hF456 43 (str ((bofS u0.Data).1)) ?_; intro a457 hF458; clear hF456
    have hc459 := hp454.1; have hp460 := hp454.2; clear hp454
    refine st hF458 (str ((((([48] : List UInt8) ++ (fnameS u0)) ++ ([48, 48] : List UInt8)) ++ (bwriteS (wu64 u0.Size) 4)) ++ ((bofS u0.Data).1))) (nog rfl _) rfl (by kernel_rfl) (stradd_run hF458 (g := []) rfl (by kernel_rfl) (by kernel_rfl) hc459 rfl) ?_; intro a461 hF462; clear hF458
    refine s1 hF462 2 (str ((((([48] : List UInt8) ++ (fnameS u0)) ++ ([48, 48] : List UInt8)) ++ (bwriteS (wu64 u0.Size) 4)) ++ ((bofS u0.Data).1))) ?_; intro a463 hF464; clear hF462
    refine nlH (hQ440 _ _ ?_); clear hQ440 hQ440Q
    refine wp_ret ?_
    refine rt (fn := Try.f87) (v := str ((((([48] : List UInt8) ++ (fnameS u0)) ++ ([48, 48] : List UInt8)) ++ (bwriteS (wu64 u0.Size) 4)) ++ ((bofS u0.Data).1))) hF464 (re1 hF464 (fn := Try.f87) rfl (by kernel_rfl)) ?_
    exact ⟨(((([48] : List UInt8) ++ (fnameS u0)) ++ ([48, 48] : List UInt8)) ++ (bwriteS (wu64 u0.Size) 4)) ++ ((bofS u0.Data).1), rfl, hp460, hM452.below⟩
   ·
    have hp465 := hp398.2 hb407; clear hp398
    refine rgH ?_; intro hQ466Q hQ466
    refine s1 hF406 20 (str (([48] : List UInt8) ++ (fnameS u0))) ?_; intro a467 hF468; clear hF406
    have hc469 := hp465.1; have hp470 := hp465.2; clear hp465
    refine st hF468 (str ((([48] : List UInt8) ++ (fnameS u0)) ++ ([48] : List UInt8))) (nog rfl _) rfl (by kernel_rfl) (stradd_run hF468 (g := []) rfl (by kernel_rfl) (by kernel_rfl) hc469 rfl) ?_; intro a471 hF472; clear hF468
    refine s1 hF472 4 (str ((([48] : List UInt8) ++ (fnameS u0)) ++ ([48] : List UInt8))) ?_; intro a473 hF474; clear hF472
    refine nlH (hQ466 _ _ ?_); clear hQ466 hQ466Q
    refine ibn ?_
    refine thn ?_
    refine sqH ?_; intro hQ475Q hQ475
    refine s1 hF474 33 (.pointer (some ⟨b6, 5, none⟩)) ?_; intro a476 hF477; clear hF474
    refine l1 hF477 hM326 34 0 5 (.slice ao1 u0.Data.length cap2) rfl rfl ?_; intro a478 hF479; clear hF477
    have hc480 := hp470.1; have hp481 := hp470.2; clear hp470
    refine fcl hF479 hM326 (.tuple #[str ((bofS u0.Data).1), .int .i64 ((bofS u0.Data).2)]) 114 #[.slice ao1 u0.Data.length cap2] (nog rfl _) rfl (by kernel_rfl) (fun _ => by kernel_rfl) (bof_fun u0.Data hc480 ao1 cap2 _ _ hs3 hM326.fz) ?_; intro a482 wd484 hF483 hM485; clear hF479 hM326
    refine s1 hF483 32 (.tuple #[str ((bofS u0.Data).1), .int .i64 ((bofS u0.Data).2)]) ?_; intro a486 hF487; clear hF483
    refine s1 hF487 36 (str ((bofS u0.Data).1)) ?_; intro a488 hF489; clear hF487
    refine s1 hF489 37 (.int .i64 ((bofS u0.Data).2)) ?_; intro a490 hF491; clear hF489
    refine s1 hF491 5 (str ((bofS u0.Data).1)) ?_; intro a492 hF493; clear hF491
    refine s1 hF493 6 (.int .i64 ((bofS u0.Data).2)) ?_; intro a494 hF495; clear hF493
    refine nlH (hQ475 _ _ ?_); clear hQ475 hQ475Q
    have hF496 : Fr 45 [] [⟨3, [], .int .i64 u0.Size⟩, ⟨4, [], str ((([48] : List UInt8) ++ (fnameS u0)) ++ ([48] : List UInt8))⟩, ⟨5, [], str ((bofS u0.Data).1)⟩] a494 := hF495.reg; clear hF495
    refine sqH ?_; intro hQ497Q hQ497
    refine s1 hF496 38 (str ((([48] : List UInt8) ++ (fnameS u0)) ++ ([48] : List UInt8))) ?_; intro a498 hF499; clear hF496
    refine s1 hF499 39 (.int .i64 u0.Size) ?_; intro a500 hF501; clear hF499
    refine s1 hF501 40 (.int .u64 (wu64 u0.Size)) ?_; intro a502 hF503; clear hF501
    have hc504 := hp481.1; have hp505 := hp481.2; clear hp481
    refine fcl hF503 hM485 (str (bwriteS (wu64 u0.Size) 4)) 115 #[.int .u64 (wu64 u0.Size), .int .i64 4] (nog rfl _) rfl (by kernel_rfl) (fun _ => by kernel_rfl) (bwrite_fun (wu64 u0.Size) 4 hc504 _ _ hM485.fz) ?_; intro a506 wd508 hF507 hM509; clear hF503 hM485
    have hc510 := hp505.1; have hp511 := hp505.2; clear hp505
    refine st hF507 (str (((([48] : List UInt8) ++ (fnameS u0)) ++ ([48] : List UInt8)) ++ (bwriteS (wu64 u0.Size) 4))) (nog rfl _) rfl (by kernel_rfl) (stradd_run hF507 (g := []) rfl (by kernel_rfl) (by kernel_rfl) hc510 rfl) ?_; intro a512 hF513; clear hF507
    refine s1 hF513 43 (str ((bofS u0.Data).1)) ?_; intro a514 hF515; clear hF513
    have hc516 := hp511.1; have hp517 := hp511.2; clear hp511
    refine st hF515 (str ((((([48] : List UInt8) ++ (fnameS u0)) ++ ([48] : List UInt8)) ++ (bwriteS (wu64 u0.Size) 4)) ++ ((bofS u0.Data).1))) (nog rfl _) rfl (by kernel_rfl) (stradd_run hF515 (g := []) rfl (by kernel_rfl) (by kernel_rfl) hc516 rfl) ?_; intro a518 hF519; clear hF515
    refine s1 hF519 2 (str ((((([48] : List UInt8) ++ (fnameS u0)) ++ ([48] : List UInt8)) ++ (bwriteS (wu64 u0.Size) 4)) ++ ((bofS u0.Data).1))) ?_; intro a520 hF521; clear hF519
    refine nlH (hQ497 _ _ ?_); clear hQ497 hQ497Q
    refine wp_ret ?_
    refine rt (fn := Try.f87) (v := str ((((([48] : List UInt8) ++ (fnameS u0)) ++ ([48] : List UInt8)) ++ (bwriteS (wu64 u0.Size) 4)) ++ ((bofS u0.Data).1))) hF521 (re1 hF521 (fn := Try.f87) rfl (by kernel_rfl)) ?_
    exact ⟨(((([48] : List UInt8) ++ (fnameS u0)) ++ ([48] : List UInt8)) ++ (bwriteS (wu64 u0.Size) 4)) ++ ((bofS u0.Data).1), rfl, hp517, hM509.below⟩

end Go.Proofs.Ytginlmgkimfjmaa
