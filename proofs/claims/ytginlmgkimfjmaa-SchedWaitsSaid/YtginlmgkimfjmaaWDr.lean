/- The walks, made by program: each call does what its pure predicate says. -/
import Derived.Test.YtginlmgkimfjmaaPDr
import Derived.Test.YtginlmgkimfjmaaWDq
set_option linter.unusedVariables false
set_option linter.unusedSimpArgs false
namespace Go.Proofs.Ytginlmgkimfjmaa
open Go.Sy Go.RowKit
theorem ssort_fun (u0 : List Job) (u1 : Job → Job → Int) (hpre : ssortPre u0 u1) (ao1 : Option Addr) (cap2 : Nat) (fid3 : Nat) (caps4 : Array Value) (B : Nat) (w0 : World) (Z0 : Fz) (Rr : List Res) (Z : Fz) (w : World) (hf5 : ∀ (Z1 : Fz) (w1 : World), Z.le Z1 → Z1.on w1 → ∀ (x0 : Job) (x1 : Job), Calls Try.prog fid3 (#[.agg #[.int .i64 x0.task, .int .i64 x0.from_, .int .i64 x0.asked], .agg #[.int .i64 x1.task, .int .i64 x1.from_, .int .i64 x1.asked]] ++ caps4) w1 fun e w2 => e = .returned (.int .i64 (u1 x0 x1)) ∧ Below w1.heap.size w1 w2) (hg6 : ∀ x w, Sem.run Try.prog (callFunc fid3 x) w = .ok (.enter fid3 x) w) (hM0 : Mem B [] w0 Z0 ((.own tyJob 110 ao1 cap2 u0) :: Rr) Z w) (hZ : Z.on w) : Calls Try.prog 51 #[.slice ao1 u0.length cap2, .func (.func fid3) #[] caps4] w fun e w' => ∃ (Z' : Fz), e = .returned (.tuple #[]) ∧ Fz.le Z Z' ∧ ((ssortS u0 u1).length = u0.length) ∧ Mem B [] w0 Z0 ((.own tyJob 110 ao1 cap2 (ssortS u0 u1)) :: Rr) Z' w' :=
  (ssort_walk u0 u1 ao1 cap2 fid3 caps4 B w0 Z0 Rr Z w hf5 hg6 hM0 hZ (ssort_ok u0 u1 hpre)).mono fun _ _ ⟨r, h0, he, hk, f0, f1, hm⟩ => by subst hk; exact ⟨h0, he, f0, f1, hm⟩

set_option maxRecDepth 100000 in
set_option maxHeartbeats 0 in
theorem splay_walk (u0 : List Task) (u1 : List Int) (u2 : List Int) (u3 : Int) (ao1 : Option Addr) (cap2 : Nat) (ao4 : Option Addr) (cap5 : Nat) (ao7 : Option Addr) (cap8 : Nat) (Z : Fz) (w : World) (hs3 : SlR tyTask Z ao1 cap2 u0) (hs6 : SlR (tyInt .i64) Z ao4 cap5 u1) (hs9 : SlR (tyInt .i64) Z ao7 cap8 u2) (hZ : Z.on w) {K : ((List Slot) × Int) → Prop} (hp : splay_vc u0 u1 u2 u3 K) : Calls Try.prog 18 #[.slice ao1 u0.length cap2, .slice ao4 u1.length cap5, .slice ao7 u2.length cap8, .int .i64 u3] w fun e w' => ∃ (r : (List Slot) × Int) (ao1001 : Option Addr) (cap1002 : Nat) (Z' : Fz), e = .returned (.tuple #[.slice ao1001 r.1.length cap1002, .int .i64 r.2]) ∧ K r ∧ Mem w.heap.size [] w Z [.own tySlot 48 ao1001 cap1002 r.1] Z' w' := by
 refine enter0 Try.func18 rfl rfl (by kernel_rfl) ?_; intro a0 hF0; have hM0 := Mem.start w Z hZ; have hle0 := Fz.le.refl Z
 have hp10 := hp (hs3.small); clear hp
 have hp11 := hp10 (hs6.small); clear hp10
 have hp12 := hp11 (hs9.small); clear hp11
 refine sqH ?_; intro hQ13Q hQ13
 refine s1 hF0 8 (.slice none 0 0) ?_; intro a14 hF15; clear hF0
 refine s1 hF15 9 (.int .i64 0) ?_; intro a16 hF17; clear hF15
 refine nlH (hQ13 _ _ ?_); clear hQ13 hQ13Q
 refine wp_seq ?_
 refine sqH ?_; intro hQ18Q hQ18
 refine s1 hF17 28 (.slice ao1 u0.length cap2) ?_; intro a19 hF20; clear hF17
 refine fcl hF20 hM0 (.int .i64 (dcheckS u0)) 47 #[.slice ao1 u0.length cap2] (nog rfl _) rfl (by kernel_rfl) (fun _ => by kernel_rfl) (dcheck_fun u0 ao1 cap2 _ _ hs3 hM0.fz) ?_; intro a21 wd23 hF22 hM24; clear hF20 hM0
 refine s1 hF22 10 (.int .i64 (dcheckS u0)) ?_; intro a25 hF26; clear hF22
 refine nlH (hQ18 _ _ ?_); clear hQ18 hQ18Q
 refine sqH ?_; intro hQ27Q hQ27
 refine s1 hF26 30 (.int .i64 (dcheckS u0)) ?_; intro a28 hF29; clear hF26
 refine s1 hF29 31 (.bool ((dcheckS u0) != 0)) ?_; intro a30 hF31; clear hF29
 refine nlH (hQ27 _ _ ?_); clear hQ27 hQ27Q
 refine cd hF31 (t := (dcheckS u0) != 0) (by kernel_rfl) (fun hb32 => ?_) (fun hb32 => ?_)
 ·
  have hp33 := hp12.1 hb32; clear hp12
  refine sqH ?_; intro hQ34Q hQ34
  refine s1 hF31 32 (.int .i64 (dcheckS u0)) ?_; intro a35 hF36; clear hF31
  refine s1 hF36 8 (.slice none 0 0) ?_; intro a37 hF38; clear hF36
  refine s1 hF38 9 (.int .i64 (dcheckS u0)) ?_; intro a39 hF40; clear hF38
  refine nlH (hQ34 _ _ ?_); clear hQ34 hQ34Q
  refine wp_ret ?_
  refine thr ?_
  have hM41 : Mem w.heap.size [] w Z [.own tySlot 48 none 0 ([] : List Slot)] Z wd23 := hM24.addNil tySlot 48 (by decide); clear hM24
  refine rt (fn := Try.f18) (v := .tuple #[.slice none ([] : List Slot).length 0, .int .i64 (dcheckS u0)]) hF40 (re2 hF40 (fn := Try.f18) rfl (by kernel_rfl) (by kernel_rfl)) ?_
  exact ⟨(([] : List Slot), (dcheckS u0)), none, 0, Z, rfl, hp33, hM41.keep (List.Sublist.cons_cons _ (List.Sublist.slnil))⟩
 ·
  have hp42 := hp12.2 hb32; clear hp12
  refine wp_skip ?_
  refine thn ?_
  refine wp_seq ?_
  refine sqH ?_; intro hQ43Q hQ43
  refine s1 hF31 33 (.slice ao4 u1.length cap5) ?_; intro a44 hF45; clear hF31
  refine s1 hF45 34 (.int .i64 (u1.length : Int)) ?_; intro a46 hF47; clear hF45
  refine s1 hF47 35 (.slice ao1 u0.length cap2) ?_; intro a48 hF49; clear hF47
  refine s1 hF49 36 (.int .i64 (u0.length : Int)) ?_; intro a50 hF51; clear hF49
  refine s1 hF51 37 (.bool ((u1.length : Int) != (u0.length : Int))) ?_; intro a52 hF53; clear hF51
  refine s1 hF53 38 (.bool ((u1.length : Int) != (u0.length : Int))) ?_; intro a54 hF55; clear hF53
  have hF56 := hF55.atom (((u1.length : Int) != (u0.length : Int)) == false) (by kernel_rfl); clear hF55
  refine gp hF56 39 0 [] ((u1.length : Int) != (u0.length : Int)) (.slice ao7 u2.length cap8) rfl rfl ?_; intro a57 hF58; clear hF56
  refine gp hF58 40 0 [] ((u1.length : Int) != (u0.length : Int)) (.int .i64 (u2.length : Int)) rfl rfl ?_; intro a59 hF60; clear hF58
  refine gp hF60 41 0 [] ((u1.length : Int) != (u0.length : Int)) (.bool (decide ((u2.length : Int) > 1000))) rfl rfl ?_; intro a61 hF62; clear hF60
  refine st hF62 (.bool (((u1.length : Int) != (u0.length : Int)) || (decide ((u2.length : Int) > 1000)))) (nog rfl _) rfl (by kernel_rfl) (pk_or hF62 (g := []) (m := 0) (b := (u1.length : Int) != (u0.length : Int)) (v := decide ((u2.length : Int) > 1000)) rfl (by kernel_rfl) (by kernel_rfl) (by kernel_rfl) rfl) ?_; intro a63 hF64; clear hF62
  refine s1 hF64 43 (.bool (((u1.length : Int) != (u0.length : Int)) || (decide ((u2.length : Int) > 1000)))) ?_; intro a65 hF66; clear hF64
  have hF67 := hF66.atom ((((u1.length : Int) != (u0.length : Int)) || (decide ((u2.length : Int) > 1000))) == false) (by kernel_rfl); clear hF66
  refine gp hF67 44 1 [] (((u1.length : Int) != (u0.length : Int)) || (decide ((u2.length : Int) > 1000))) (.int .i64 u3) rfl rfl ?_; intro a68 hF69; clear hF67
  refine gp hF69 45 1 [] (((u1.length : Int) != (u0.length : Int)) || (decide ((u2.length : Int) > 1000))) (.bool (decide (u3 < 0))) rfl rfl ?_; intro a70 hF71; clear hF69
  refine st hF71 (.bool ((((u1.length : Int) != (u0.length : Int)) || (decide ((u2.length : Int) > 1000))) || (decide (u3 < 0)))) (nog rfl _) rfl (by kernel_rfl) (pk_or hF71 (g := []) (m := 1) (b := ((u1.length : Int) != (u0.length : Int)) || (decide ((u2.length : Int) > 1000))) (v := decide (u3 < 0)) rfl (by kernel_rfl) (by kernel_rfl) (by kernel_rfl) rfl) ?_; intro a72 hF73; clear hF71
  refine s1 hF73 47 (.bool ((((u1.length : Int) != (u0.length : Int)) || (decide ((u2.length : Int) > 1000))) || (decide (u3 < 0)))) ?_; intro a74 hF75; clear hF73
  have hF76 := hF75.atom (((((u1.length : Int) != (u0.length : Int)) || (decide ((u2.length : Int) > 1000))) || (decide (u3 < 0))) == false) (by kernel_rfl); clear hF75
  refine gp hF76 48 2 [] ((((u1.length : Int) != (u0.length : Int)) || (decide ((u2.length : Int) > 1000))) || (decide (u3 < 0))) (.int .i64 u3) rfl rfl ?_; intro a77 hF78; clear hF76
  refine gp hF78 49 2 [] ((((u1.length : Int) != (u0.length : Int)) || (decide ((u2.length : Int) > 1000))) || (decide (u3 < 0))) (.bool (decide (u3 > 1000000))) rfl rfl ?_; intro a79 hF80; clear hF78
  refine st hF80 (.bool (((((u1.length : Int) != (u0.length : Int)) || (decide ((u2.length : Int) > 1000))) || (decide (u3 < 0))) || (decide (u3 > 1000000)))) (nog rfl _) rfl (by kernel_rfl) (pk_or hF80 (g := []) (m := 2) (b := (((u1.length : Int) != (u0.length : Int)) || (decide ((u2.length : Int) > 1000))) || (decide (u3 < 0))) (v := decide (u3 > 1000000)) rfl (by kernel_rfl) (by kernel_rfl) (by kernel_rfl) rfl) ?_; intro a81 hF82; clear hF80
  refine nlH (hQ43 _ _ ?_); clear hQ43 hQ43Q
  refine cd hF82 (t := ((((u1.length : Int) != (u0.length : Int)) || (decide ((u2.length : Int) > 1000))) || (decide (u3 < 0))) || (decide (u3 > 1000000))) (by kernel_rfl) (fun hb83 => ?_) (fun hb83 => ?_)
  ·
   have hp84 := hp42.1 hb83; clear hp42
   have hF85 : Fr 189 [] [] a81 := hF82.reg; clear hF82
   refine sqH ?_; intro hQ86Q hQ86
   refine s1 hF85 8 (.slice none 0 0) ?_; intro a87 hF88; clear hF85
   refine s1 hF88 9 (.int .i64 2) ?_; intro a89 hF90; clear hF88
   refine nlH (hQ86 _ _ ?_); clear hQ86 hQ86Q
   refine wp_ret ?_
   refine thr ?_
   have hM91 : Mem w.heap.size [] w Z [.own tySlot 48 none 0 ([] : List Slot)] Z wd23 := hM24.addNil tySlot 48 (by decide); clear hM24
   refine rt (fn := Try.f18) (v := .tuple #[.slice none ([] : List Slot).length 0, .int .i64 2]) hF90 (re2 hF90 (fn := Try.f18) rfl (by kernel_rfl) (by kernel_rfl)) ?_
   exact ⟨(([] : List Slot), 2), none, 0, Z, rfl, hp84, hM91.keep (List.Sublist.cons_cons _ (List.Sublist.slnil))⟩
  ·
   have hp92 := hp42.2 hb83; clear hp42
   refine wp_skip ?_
   refine thn ?_
   have hF93 : Fr 189 [] [⟨0, [], .slice ao1 u0.length cap2⟩, ⟨1, [], .slice ao4 u1.length cap5⟩, ⟨2, [], .slice ao7 u2.length cap8⟩, ⟨3, [], .int .i64 u3⟩] a81 := hF82.reg; clear hF82
   refine sqH ?_; intro hQ94Q hQ94
   refine s1 hF93 11 (.slice none 0 0) ?_; intro a95 hF96; clear hF93
   refine nlH (hQ94 _ _ ?_); clear hQ94 hQ94Q
   refine sqH ?_; intro hQ97Q hQ97
   refine s1 hF96 12 (.int .i64 0) ?_; intro a98 hF99; clear hF96
   refine nlH (hQ97 _ _ ?_); clear hQ97 hQ97Q
   refine wp_seq ?_
   refine sqH ?_; intro hQ100Q hQ100
   refine s1 hF99 51 (.slice ao1 u0.length cap2) ?_; intro a101 hF102; clear hF99
   refine s1 hF102 52 (.int .i64 (u0.length : Int)) ?_; intro a103 hF104; clear hF102
   refine s1 hF104 53 (.int .i64 0) ?_; intro a105 hF106; clear hF104
   refine nlH (hQ100 _ _ ?_); clear hQ100 hQ100Q
   refine wp_block ?_
   have hF107 : Fr 189 [] [⟨0, [], .slice ao1 u0.length cap2⟩, ⟨1, [], .slice ao4 u1.length cap5⟩, ⟨2, [], .slice ao7 u2.length cap8⟩, ⟨3, [], .int .i64 u3⟩, ⟨11, [], .slice none 0 0⟩, ⟨12, [], .int .i64 0⟩, ⟨51, [], .slice ao1 u0.length cap2⟩, ⟨52, [], .int .i64 (u0.length : Int)⟩, ⟨53, [], .int .i64 0⟩] a105 := hF106.reg; clear hF106
   have hM109 : Mem w.heap.size [] w Z [.own tyJob 110 none 0 ([] : List Job)] Z wd23 := hM24.addNil tyJob 110 (by decide); clear hM24
   have hF110 : Fr 189 [] [⟨0, [], .slice ao1 u0.length cap2⟩, ⟨1, [], .slice ao4 u1.length cap5⟩, ⟨2, [], .slice ao7 u2.length cap8⟩, ⟨3, [], .int .i64 u3⟩, ⟨11, [], .slice none ([] : List Job).length 0⟩, ⟨12, [], .int .i64 0⟩, ⟨51, [], .slice ao1 u0.length cap2⟩, ⟨52, [], .int .i64 (u0.length : Int)⟩, ⟨53, [], .int .i64 0⟩] a105 := hF107.reg; clear hF107
   obtain ⟨inv108, mu108, hI113, hr112⟩ := hp92
   refine lp (ι := (List Job) × Int × Int × (Option Addr) × Nat) (fun (s : (List Job) × Int × Int × (Option Addr) × Nat) => [⟨0, [], .slice ao1 u0.length cap2⟩, ⟨1, [], .slice ao4 u1.length cap5⟩, ⟨2, [], .slice ao7 u2.length cap8⟩, ⟨3, [], .int .i64 u3⟩, ⟨11, [], .slice s.2.2.2.1 s.1.length s.2.2.2.2⟩, ⟨12, [], .int .i64 s.2.1⟩, ⟨51, [], .slice ao1 u0.length cap2⟩, ⟨52, [], .int .i64 (u0.length : Int)⟩, ⟨53, [], .int .i64 s.2.2.1⟩]) (fun (s : (List Job) × Int × Int × (Option Addr) × Nat) => [.own tyJob 110 s.2.2.2.1 s.2.2.2.2 s.1]) (fun (s : (List Job) × Int × Int × (Option Addr) × Nat) => Z) (fun (s : (List Job) × Int × Int × (Option Addr) × Nat) => inv108 s.1 s.2.1 s.2.2.1) (fun (s : (List Job) × Int × Int × (Option Addr) × Nat) => mu108 s.1 s.2.1 s.2.2.1) ⟨([] : List Job), 0, 0, none, 0⟩ hI113 (by exact hF110.reg) (by exact hM109) ?_
   rintro ⟨x11, x12, x53, aox11, capx11⟩ hI111 a115 wd116 hF117 hM118
   have hF119 : Fr 189 [] [⟨0, [], .slice ao1 u0.length cap2⟩, ⟨1, [], .slice ao4 u1.length cap5⟩, ⟨2, [], .slice ao7 u2.length cap8⟩, ⟨3, [], .int .i64 u3⟩, ⟨11, [], .slice aox11 x11.length capx11⟩, ⟨12, [], .int .i64 x12⟩, ⟨51, [], .slice ao1 u0.length cap2⟩, ⟨52, [], .int .i64 (u0.length : Int)⟩, ⟨53, [], .int .i64 x53⟩] a115 := hF117; clear hF117 hF110
   have hM120 : Mem w.heap.size [] w Z [.own tyJob 110 aox11 capx11 x11] Z wd116 := hM118; clear hM118 hM109
   have hp121 := hr112 x11 x12 x53 hI111
   refine sqH ?_; intro hQ122Q hQ122
   refine s1 hF119 54 (.bool (decide (x53 < (u0.length : Int)))) ?_; intro a123 hF124; clear hF119
   refine nlH (hQ122 _ _ ?_); clear hQ122 hQ122Q
   refine wp_seq ?_
   refine cd hF124 (t := decide (x53 < (u0.length : Int))) (by kernel_rfl) (fun hb125 => ?_) (fun hb125 => ?_)
   ·
    have hp126 := hp121.1 hb125; clear hp121
    refine wp_skip ?_
    refine thn ?_
    have hF127 : Fr 189 [] [⟨0, [], .slice ao1 u0.length cap2⟩, ⟨1, [], .slice ao4 u1.length cap5⟩, ⟨2, [], .slice ao7 u2.length cap8⟩, ⟨3, [], .int .i64 u3⟩, ⟨11, [], .slice aox11 x11.length capx11⟩, ⟨12, [], .int .i64 x12⟩, ⟨51, [], .slice ao1 u0.length cap2⟩, ⟨52, [], .int .i64 (u0.length : Int)⟩, ⟨53, [], .int .i64 x53⟩] a123 := hF124.reg; clear hF124
    have hF129 : Fr 189 [] [⟨0, [], .slice ao1 u0.length cap2⟩, ⟨1, [], .slice ao4 u1.length cap5⟩, ⟨2, [], .slice ao7 u2.length cap8⟩, ⟨3, [], .int .i64 u3⟩, ⟨11, [], .slice aox11 x11.length capx11⟩, ⟨12, [], .int .i64 x12⟩, ⟨51, [], .slice ao1 u0.length cap2⟩, ⟨52, [], .int .i64 (u0.length : Int)⟩, ⟨53, [], .int .i64 x53⟩] a123 := hF127.reg; clear hF127
    obtain ⟨inv128, hp130, hp131⟩ := hp126
    refine wp_seq_k fun KJ132 hKJ133 => ?_
    have hJ134 : ∀ (x11v : List Job) (x12v : Int) (aox11v : Option Addr) (capx11v : Nat), inv128 x11v x12v → ∀ a1 w1, Fr 189 [] [⟨0, [], .slice ao1 u0.length cap2⟩, ⟨1, [], .slice ao4 u1.length cap5⟩, ⟨2, [], .slice ao7 u2.length cap8⟩, ⟨3, [], .int .i64 u3⟩, ⟨11, [], .slice aox11v x11v.length capx11v⟩, ⟨12, [], .int .i64 x12v⟩, ⟨51, [], .slice ao1 u0.length cap2⟩, ⟨52, [], .int .i64 (u0.length : Int)⟩, ⟨53, [], .int .i64 x53⟩] a1 → Mem w.heap.size [] w Z [.own tyJob 110 aox11v capx11v x11v] Z w1 → KJ132 a1 w1 := by
     rintro x11v x12v aox11v capx11v hI139 a135 wd136 hF137 hM138; clear hF129 hM120
     refine hKJ133 _ _ ?_; clear hKJ133
     have hp140 := hp131 x11v x12v hI139
     refine rgH ?_; intro hQ141Q hQ141
     refine s1 hF137 120 (.int .i64 (w64 (x53 + 1))) ?_; intro a142 hF143; clear hF137
     refine s1 hF143 53 (.int .i64 (w64 (x53 + 1))) ?_; intro a144 hF145; clear hF143
     refine nlH (hQ141 _ _ ?_); clear hQ141 hQ141Q
     refine rd ?_
     exact ⟨⟨x11v, x12v, w64 (x53 + 1), aox11v, capx11v⟩, hp140.1, hp140.2, (hF145.reg).anyβ _ (by kernel_rfl), hM138.keep (List.Sublist.cons_cons _ (List.Sublist.slnil))⟩
    refine wp_block ?_
    refine sqH ?_; intro hQ146Q hQ146
    refine s1 hF129 55 (.int .i64 x53) ?_; intro a147 hF148; clear hF129
    have hc149 := hp130.1; have hp150 := hp130.2; clear hp130
    refine ix hF148 (T := tyTask) (xs := u0) hs3 x53 hc149 (k := .i64) (e := 34) (bytes := 40) (nog rfl _) rfl (by kernel_rfl) rfl (by kernel_rfl) (by kernel_rfl) (by kernel_rfl) ?_; intro b151 off152 cs153 q154 a158 hq155 hP156 hT157 hF159; clear hF148
    have hp160 := hp150 q154 hq155; clear hp150
    obtain rfl : cs153 = ([.int .i64 q154.ID, .int .i64 q154.Bytes, .int .i64 q154.Every, .int .i64 q154.Late, .int .i64 q154.Jitter] : List Value) := hT157
    refine z2 hF159 hM120 57 hP156 0 5 [.int .i64 q154.ID, .int .i64 q154.Bytes, .int .i64 q154.Every, .int .i64 q154.Late, .int .i64 q154.Jitter] rfl ?_; intro a161 hF162; clear hF159
    refine sn hF162 hM120 (fun b => .pointer (some ⟨b, 0, none⟩)) [.int .i64 0, .int .i64 0, .int .i64 0, .int .i64 0, .int .i64 0] 34 (nog rfl _) rfl (by kernel_rfl) (by kernel_rfl) ?_; intro b163 a164 wd166 hF165 hM167; clear hF162 hM120
    refine s1 hF165 13 (.int .i64 x53) ?_; intro a168 hF169; clear hF165
    refine sr hF169 hM167 0 [.int .i64 q154.ID, .int .i64 q154.Bytes, .int .i64 q154.Every, .int .i64 q154.Late, .int .i64 q154.Jitter] (b := b163) (off := 0) (cs := [.int .i64 0, .int .i64 0, .int .i64 0, .int .i64 0, .int .i64 0]) (ty := 34) (u := .agg #[.int .i64 q154.ID, .int .i64 q154.Bytes, .int .i64 q154.Every, .int .i64 q154.Late, .int .i64 q154.Jitter]) (nog rfl _) rfl rfl (by kernel_rfl) (by kernel_rfl) (by kernel_rfl) (by kernel_rfl) (by kernel_rfl) (by kernel_rfl) (by kernel_rfl) ?_; intro wd170 hM171; clear hM167
    have hM172 : Mem w.heap.size [] w Z [.row b163 [.int .i64 q154.ID, .int .i64 q154.Bytes, .int .i64 q154.Every, .int .i64 q154.Late, .int .i64 q154.Jitter] 34, .own tyJob 110 aox11 capx11 x11] Z wd170 := hM171; clear hM171
    refine nlH (hQ146 _ _ ?_); clear hQ146 hQ146Q
    refine wp_seq ?_
    refine sqH ?_; intro hQ173Q hQ173
    refine s1 hF169 58 (.slice ao4 u1.length cap5) ?_; intro a174 hF175; clear hF169
    refine s1 hF175 59 (.int .i64 x53) ?_; intro a176 hF177; clear hF175
    have hc178 := hp160.1; have hp179 := hp160.2; clear hp160
    refine ix hF177 (T := (tyInt .i64)) (xs := u1) hs6 x53 hc178 (k := .i64) (e := 3) (bytes := 8) (nog rfl _) rfl (by kernel_rfl) rfl (by kernel_rfl) (by kernel_rfl) (by kernel_rfl) ?_; intro b180 off181 cs182 q183 a187 hq184 hP185 hT186 hF188; clear hF177
    have hp189 := hp179 q183 hq184; clear hp179
    obtain rfl : cs182 = ([.int .i64 q183] : List Value) := hT186
    refine z1 hF188 hM172 61 hP185 0 (.int .i64 q183) rfl ?_; intro a190 hF191; clear hF188
    refine s1 hF191 62 (.bool (decide (q183 < 0))) ?_; intro a192 hF193; clear hF191
    refine s1 hF193 63 (.bool (decide (q183 < 0))) ?_; intro a194 hF195; clear hF193
    have hF196 := hF195.atom ((decide (q183 < 0)) == false) (by kernel_rfl); clear hF195
    refine gp hF196 64 0 [] (decide (q183 < 0)) (.slice ao4 u1.length cap5) rfl rfl ?_; intro a197 hF198; clear hF196
    refine gp hF198 65 0 [] (decide (q183 < 0)) (.int .i64 x53) rfl rfl ?_; intro a199 hF200; clear hF198
    rcases Bool.eq_false_or_eq_true (decide (q183 < 0)) with hb201 | hb201
    ·
     have hp202 := hp189.1 hb201; clear hp189
     have hF203 := hF200.reval (d := 63) (c := []) (v := .bool (decide (q183 < 0))) (by kernel_rfl) (.bool true) (by rw [hb201]); clear hF200
     have hF204 := hF203.setc (d := 64) (c := [0]) (v := .slice ao4 u1.length cap5) (by kernel_rfl) (v' := undef) (by rw [hb201]; kernel_rfl); clear hF203
     have hF205 := hF204.setc (d := 65) (c := [0]) (v := .int .i64 x53) (by kernel_rfl) (v' := undef) (by rw [hb201]; kernel_rfl); clear hF204
     refine sk hF205 (b := true) rfl rfl (by kernel_rfl) (by kernel_rfl) rfl rfl (by kernel_rfl) ?_; intro a206 hF207; clear hF205
     refine sk hF207 (b := true) rfl rfl (by kernel_rfl) (by kernel_rfl) rfl rfl (by kernel_rfl) ?_; intro a208 hF209; clear hF207
     refine sk hF209 (b := true) rfl rfl (by kernel_rfl) (by kernel_rfl) rfl rfl (by kernel_rfl) ?_; intro a210 hF211; clear hF209
     refine s1 hF211 69 (.bool true) ?_; intro a212 hF213; clear hF211
     refine nlH (hQ173 _ _ ?_); clear hQ173 hQ173Q
     refine cdT hF213 (by kernel_rfl) ?_
     have hF214 : Fr 189 [] [] a212 := hF213.reg; clear hF213
     refine sqH ?_; intro hQ215Q hQ215
     refine s1 hF214 8 (.slice none 0 0) ?_; intro a216 hF217; clear hF214
     refine s1 hF217 9 (.int .i64 3) ?_; intro a218 hF219; clear hF217
     refine nlH (hQ215 _ _ ?_); clear hQ215 hQ215Q
     refine wp_ret ?_
     refine thr ?_
     refine ibr ?_
     refine thr ?_
     refine thr ?_
     refine ibr ?_
     refine thr ?_
     have hM220 : Mem w.heap.size [] w Z [.own tySlot 48 none 0 ([] : List Slot), .row b163 [.int .i64 q154.ID, .int .i64 q154.Bytes, .int .i64 q154.Every, .int .i64 q154.Late, .int .i64 q154.Jitter] 34, .own tyJob 110 aox11 capx11 x11] Z wd170 := hM172.addNil tySlot 48 (by decide); clear hM172
     refine rt (fn := Try.f18) (v := .tuple #[.slice none ([] : List Slot).length 0, .int .i64 3]) hF219 (re2 hF219 (fn := Try.f18) rfl (by kernel_rfl) (by kernel_rfl)) ?_
     exact ⟨(([] : List Slot), 3), none, 0, Z, rfl, hp202, hM220.keep (List.Sublist.cons_cons _ (List.Sublist.cons _ (List.Sublist.cons _ (List.Sublist.slnil))))⟩
    ·
     have hp221 := hp189.2 hb201; clear hp189
     have hF222 := hF200.reval (d := 63) (c := []) (v := .bool (decide (q183 < 0))) (by kernel_rfl) (.bool false) (by rw [hb201]); clear hF200
     have hF223 := hF222.setc (d := 64) (c := [0]) (v := .slice ao4 u1.length cap5) (by kernel_rfl) (v' := .slice ao4 u1.length cap5) (by rw [hb201]; kernel_rfl); clear hF222
     have hF224 := hF223.setc (d := 65) (c := [0]) (v := .int .i64 x53) (by kernel_rfl) (v' := .int .i64 x53) (by rw [hb201]; kernel_rfl); clear hF223
     have hc225 := hp221.1; have hp226 := hp221.2; clear hp221
     refine ix hF224 (T := (tyInt .i64)) (xs := u1) hs6 x53 hc225 (k := .i64) (e := 3) (bytes := 8) (by rw [wanted_of hF224 (b := false) rfl rfl (by kernel_rfl) (by kernel_rfl)]; rfl) rfl (by kernel_rfl) rfl (by kernel_rfl) (by kernel_rfl) (by kernel_rfl) ?_; intro b227 off228 cs229 q230 a234 hq231 hP232 hT233 hF235; clear hF224
     have hp236 := hp226 q230 hq231; clear hp226
     obtain rfl : cs229 = ([.int .i64 q230] : List Value) := hT233
     refine st hF235 (.int .i64 q230) (by rw [wanted_of hF235 (b := false) rfl rfl (by kernel_rfl) (by kernel_rfl)]; rfl) rfl (by kernel_rfl) (lz hF235 hM172.fz hP232 0 (g := []) rfl (by kernel_rfl) (by kernel_rfl) (by kernel_rfl) rfl) ?_; intro a237 hF238; clear hF235
     refine st hF238 (.bool (decide (q230 > 1000000))) (by rw [wanted_of hF238 (b := false) rfl rfl (by kernel_rfl) (by kernel_rfl)]; rfl) rfl (by kernel_rfl) (p0 hF238 (by kernel_rfl)) ?_; intro a239 hF240; clear hF238
     refine s1 hF240 69 (.bool (decide (q230 > 1000000))) ?_; intro a241 hF242; clear hF240
     refine nlH (hQ173 _ _ ?_); clear hQ173 hQ173Q
     refine cd hF242 (t := decide (q230 > 1000000)) (by kernel_rfl) (fun hb243 => ?_) (fun hb243 => ?_)
     ·
      have hp244 := hp236.1 hb243; clear hp236
      have hF245 : Fr 189 [] [] a241 := hF242.reg; clear hF242
      refine sqH ?_; intro hQ246Q hQ246
      refine s1 hF245 8 (.slice none 0 0) ?_; intro a247 hF248; clear hF245
      refine s1 hF248 9 (.int .i64 3) ?_; intro a249 hF250; clear hF248
      refine nlH (hQ246 _ _ ?_); clear hQ246 hQ246Q
      refine wp_ret ?_
      refine thr ?_
      refine ibr ?_
      refine thr ?_
      refine thr ?_
      refine ibr ?_
      refine thr ?_
      have hM251 : Mem w.heap.size [] w Z [.own tySlot 48 none 0 ([] : List Slot), .row b163 [.int .i64 q154.ID, .int .i64 q154.Bytes, .int .i64 q154.Every, .int .i64 q154.Late, .int .i64 q154.Jitter] 34, .own tyJob 110 aox11 capx11 x11] Z wd170 := hM172.addNil tySlot 48 (by decide); clear hM172
      refine rt (fn := Try.f18) (v := .tuple #[.slice none ([] : List Slot).length 0, .int .i64 3]) hF250 (re2 hF250 (fn := Try.f18) rfl (by kernel_rfl) (by kernel_rfl)) ?_
      exact ⟨(([] : List Slot), 3), none, 0, Z, rfl, hp244, hM251.keep (List.Sublist.cons_cons _ (List.Sublist.cons _ (List.Sublist.cons _ (List.Sublist.slnil))))⟩
     ·
      have hp252 := hp236.2 hb243; clear hp236
      refine wp_skip ?_
      refine thn ?_
      have hF253 : Fr 189 [] [⟨0, [], .slice ao1 u0.length cap2⟩, ⟨1, [], .slice ao4 u1.length cap5⟩, ⟨2, [], .slice ao7 u2.length cap8⟩, ⟨3, [], .int .i64 u3⟩, ⟨11, [], .slice aox11 x11.length capx11⟩, ⟨12, [], .int .i64 x12⟩, ⟨13, [], .int .i64 x53⟩, ⟨14, [], .pointer (some ⟨b163, 0, none⟩)⟩, ⟨51, [], .slice ao1 u0.length cap2⟩, ⟨52, [], .int .i64 (u0.length : Int)⟩, ⟨53, [], .int .i64 x53⟩] a241 := hF242.reg; clear hF242
      refine sqH ?_; intro hQ254Q hQ254
      refine s1 hF253 70 (.slice ao4 u1.length cap5) ?_; intro a255 hF256; clear hF253
      refine s1 hF256 71 (.int .i64 x53) ?_; intro a257 hF258; clear hF256
      have hc259 := hp252.1; have hp260 := hp252.2; clear hp252
      refine ix hF258 (T := (tyInt .i64)) (xs := u1) hs6 x53 hc259 (k := .i64) (e := 3) (bytes := 8) (nog rfl _) rfl (by kernel_rfl) rfl (by kernel_rfl) (by kernel_rfl) (by kernel_rfl) ?_; intro b261 off262 cs263 q264 a268 hq265 hP266 hT267 hF269; clear hF258
      have hp270 := hp260 q264 hq265; clear hp260
      obtain rfl : cs263 = ([.int .i64 q264] : List Value) := hT267
      refine z1 hF269 hM172 73 hP266 0 (.int .i64 q264) rfl ?_; intro a271 hF272; clear hF269
      refine s1 hF272 15 (.int .i64 q264) ?_; intro a273 hF274; clear hF272
      refine nlH (hQ254 _ _ ?_); clear hQ254 hQ254Q
      refine wp_block ?_
      have hF275 : Fr 189 [] [⟨0, [], .slice ao1 u0.length cap2⟩, ⟨1, [], .slice ao4 u1.length cap5⟩, ⟨2, [], .slice ao7 u2.length cap8⟩, ⟨3, [], .int .i64 u3⟩, ⟨11, [], .slice aox11 x11.length capx11⟩, ⟨12, [], .int .i64 x12⟩, ⟨13, [], .int .i64 x53⟩, ⟨14, [], .pointer (some ⟨b163, 0, none⟩)⟩, ⟨15, [], .int .i64 q264⟩, ⟨51, [], .slice ao1 u0.length cap2⟩, ⟨52, [], .int .i64 (u0.length : Int)⟩, ⟨53, [], .int .i64 x53⟩] a273 := hF274.reg; clear hF274
      have hF277 : Fr 189 [] [⟨0, [], .slice ao1 u0.length cap2⟩, ⟨1, [], .slice ao4 u1.length cap5⟩, ⟨2, [], .slice ao7 u2.length cap8⟩, ⟨3, [], .int .i64 u3⟩, ⟨11, [], .slice aox11 x11.length capx11⟩, ⟨12, [], .int .i64 x12⟩, ⟨13, [], .int .i64 x53⟩, ⟨14, [], .pointer (some ⟨b163, 0, none⟩)⟩, ⟨15, [], .int .i64 q264⟩, ⟨51, [], .slice ao1 u0.length cap2⟩, ⟨52, [], .int .i64 (u0.length : Int)⟩, ⟨53, [], .int .i64 x53⟩] a273 := hF275.reg; clear hF275
      obtain ⟨inv276, mu276, hI280, hr279⟩ := hp270
      refine lp (ι := (List Job) × Int × Int × (Option Addr) × Nat) (fun (s : (List Job) × Int × Int × (Option Addr) × Nat) => [⟨0, [], .slice ao1 u0.length cap2⟩, ⟨1, [], .slice ao4 u1.length cap5⟩, ⟨2, [], .slice ao7 u2.length cap8⟩, ⟨3, [], .int .i64 u3⟩, ⟨11, [], .slice s.2.2.2.1 s.1.length s.2.2.2.2⟩, ⟨12, [], .int .i64 s.2.1⟩, ⟨13, [], .int .i64 x53⟩, ⟨14, [], .pointer (some ⟨b163, 0, none⟩)⟩, ⟨15, [], .int .i64 s.2.2.1⟩, ⟨51, [], .slice ao1 u0.length cap2⟩, ⟨52, [], .int .i64 (u0.length : Int)⟩, ⟨53, [], .int .i64 x53⟩]) (fun (s : (List Job) × Int × Int × (Option Addr) × Nat) => [.row b163 [.int .i64 q154.ID, .int .i64 q154.Bytes, .int .i64 q154.Every, .int .i64 q154.Late, .int .i64 q154.Jitter] 34, .own tyJob 110 s.2.2.2.1 s.2.2.2.2 s.1]) (fun (s : (List Job) × Int × Int × (Option Addr) × Nat) => Z) (fun (s : (List Job) × Int × Int × (Option Addr) × Nat) => inv276 s.1 s.2.1 s.2.2.1) (fun (s : (List Job) × Int × Int × (Option Addr) × Nat) => mu276 s.1 s.2.1 s.2.2.1) ⟨x11, x12, q264, aox11, capx11⟩ hI280 (by exact hF277.reg) (by exact hM172) ?_
      rintro ⟨x11vv, x12vv, x15, aox11vv, capx11vv⟩ hI278 a282 wd283 hF284 hM285
      have hF286 : Fr 189 [] [⟨0, [], .slice ao1 u0.length cap2⟩, ⟨1, [], .slice ao4 u1.length cap5⟩, ⟨2, [], .slice ao7 u2.length cap8⟩, ⟨3, [], .int .i64 u3⟩, ⟨11, [], .slice aox11vv x11vv.length capx11vv⟩, ⟨12, [], .int .i64 x12vv⟩, ⟨13, [], .int .i64 x53⟩, ⟨14, [], .pointer (some ⟨b163, 0, none⟩)⟩, ⟨15, [], .int .i64 x15⟩, ⟨51, [], .slice ao1 u0.length cap2⟩, ⟨52, [], .int .i64 (u0.length : Int)⟩, ⟨53, [], .int .i64 x53⟩] a282 := hF284; clear hF284 hF277
      have hM287 : Mem w.heap.size [] w Z [.row b163 [.int .i64 q154.ID, .int .i64 q154.Bytes, .int .i64 q154.Every, .int .i64 q154.Late, .int .i64 q154.Jitter] 34, .own tyJob 110 aox11vv capx11vv x11vv] Z wd283 := hM285; clear hM285 hM172
      have hp288 := hr279 x11vv x12vv x15 hI278
      refine wp_seq ?_
      refine sqH ?_; intro hQ289Q hQ289
      refine s1 hF286 74 (.int .i64 x15) ?_; intro a290 hF291; clear hF286
      refine s1 hF291 75 (.int .i64 u3) ?_; intro a292 hF293; clear hF291
      refine s1 hF293 76 (.bool (decide (x15 < u3))) ?_; intro a294 hF295; clear hF293
      refine nlH (hQ289 _ _ ?_); clear hQ289 hQ289Q
      refine cd hF295 (t := decide (x15 < u3)) (by kernel_rfl) (fun hb296 => ?_) (fun hb296 => ?_)
      ·
       have hp297 := hp288.1 hb296; clear hp288
       refine wp_skip ?_
       refine thn ?_
       have hF298 : Fr 189 [] [⟨0, [], .slice ao1 u0.length cap2⟩, ⟨1, [], .slice ao4 u1.length cap5⟩, ⟨2, [], .slice ao7 u2.length cap8⟩, ⟨3, [], .int .i64 u3⟩, ⟨11, [], .slice aox11vv x11vv.length capx11vv⟩, ⟨12, [], .int .i64 x12vv⟩, ⟨13, [], .int .i64 x53⟩, ⟨14, [], .pointer (some ⟨b163, 0, none⟩)⟩, ⟨15, [], .int .i64 x15⟩, ⟨51, [], .slice ao1 u0.length cap2⟩, ⟨52, [], .int .i64 (u0.length : Int)⟩, ⟨53, [], .int .i64 x53⟩] a294 := hF295.reg; clear hF295
       have hF300 : Fr 189 [] [⟨0, [], .slice ao1 u0.length cap2⟩, ⟨1, [], .slice ao4 u1.length cap5⟩, ⟨2, [], .slice ao7 u2.length cap8⟩, ⟨3, [], .int .i64 u3⟩, ⟨11, [], .slice aox11vv x11vv.length capx11vv⟩, ⟨12, [], .int .i64 x12vv⟩, ⟨13, [], .int .i64 x53⟩, ⟨14, [], .pointer (some ⟨b163, 0, none⟩)⟩, ⟨15, [], .int .i64 x15⟩, ⟨51, [], .slice ao1 u0.length cap2⟩, ⟨52, [], .int .i64 (u0.length : Int)⟩, ⟨53, [], .int .i64 x53⟩] a294 := hF298.reg; clear hF298
       obtain ⟨inv299, hp301, hp302⟩ := hp297
       refine wp_seq_k fun KJ303 hKJ304 => ?_
       have hJ305 : ∀ (x11vvv : List Job) (x12vvv : Int) (aox11vvv : Option Addr) (capx11vvv : Nat), inv299 x11vvv x12vvv → ∀ a1 w1, Fr 189 [] [⟨0, [], .slice ao1 u0.length cap2⟩, ⟨1, [], .slice ao4 u1.length cap5⟩, ⟨2, [], .slice ao7 u2.length cap8⟩, ⟨3, [], .int .i64 u3⟩, ⟨11, [], .slice aox11vvv x11vvv.length capx11vvv⟩, ⟨12, [], .int .i64 x12vvv⟩, ⟨13, [], .int .i64 x53⟩, ⟨14, [], .pointer (some ⟨b163, 0, none⟩)⟩, ⟨15, [], .int .i64 x15⟩, ⟨51, [], .slice ao1 u0.length cap2⟩, ⟨52, [], .int .i64 (u0.length : Int)⟩, ⟨53, [], .int .i64 x53⟩] a1 → Mem w.heap.size [] w Z [.row b163 [.int .i64 q154.ID, .int .i64 q154.Bytes, .int .i64 q154.Every, .int .i64 q154.Late, .int .i64 q154.Jitter] 34, .own tyJob 110 aox11vvv capx11vvv x11vvv] Z w1 → KJ303 a1 w1 := by
        rintro x11vvv x12vvv aox11vvv capx11vvv hI310 a306 wd307 hF308 hM309; clear hF300 hM287
        refine hKJ304 _ _ ?_; clear hKJ304
        have hp311 := hp302 x11vvv x12vvv hI310
        refine rgH ?_; intro hQ312Q hQ312
        refine s1 hF308 77 (.int .i64 x15) ?_; intro a313 hF314; clear hF308
        refine s1 hF314 78 (.pointer (some ⟨b163, 2, none⟩)) ?_; intro a315 hF316; clear hF314
        refine l1 hF316 hM309 79 0 2 (.int .i64 q154.Every) rfl rfl ?_; intro a317 hF318; clear hF316
        refine s1 hF318 80 (.int .i64 (w64 (x15 + q154.Every))) ?_; intro a319 hF320; clear hF318
        refine s1 hF320 15 (.int .i64 (w64 (x15 + q154.Every))) ?_; intro a321 hF322; clear hF320
        refine nlH (hQ312 _ _ ?_); clear hQ312 hQ312Q
        refine rd ?_
        exact ⟨⟨x11vvv, x12vvv, w64 (x15 + q154.Every), aox11vvv, capx11vvv⟩, hp311.1, hp311.2, (hF322.reg).anyβ _ (by kernel_rfl), hM309.keep (List.Sublist.cons_cons _ (List.Sublist.cons_cons _ (List.Sublist.slnil)))⟩
       refine wp_block ?_
       refine sqH ?_; intro hQ323Q hQ323
       refine s1 hF300 81 (.int .i64 x53) ?_; intro a324 hF325; clear hF300
       refine s1 hF325 82 (.int .i64 x15) ?_; intro a326 hF327; clear hF325
       refine s1 hF327 83 (.int .i64 x15) ?_; intro a328 hF329; clear hF327
       refine s1 hF329 84 (.agg #[.int .i64 x53, .int .i64 x15, .int .i64 x15]) ?_; intro a330 hF331; clear hF329
       refine sn hF331 hM287 (fun b => .pointer (some ⟨b, 0, none⟩)) [.int .i64 0, .int .i64 0, .int .i64 0] 110 (nog rfl _) rfl (by kernel_rfl) (by kernel_rfl) ?_; intro b332 a333 wd335 hF334 hM336; clear hF331 hM287
       refine sr hF334 hM336 0 [.int .i64 x53, .int .i64 x15, .int .i64 x15] (b := b332) (off := 0) (cs := [.int .i64 0, .int .i64 0, .int .i64 0]) (ty := 110) (u := .agg #[.int .i64 x53, .int .i64 x15, .int .i64 x15]) (nog rfl _) rfl rfl (by kernel_rfl) (by kernel_rfl) (by kernel_rfl) (by kernel_rfl) (by kernel_rfl) (by kernel_rfl) (by kernel_rfl) ?_; intro wd337 hM338; clear hM336
       have hM339 : Mem w.heap.size [] w Z [.row b332 [.int .i64 x53, .int .i64 x15, .int .i64 x15] 110, .row b163 [.int .i64 q154.ID, .int .i64 q154.Bytes, .int .i64 q154.Every, .int .i64 q154.Late, .int .i64 q154.Jitter] 34, .own tyJob 110 aox11vv capx11vv x11vv] Z wd337 := hM338; clear hM338
       refine nlH (hQ323 _ _ ?_); clear hQ323 hQ323Q
       refine wp_seq ?_
       refine sqH ?_; intro hQ340Q hQ340
       refine s1 hF334 85 (.slice ao7 u2.length cap8) ?_; intro a341 hF342; clear hF334
       refine s1 hF342 86 (.int .i64 (u2.length : Int)) ?_; intro a343 hF344; clear hF342
       refine s1 hF344 87 (.bool (decide ((u2.length : Int) > 0))) ?_; intro a345 hF346; clear hF344
       refine s1 hF346 88 (.bool (decide ((u2.length : Int) > 0))) ?_; intro a347 hF348; clear hF346
       have hF349 := hF348.atom ((decide ((u2.length : Int) > 0)) == true) (by kernel_rfl); clear hF348
       refine gp hF349 89 0 [] (decide ((u2.length : Int) > 0)) (.pointer (some ⟨b163, 4, none⟩)) rfl rfl ?_; intro a350 hF351; clear hF349
       refine gd hF351 (.int .i64 q154.Jitter) (m := 0) (cj := []) (bj := decide ((u2.length : Int) > 0)) rfl rfl (by kernel_rfl) rfl (by kernel_rfl) (by kernel_rfl) (by kernel_rfl) (fun hg => ld hF351 hM339 1 (g := [0]) (b := b163) (off := 4) (cs := [.int .i64 q154.ID, .int .i64 q154.Bytes, .int .i64 q154.Every, .int .i64 q154.Late, .int .i64 q154.Jitter]) (ty := 34) rfl (by kernel_rfl) (by kernel_rfl) (by kernel_rfl) (by kernel_rfl) hg) ?_; intro a352 hF353; clear hF351
       refine gp hF353 91 0 [] (decide ((u2.length : Int) > 0)) (.bool (decide (q154.Jitter > 0))) rfl rfl ?_; intro a354 hF355; clear hF353
       refine st hF355 (.bool ((decide ((u2.length : Int) > 0)) && (decide (q154.Jitter > 0)))) (nog rfl _) rfl (by kernel_rfl) (pk_and hF355 (g := []) (m := 0) (b := decide ((u2.length : Int) > 0)) (v := decide (q154.Jitter > 0)) rfl (by kernel_rfl) (by kernel_rfl) (by kernel_rfl) rfl) ?_; intro a356 hF357; clear hF355
       refine nlH (hQ340 _ _ ?_); clear hQ340 hQ340Q
       refine cd hF357 (t := (decide ((u2.length : Int) > 0)) && (decide (q154.Jitter > 0))) (by kernel_rfl) (fun hb358 => ?_) (fun hb358 => ?_)
       ·
        have hp359 := hp301.1 hb358; clear hp301
        have hF360 : Fr 189 [] [⟨0, [], .slice ao1 u0.length cap2⟩, ⟨1, [], .slice ao4 u1.length cap5⟩, ⟨2, [], .slice ao7 u2.length cap8⟩, ⟨3, [], .int .i64 u3⟩, ⟨11, [], .slice aox11vv x11vv.length capx11vv⟩, ⟨12, [], .int .i64 x12vv⟩, ⟨13, [], .int .i64 x53⟩, ⟨14, [], .pointer (some ⟨b163, 0, none⟩)⟩, ⟨15, [], .int .i64 x15⟩, ⟨16, [], .pointer (some ⟨b332, 0, none⟩)⟩, ⟨51, [], .slice ao1 u0.length cap2⟩, ⟨52, [], .int .i64 (u0.length : Int)⟩, ⟨53, [], .int .i64 x53⟩] a356 := hF357.reg; clear hF357
        refine sqH ?_; intro hQ361Q hQ361
        refine s1 hF360 93 (.slice ao7 u2.length cap8) ?_; intro a362 hF363; clear hF360
        refine s1 hF363 94 (.int .i64 x12vv) ?_; intro a364 hF365; clear hF363
        refine s1 hF365 95 (.slice ao7 u2.length cap8) ?_; intro a366 hF367; clear hF365
        refine s1 hF367 96 (.int .i64 (u2.length : Int)) ?_; intro a368 hF369; clear hF367
        have hc370 := hp359.1; have hp371 := hp359.2; clear hp359
        refine st hF369 (.int .i64 (x12vv.tmod (u2.length : Int))) (nog rfl _) rfl (by kernel_rfl) (rem_run hF369 (g := []) rfl (by kernel_rfl) (by kernel_rfl) hc370 rfl) ?_; intro a372 hF373; clear hF369
        have hc374 := hp371.1; have hp375 := hp371.2; clear hp371
        refine ix hF373 (T := (tyInt .i64)) (xs := u2) hs9 (x12vv.tmod (u2.length : Int)) hc374 (k := .i64) (e := 3) (bytes := 8) (nog rfl _) rfl (by kernel_rfl) rfl (by kernel_rfl) (by kernel_rfl) (by kernel_rfl) ?_; intro b376 off377 cs378 q379 a383 hq380 hP381 hT382 hF384; clear hF373
        have hp385 := hp375 q379 hq380; clear hp375
        obtain rfl : cs378 = ([.int .i64 q379] : List Value) := hT382
        refine z1 hF384 hM339 99 hP381 0 (.int .i64 q379) rfl ?_; intro a386 hF387; clear hF384
        refine s1 hF387 17 (.int .i64 q379) ?_; intro a388 hF389; clear hF387
        refine nlH (hQ361 _ _ ?_); clear hQ361 hQ361Q
        refine wp_seq ?_
        refine sqH ?_; intro hQ390Q hQ390
        refine s1 hF389 100 (.int .i64 q379) ?_; intro a391 hF392; clear hF389
        refine s1 hF392 101 (.bool (decide (q379 < 0))) ?_; intro a393 hF394; clear hF392
        refine nlH (hQ390 _ _ ?_); clear hQ390 hQ390Q
        refine cd hF394 (t := decide (q379 < 0)) (by kernel_rfl) (fun hb395 => ?_) (fun hb395 => ?_)
        ·
         have hp396 := hp385.1 hb395; clear hp385
         refine sqH ?_; intro hQ397Q hQ397
         refine s1 hF394 8 (.slice none 0 0) ?_; intro a398 hF399; clear hF394
         refine s1 hF399 9 (.int .i64 3) ?_; intro a400 hF401; clear hF399
         refine nlH (hQ397 _ _ ?_); clear hQ397 hQ397Q
         refine wp_ret ?_
         refine thr ?_
         refine thr ?_
         refine ibr ?_
         refine thr ?_
         refine thr ?_
         refine ibr ?_
         refine ibr ?_
         refine thr ?_
         refine thr ?_
         refine ibr ?_
         refine thr ?_
         have hM402 : Mem w.heap.size [] w Z [.own tySlot 48 none 0 ([] : List Slot), .row b332 [.int .i64 x53, .int .i64 x15, .int .i64 x15] 110, .row b163 [.int .i64 q154.ID, .int .i64 q154.Bytes, .int .i64 q154.Every, .int .i64 q154.Late, .int .i64 q154.Jitter] 34, .own tyJob 110 aox11vv capx11vv x11vv] Z wd337 := hM339.addNil tySlot 48 (by decide); clear hM339
         refine rt (fn := Try.f18) (v := .tuple #[.slice none ([] : List Slot).length 0, .int .i64 3]) hF401 (re2 hF401 (fn := Try.f18) rfl (by kernel_rfl) (by kernel_rfl)) ?_
         exact ⟨(([] : List Slot), 3), none, 0, Z, rfl, hp396, hM402.keep (List.Sublist.cons_cons _ (List.Sublist.cons _ (List.Sublist.cons _ (List.Sublist.cons _ (List.Sublist.slnil)))))⟩
        ·
         have hp403 := hp385.2 hb395; clear hp385
         refine wp_skip ?_
         refine thn ?_
         have hF404 : Fr 189 [] [⟨0, [], .slice ao1 u0.length cap2⟩, ⟨1, [], .slice ao4 u1.length cap5⟩, ⟨2, [], .slice ao7 u2.length cap8⟩, ⟨3, [], .int .i64 u3⟩, ⟨11, [], .slice aox11vv x11vv.length capx11vv⟩, ⟨12, [], .int .i64 x12vv⟩, ⟨13, [], .int .i64 x53⟩, ⟨14, [], .pointer (some ⟨b163, 0, none⟩)⟩, ⟨15, [], .int .i64 x15⟩, ⟨16, [], .pointer (some ⟨b332, 0, none⟩)⟩, ⟨17, [], .int .i64 q379⟩, ⟨51, [], .slice ao1 u0.length cap2⟩, ⟨52, [], .int .i64 (u0.length : Int)⟩, ⟨53, [], .int .i64 x53⟩] a393 := hF394.reg; clear hF394
         have hcd6_0 := hp403.1; have hp425 := hp403.2; clear hp403
         refine wp_seq (any_invE mixed [[], [0], [], [], [3], [4], [2, 5], [1, 6], [0, 1, 2, 3, 4, 5, 6, 7], [0, 1, 2, 3, 4, 5, 6, 7, 8]] 10 (fun S a w1 => ∃ (ud102 : Value) (ud103 : Value) (ud104 : Value) (ud105 : Value) (ud106 : Value) (ud107 : Value) (ud108 : Value) (ud109 : Value) (ud110 : Value) (rh0 : Res) (rh1 : Res) (rh2 : Res), Fz.le Z Z ∧ Fr 189 [] [⟨0, [], .slice ao1 u0.length cap2⟩, ⟨1, [], .slice ao4 u1.length cap5⟩, ⟨2, [], .slice ao7 u2.length cap8⟩, ⟨3, [], .int .i64 u3⟩, ⟨11, [], .slice aox11vv x11vv.length capx11vv⟩, ⟨12, [], .int .i64 x12vv⟩, ⟨13, [], .int .i64 x53⟩, ⟨14, [], .pointer (some ⟨b163, 0, none⟩)⟩, ⟨15, [], .int .i64 x15⟩, ⟨16, [], .pointer (some ⟨b332, 0, none⟩)⟩, ⟨17, [], .int .i64 q379⟩, ⟨51, [], .slice ao1 u0.length cap2⟩, ⟨52, [], .int .i64 (u0.length : Int)⟩, ⟨53, [], .int .i64 x53⟩, ⟨102, [], ud102⟩, ⟨103, [], ud103⟩, ⟨104, [], ud104⟩, ⟨105, [], ud105⟩, ⟨106, [], ud106⟩, ⟨107, [], ud107⟩, ⟨108, [], ud108⟩, ⟨109, [], ud109⟩, ⟨110, [], ud110⟩] a ∧ Mem w.heap.size [] w Z [rh0, rh1, rh2] Z w1 ∧ (S 0 = true → ud102 = .pointer (some ⟨b332, 2, none⟩)) ∧ (S 1 = true → ud103 = .int .i64 x15) ∧ (S 2 = true → ud104 = .int .i64 q379) ∧ (S 3 = true → ud105 = .pointer (some ⟨b163, 4, none⟩)) ∧ (S 4 = true → ud106 = .int .i64 q154.Jitter) ∧ (S 5 = true → ud107 = .int .i64 (w64 (q154.Jitter + 1))) ∧ (S 6 = true → ud108 = .int .i64 (q379.tmod (w64 (q154.Jitter + 1)))) ∧ (S 7 = true → ud109 = .int .i64 (w64 (x15 + (q379.tmod (w64 (q154.Jitter + 1)))))) ∧ (S 8 = true → ud110 = .pointer (some ⟨b332, 2, none⟩)) ∧ (S 9 = false → rh0 = .row b332 [.int .i64 x53, .int .i64 x15, .int .i64 x15] 110) ∧ (S 9 = true → rh0 = .row b332 [.int .i64 x53, .int .i64 x15, .int .i64 (w64 (x15 + (q379.tmod (w64 (q154.Jitter + 1)))))] 110) ∧ (rh1 = .row b163 [.int .i64 q154.ID, .int .i64 q154.Bytes, .int .i64 q154.Every, .int .i64 q154.Late, .int .i64 q154.Jitter] 34) ∧ (rh2 = .own tyJob 110 aox11vv capx11vv x11vv)) ?h0 ?hs ?hE)
         case h0 =>
          have hF427 := hF404.any 102
          have hF428 := hF427.any 103
          have hF429 := hF428.any 104
          have hF430 := hF429.any 105
          have hF431 := hF430.any 106
          have hF432 := hF431.any 107
          have hF433 := hF432.any 108
          have hF434 := hF433.any 109
          have hF435 := hF434.any 110
          have hM436 := (hM339.perm lpr).drew
          exact ⟨a393.tmps.getD 102 undef, a393.tmps.getD 103 undef, a393.tmps.getD 104 undef, a393.tmps.getD 105 undef, a393.tmps.getD 106 undef, a393.tmps.getD 107 undef, a393.tmps.getD 108 undef, a393.tmps.getD 109 undef, a393.tmps.getD 110 undef, .row b332 [.int .i64 x53, .int .i64 x15, .int .i64 x15] 110, .row b163 [.int .i64 q154.ID, .int .i64 q154.Bytes, .int .i64 q154.Every, .int .i64 q154.Late, .int .i64 q154.Jitter] 34, .own tyJob 110 aox11vv capx11vv x11vv, Fz.le.refl _, hF435.reg, hM436, ff, ff, ff, ff, ff, ff, ff, ff, ff, kf, ff, rfl, rfl⟩
         case hs =>
          intro S hcl i o hil hi hSi hpre a w1 hI; refine Go.Sy.hid ?_; intro G hG; obtain ⟨ud102, ud103, ud104, ud105, ud106, ud107, ud108, ud109, ud110, rh0, rh1, rh2, hle426, hFx, hMx, cu102, cu103, cu104, cu105, cu106, cu107, cu108, cu109, cu110, cr0_0, cr0_1, cr1_0, hI⟩ := hI; have cr2_0 := hI; clear hI
          have hcase : i = 0 ∨ i = 1 ∨ i = 2 ∨ i = 3 ∨ i = 4 ∨ i = 5 ∨ i = 6 ∨ i = 7 ∨ i = 8 ∨ i = 9 := by clear hi; omega
          rcases hcase with rfl | rfl | rfl | rfl | rfl | rfl | rfl | rfl | rfl | rfl
          ·
           obtain rfl := oj hi
           have hx0 := hSi
           have hx1 := ngF hcl 1 0 hx0
           have hx7 := ngF hcl 7 1 hx1
           have hx8 := ngF hcl 8 0 hx0
           have hx9 := ngF hcl 9 0 hx0
           obtain rfl := cr0_0 hx9
           obtain rfl := cr1_0
           obtain rfl := cr2_0
           refine hG (any_step ?_); clear hG G; intro A J hJ
           have hle0 := Fz.le.trans hle0 hle426
           have hs437 := hs3.mono hle426
           have hs438 := hs6.mono hle426
           have hs439 := hs9.mono hle426
           have hs440 := hP156.mono hle426
           have hs441 := hP185.mono hle426
           have hs442 := hP232.mono hle426
           have hs443 := hP266.mono hle426
           have hs444 := hP381.mono hle426
           refine s1 hFx 102 (.pointer (some ⟨b332, 2, none⟩)) ?_; intro a445 hF446; clear hFx
           refine nl (qnI (hJ _ _ ?_)); clear hJ J
           exact ⟨.pointer (some ⟨b332, 2, none⟩), ud103, ud104, ud105, ud106, ud107, ud108, ud109, ud110, .row b332 [.int .i64 x53, .int .i64 x15, .int .i64 x15] 110, .row b163 [.int .i64 q154.ID, .int .i64 q154.Bytes, .int .i64 q154.Every, .int .i64 q154.Late, .int .i64 q154.Jitter] 34, .own tyJob 110 aox11vv capx11vv x11vv, hle426, hF446.reg, hMx.perm lpr, kf, (nt hx1), cu104, cu105, cu106, cu107, cu108, (nt hx7), (nt hx8), kf, (nt hx9), rfl, rfl⟩
          ·
           obtain rfl := oj hi
           have hx0 := hpre 0 (by kernel_rfl)
           have hx1 := hSi
           have hx7 := ngF hcl 7 1 hx1
           have hx8 := ngF hcl 8 1 hx1
           have hx9 := ngF hcl 9 1 hx1
           obtain rfl := cu102 hx0
           obtain rfl := cr0_0 hx9
           obtain rfl := cr1_0
           obtain rfl := cr2_0
           refine hG (any_step ?_); clear hG G; intro A J hJ
           have hle0 := Fz.le.trans hle0 hle426
           have hs448 := hs3.mono hle426
           have hs449 := hs6.mono hle426
           have hs450 := hs9.mono hle426
           have hs451 := hP156.mono hle426
           have hs452 := hP185.mono hle426
           have hs453 := hP232.mono hle426
           have hs454 := hP266.mono hle426
           have hs455 := hP381.mono hle426
           refine l1 hFx hMx 103 0 2 (.int .i64 x15) rfl rfl ?_; intro a456 hF457; clear hFx
           refine nl (qnI (hJ _ _ ?_)); clear hJ J
           exact ⟨.pointer (some ⟨b332, 2, none⟩), .int .i64 x15, ud104, ud105, ud106, ud107, ud108, ud109, ud110, .row b332 [.int .i64 x53, .int .i64 x15, .int .i64 x15] 110, .row b163 [.int .i64 q154.ID, .int .i64 q154.Bytes, .int .i64 q154.Every, .int .i64 q154.Late, .int .i64 q154.Jitter] 34, .own tyJob 110 aox11vv capx11vv x11vv, hle426, hF457.reg, hMx.perm lpr, kf, kf, cu104, cu105, cu106, cu107, cu108, (nt hx7), (nt hx8), kf, (nt hx9), rfl, rfl⟩
          ·
           obtain rfl := oj hi
           have hx2 := hSi
           have hx6 := ngF hcl 6 2 hx2
           have hx7 := ngF hcl 7 6 hx6
           have hx8 := ngF hcl 8 2 hx2
           have hx9 := ngF hcl 9 2 hx2
           obtain rfl := cr0_0 hx9
           obtain rfl := cr1_0
           obtain rfl := cr2_0
           refine hG (any_step ?_); clear hG G; intro A J hJ
           have hle0 := Fz.le.trans hle0 hle426
           have hs459 := hs3.mono hle426
           have hs460 := hs6.mono hle426
           have hs461 := hs9.mono hle426
           have hs462 := hP156.mono hle426
           have hs463 := hP185.mono hle426
           have hs464 := hP232.mono hle426
           have hs465 := hP266.mono hle426
           have hs466 := hP381.mono hle426
           refine s1 hFx 104 (.int .i64 q379) ?_; intro a467 hF468; clear hFx
           refine nl (qnI (hJ _ _ ?_)); clear hJ J
           exact ⟨ud102, ud103, .int .i64 q379, ud105, ud106, ud107, ud108, ud109, ud110, .row b332 [.int .i64 x53, .int .i64 x15, .int .i64 x15] 110, .row b163 [.int .i64 q154.ID, .int .i64 q154.Bytes, .int .i64 q154.Every, .int .i64 q154.Late, .int .i64 q154.Jitter] 34, .own tyJob 110 aox11vv capx11vv x11vv, hle426, hF468.reg, hMx.perm lpr, cu102, cu103, kf, cu105, cu106, cu107, (nt hx6), (nt hx7), (nt hx8), kf, (nt hx9), rfl, rfl⟩
          ·
           obtain rfl := oj hi
           have hx3 := hSi
           have hx4 := ngF hcl 4 3 hx3
           have hx5 := ngF hcl 5 4 hx4
           have hx6 := ngF hcl 6 5 hx5
           have hx7 := ngF hcl 7 6 hx6
           have hx8 := ngF hcl 8 3 hx3
           have hx9 := ngF hcl 9 3 hx3
           obtain rfl := cr0_0 hx9
           obtain rfl := cr1_0
           obtain rfl := cr2_0
           refine hG (any_step ?_); clear hG G; intro A J hJ
           have hle0 := Fz.le.trans hle0 hle426
           have hs470 := hs3.mono hle426
           have hs471 := hs6.mono hle426
           have hs472 := hs9.mono hle426
           have hs473 := hP156.mono hle426
           have hs474 := hP185.mono hle426
           have hs475 := hP232.mono hle426
           have hs476 := hP266.mono hle426
           have hs477 := hP381.mono hle426
           refine s1 hFx 105 (.pointer (some ⟨b163, 4, none⟩)) ?_; intro a478 hF479; clear hFx
           refine nl (qnI (hJ _ _ ?_)); clear hJ J
           exact ⟨ud102, ud103, ud104, .pointer (some ⟨b163, 4, none⟩), ud106, ud107, ud108, ud109, ud110, .row b332 [.int .i64 x53, .int .i64 x15, .int .i64 x15] 110, .row b163 [.int .i64 q154.ID, .int .i64 q154.Bytes, .int .i64 q154.Every, .int .i64 q154.Late, .int .i64 q154.Jitter] 34, .own tyJob 110 aox11vv capx11vv x11vv, hle426, hF479.reg, hMx.perm lpr, cu102, cu103, cu104, kf, (nt hx4), (nt hx5), (nt hx6), (nt hx7), (nt hx8), kf, (nt hx9), rfl, rfl⟩
          ·
           obtain rfl := oj hi
           have hx3 := hpre 3 (by kernel_rfl)
           have hx4 := hSi
           have hx5 := ngF hcl 5 4 hx4
           have hx6 := ngF hcl 6 5 hx5
           have hx7 := ngF hcl 7 6 hx6
           have hx8 := ngF hcl 8 4 hx4
           have hx9 := ngF hcl 9 4 hx4
           obtain rfl := cu105 hx3
           obtain rfl := cr0_0 hx9
           obtain rfl := cr1_0
           obtain rfl := cr2_0
           refine hG (any_step ?_); clear hG G; intro A J hJ
           have hle0 := Fz.le.trans hle0 hle426
           have hs481 := hs3.mono hle426
           have hs482 := hs6.mono hle426
           have hs483 := hs9.mono hle426
           have hs484 := hP156.mono hle426
           have hs485 := hP185.mono hle426
           have hs486 := hP232.mono hle426
           have hs487 := hP266.mono hle426
           have hs488 := hP381.mono hle426
           refine l1 hFx hMx 106 1 4 (.int .i64 q154.Jitter) rfl rfl ?_; intro a489 hF490; clear hFx
           refine nl (qnI (hJ _ _ ?_)); clear hJ J
           exact ⟨ud102, ud103, ud104, .pointer (some ⟨b163, 4, none⟩), .int .i64 q154.Jitter, ud107, ud108, ud109, ud110, .row b332 [.int .i64 x53, .int .i64 x15, .int .i64 x15] 110, .row b163 [.int .i64 q154.ID, .int .i64 q154.Bytes, .int .i64 q154.Every, .int .i64 q154.Late, .int .i64 q154.Jitter] 34, .own tyJob 110 aox11vv capx11vv x11vv, hle426, hF490.reg, hMx.perm lpr, cu102, cu103, cu104, kf, kf, (nt hx5), (nt hx6), (nt hx7), (nt hx8), kf, (nt hx9), rfl, rfl⟩
          ·
           obtain rfl := oj hi
           have hx4 := hpre 4 (by kernel_rfl)
           have hx3 := hcl 4 3 (by kernel_rfl) hx4
           have hx5 := hSi
           have hx6 := ngF hcl 6 5 hx5
           have hx7 := ngF hcl 7 6 hx6
           have hx8 := ngF hcl 8 5 hx5
           have hx9 := ngF hcl 9 5 hx5
           obtain rfl := cu105 hx3
           obtain rfl := cu106 hx4
           obtain rfl := cr0_0 hx9
           obtain rfl := cr1_0
           obtain rfl := cr2_0
           refine hG (any_step ?_); clear hG G; intro A J hJ
           have hle0 := Fz.le.trans hle0 hle426
           have hs492 := hs3.mono hle426
           have hs493 := hs6.mono hle426
           have hs494 := hs9.mono hle426
           have hs495 := hP156.mono hle426
           have hs496 := hP185.mono hle426
           have hs497 := hP232.mono hle426
           have hs498 := hP266.mono hle426
           have hs499 := hP381.mono hle426
           refine s1 hFx 107 (.int .i64 (w64 (q154.Jitter + 1))) ?_; intro a500 hF501; clear hFx
           refine nl (qnI (hJ _ _ ?_)); clear hJ J
           exact ⟨ud102, ud103, ud104, .pointer (some ⟨b163, 4, none⟩), .int .i64 q154.Jitter, .int .i64 (w64 (q154.Jitter + 1)), ud108, ud109, ud110, .row b332 [.int .i64 x53, .int .i64 x15, .int .i64 x15] 110, .row b163 [.int .i64 q154.ID, .int .i64 q154.Bytes, .int .i64 q154.Every, .int .i64 q154.Late, .int .i64 q154.Jitter] 34, .own tyJob 110 aox11vv capx11vv x11vv, hle426, hF501.reg, hMx.perm lpr, cu102, cu103, cu104, kf, kf, kf, (nt hx6), (nt hx7), (nt hx8), kf, (nt hx9), rfl, rfl⟩
          ·
           obtain rfl := oj hi
           have hx5 := hpre 5 (by kernel_rfl)
           have hx2 := hpre 2 (by kernel_rfl)
           have hx4 := hcl 5 4 (by kernel_rfl) hx5
           have hx3 := hcl 4 3 (by kernel_rfl) hx4
           have hx6 := hSi
           have hx7 := ngF hcl 7 6 hx6
           have hx8 := ngF hcl 8 6 hx6
           have hx9 := ngF hcl 9 6 hx6
           obtain rfl := cu104 hx2
           obtain rfl := cu105 hx3
           obtain rfl := cu106 hx4
           obtain rfl := cu107 hx5
           obtain rfl := cr0_0 hx9
           obtain rfl := cr1_0
           obtain rfl := cr2_0
           refine hG (any_step ?_); clear hG G; intro A J hJ
           have hle0 := Fz.le.trans hle0 hle426
           have hs503 := hs3.mono hle426
           have hs504 := hs6.mono hle426
           have hs505 := hs9.mono hle426
           have hs506 := hP156.mono hle426
           have hs507 := hP185.mono hle426
           have hs508 := hP232.mono hle426
           have hs509 := hP266.mono hle426
           have hs510 := hP381.mono hle426
           refine st hFx (.int .i64 (q379.tmod (w64 (q154.Jitter + 1)))) (nog rfl _) rfl (by kernel_rfl) (rem_run hFx (g := []) rfl (by kernel_rfl) (by kernel_rfl) hcd6_0 rfl) ?_; intro a511 hF512; clear hFx
           refine nl (qnI (hJ _ _ ?_)); clear hJ J
           exact ⟨ud102, ud103, .int .i64 q379, .pointer (some ⟨b163, 4, none⟩), .int .i64 q154.Jitter, .int .i64 (w64 (q154.Jitter + 1)), .int .i64 (q379.tmod (w64 (q154.Jitter + 1))), ud109, ud110, .row b332 [.int .i64 x53, .int .i64 x15, .int .i64 x15] 110, .row b163 [.int .i64 q154.ID, .int .i64 q154.Bytes, .int .i64 q154.Every, .int .i64 q154.Late, .int .i64 q154.Jitter] 34, .own tyJob 110 aox11vv capx11vv x11vv, hle426, hF512.reg, hMx.perm lpr, cu102, cu103, kf, kf, kf, kf, kf, (nt hx7), (nt hx8), kf, (nt hx9), rfl, rfl⟩
          ·
           obtain rfl := oj hi
           have hx6 := hpre 6 (by kernel_rfl)
           have hx1 := hpre 1 (by kernel_rfl)
           have hx5 := hcl 6 5 (by kernel_rfl) hx6
           have hx2 := hcl 6 2 (by kernel_rfl) hx6
           have hx0 := hcl 1 0 (by kernel_rfl) hx1
           have hx4 := hcl 5 4 (by kernel_rfl) hx5
           have hx3 := hcl 4 3 (by kernel_rfl) hx4
           have hx7 := hSi
           have hx8 := ngF hcl 8 7 hx7
           have hx9 := ngF hcl 9 7 hx7
           obtain rfl := cu102 hx0
           obtain rfl := cu103 hx1
           obtain rfl := cu104 hx2
           obtain rfl := cu105 hx3
           obtain rfl := cu106 hx4
           obtain rfl := cu107 hx5
           obtain rfl := cu108 hx6
           obtain rfl := cr0_0 hx9
           obtain rfl := cr1_0
           obtain rfl := cr2_0
           refine hG (any_step ?_); clear hG G; intro A J hJ
           have hle0 := Fz.le.trans hle0 hle426
           have hs514 := hs3.mono hle426
           have hs515 := hs6.mono hle426
           have hs516 := hs9.mono hle426
           have hs517 := hP156.mono hle426
           have hs518 := hP185.mono hle426
           have hs519 := hP232.mono hle426
           have hs520 := hP266.mono hle426
           have hs521 := hP381.mono hle426
           refine s1 hFx 109 (.int .i64 (w64 (x15 + (q379.tmod (w64 (q154.Jitter + 1)))))) ?_; intro a522 hF523; clear hFx
           refine nl (qnI (hJ _ _ ?_)); clear hJ J
           exact ⟨.pointer (some ⟨b332, 2, none⟩), .int .i64 x15, .int .i64 q379, .pointer (some ⟨b163, 4, none⟩), .int .i64 q154.Jitter, .int .i64 (w64 (q154.Jitter + 1)), .int .i64 (q379.tmod (w64 (q154.Jitter + 1))), .int .i64 (w64 (x15 + (q379.tmod (w64 (q154.Jitter + 1))))), ud110, .row b332 [.int .i64 x53, .int .i64 x15, .int .i64 x15] 110, .row b163 [.int .i64 q154.ID, .int .i64 q154.Bytes, .int .i64 q154.Every, .int .i64 q154.Late, .int .i64 q154.Jitter] 34, .own tyJob 110 aox11vv capx11vv x11vv, hle426, hF523.reg, hMx.perm lpr, kf, kf, kf, kf, kf, kf, kf, kf, (nt hx8), kf, (nt hx9), rfl, rfl⟩
          ·
           obtain rfl := oj hi
           have hx7 := hpre 7 (by kernel_rfl)
           have hx6 := hpre 6 (by kernel_rfl)
           have hx5 := hpre 5 (by kernel_rfl)
           have hx4 := hpre 4 (by kernel_rfl)
           have hx3 := hpre 3 (by kernel_rfl)
           have hx2 := hpre 2 (by kernel_rfl)
           have hx1 := hpre 1 (by kernel_rfl)
           have hx0 := hpre 0 (by kernel_rfl)
           have hx8 := hSi
           have hx9 := ngF hcl 9 8 hx8
           obtain rfl := cu102 hx0
           obtain rfl := cu103 hx1
           obtain rfl := cu104 hx2
           obtain rfl := cu105 hx3
           obtain rfl := cu106 hx4
           obtain rfl := cu107 hx5
           obtain rfl := cu108 hx6
           obtain rfl := cu109 hx7
           obtain rfl := cr0_0 hx9
           obtain rfl := cr1_0
           obtain rfl := cr2_0
           refine hG (any_step ?_); clear hG G; intro A J hJ
           have hle0 := Fz.le.trans hle0 hle426
           have hs525 := hs3.mono hle426
           have hs526 := hs6.mono hle426
           have hs527 := hs9.mono hle426
           have hs528 := hP156.mono hle426
           have hs529 := hP185.mono hle426
           have hs530 := hP232.mono hle426
           have hs531 := hP266.mono hle426
           have hs532 := hP381.mono hle426
           refine s1 hFx 110 (.pointer (some ⟨b332, 2, none⟩)) ?_; intro a533 hF534; clear hFx
           refine nl (qnI (hJ _ _ ?_)); clear hJ J
           exact ⟨.pointer (some ⟨b332, 2, none⟩), .int .i64 x15, .int .i64 q379, .pointer (some ⟨b163, 4, none⟩), .int .i64 q154.Jitter, .int .i64 (w64 (q154.Jitter + 1)), .int .i64 (q379.tmod (w64 (q154.Jitter + 1))), .int .i64 (w64 (x15 + (q379.tmod (w64 (q154.Jitter + 1))))), .pointer (some ⟨b332, 2, none⟩), .row b332 [.int .i64 x53, .int .i64 x15, .int .i64 x15] 110, .row b163 [.int .i64 q154.ID, .int .i64 q154.Bytes, .int .i64 q154.Every, .int .i64 q154.Late, .int .i64 q154.Jitter] 34, .own tyJob 110 aox11vv capx11vv x11vv, hle426, hF534.reg, hMx.perm lpr, kf, kf, kf, kf, kf, kf, kf, kf, kf, kf, (nt hx9), rfl, rfl⟩
          ·
           obtain rfl := oj hi
           have hx8 := hpre 8 (by kernel_rfl)
           have hx7 := hpre 7 (by kernel_rfl)
           have hx6 := hpre 6 (by kernel_rfl)
           have hx5 := hpre 5 (by kernel_rfl)
           have hx4 := hpre 4 (by kernel_rfl)
           have hx3 := hpre 3 (by kernel_rfl)
           have hx2 := hpre 2 (by kernel_rfl)
           have hx1 := hpre 1 (by kernel_rfl)
           have hx0 := hpre 0 (by kernel_rfl)
           have hx9 := hSi
           obtain rfl := cu102 hx0
           obtain rfl := cu103 hx1
           obtain rfl := cu104 hx2
           obtain rfl := cu105 hx3
           obtain rfl := cu106 hx4
           obtain rfl := cu107 hx5
           obtain rfl := cu108 hx6
           obtain rfl := cu109 hx7
           obtain rfl := cu110 hx8
           obtain rfl := cr0_0 hx9
           obtain rfl := cr1_0
           obtain rfl := cr2_0
           refine hG (any_step ?_); clear hG G; intro A J hJ
           have hle0 := Fz.le.trans hle0 hle426
           have hs536 := hs3.mono hle426
           have hs537 := hs6.mono hle426
           have hs538 := hs9.mono hle426
           have hs539 := hP156.mono hle426
           have hs540 := hP185.mono hle426
           have hs541 := hP232.mono hle426
           have hs542 := hP266.mono hle426
           have hs543 := hP381.mono hle426
           refine sr hFx hMx 0 [.int .i64 x53, .int .i64 x15, .int .i64 (w64 (x15 + (q379.tmod (w64 (q154.Jitter + 1)))))] (b := b332) (off := 2) (cs := [.int .i64 x53, .int .i64 x15, .int .i64 x15]) (ty := 110) (u := .int .i64 (w64 (x15 + (q379.tmod (w64 (q154.Jitter + 1)))))) (nog rfl _) rfl rfl (by kernel_rfl) (by kernel_rfl) (by kernel_rfl) (by kernel_rfl) (by kernel_rfl) (by kernel_rfl) (by kernel_rfl) ?_; intro wd544 hM545; clear hMx
           refine nl (qnI (hJ _ _ ?_)); clear hJ J
           exact ⟨.pointer (some ⟨b332, 2, none⟩), .int .i64 x15, .int .i64 q379, .pointer (some ⟨b163, 4, none⟩), .int .i64 q154.Jitter, .int .i64 (w64 (q154.Jitter + 1)), .int .i64 (q379.tmod (w64 (q154.Jitter + 1))), .int .i64 (w64 (x15 + (q379.tmod (w64 (q154.Jitter + 1))))), .pointer (some ⟨b332, 2, none⟩), .row b332 [.int .i64 x53, .int .i64 x15, .int .i64 (w64 (x15 + (q379.tmod (w64 (q154.Jitter + 1)))))] 110, .row b163 [.int .i64 q154.ID, .int .i64 q154.Bytes, .int .i64 q154.Every, .int .i64 q154.Late, .int .i64 q154.Jitter] 34, .own tyJob 110 aox11vv capx11vv x11vv, hle426, hFx.reg, hM545.perm lpr, kf, kf, kf, kf, kf, kf, kf, kf, kf, nu, kf, rfl, rfl⟩
         case hE =>
          intro S hS a547 wd548 hI; refine Go.Sy.hid ?_; intro G hG; obtain ⟨ud102, ud103, ud104, ud105, ud106, ud107, ud108, ud109, ud110, rh0, rh1, rh2, hle426, hFx, hMx, cu102, cu103, cu104, cu105, cu106, cu107, cu108, cu109, cu110, cr0_0, cr0_1, cr1_0, hI⟩ := hI; have cr2_0 := hI; clear hI; refine hG ?_; clear hG G
          obtain rfl := cu102 (hS 0 (by decide))
          obtain rfl := cu103 (hS 1 (by decide))
          obtain rfl := cu104 (hS 2 (by decide))
          obtain rfl := cu105 (hS 3 (by decide))
          obtain rfl := cu106 (hS 4 (by decide))
          obtain rfl := cu107 (hS 5 (by decide))
          obtain rfl := cu108 (hS 6 (by decide))
          obtain rfl := cu109 (hS 7 (by decide))
          obtain rfl := cu110 (hS 8 (by decide))
          obtain rfl := cr0_1 (hS 9 (by decide))
          obtain rfl := cr1_0
          obtain rfl := cr2_0
          have hle0 := Fz.le.trans hle0 hle426
          have hs549 := hs3.mono hle426
          have hs550 := hs6.mono hle426
          have hs551 := hs9.mono hle426
          have hs552 := hP156.mono hle426
          have hs553 := hP185.mono hle426
          have hs554 := hP232.mono hle426
          have hs555 := hP266.mono hle426
          have hs556 := hP381.mono hle426
          refine thn ?_
          have hF557 : Fr 189 [] [⟨0, [], .slice ao1 u0.length cap2⟩, ⟨1, [], .slice ao4 u1.length cap5⟩, ⟨2, [], .slice ao7 u2.length cap8⟩, ⟨3, [], .int .i64 u3⟩, ⟨11, [], .slice aox11vv x11vv.length capx11vv⟩, ⟨12, [], .int .i64 x12vv⟩, ⟨13, [], .int .i64 x53⟩, ⟨14, [], .pointer (some ⟨b163, 0, none⟩)⟩, ⟨15, [], .int .i64 x15⟩, ⟨16, [], .pointer (some ⟨b332, 0, none⟩)⟩, ⟨51, [], .slice ao1 u0.length cap2⟩, ⟨52, [], .int .i64 (u0.length : Int)⟩, ⟨53, [], .int .i64 x53⟩] a547 := hFx.reg; clear hFx
          refine rgH ?_; intro hQ558Q hQ558
          refine s1 hF557 111 (.int .i64 x12vv) ?_; intro a559 hF560; clear hF557
          refine s1 hF560 112 (.int .i64 (w64 (x12vv + 1))) ?_; intro a561 hF562; clear hF560
          refine s1 hF562 12 (.int .i64 (w64 (x12vv + 1))) ?_; intro a563 hF564; clear hF562
          refine nlH (hQ558 _ _ ?_); clear hQ558 hQ558Q
          refine thn ?_
          refine sqH ?_; intro hQ565Q hQ565
          refine s1 hF564 113 (.slice aox11vv x11vv.length capx11vv) ?_; intro a566 hF567; clear hF564
          refine l2 hF567 hMx 114 0 0 3 [.int .i64 x53, .int .i64 x15, .int .i64 (w64 (x15 + (q379.tmod (w64 (q154.Jitter + 1)))))] rfl rfl ?_; intro a568 hF569; clear hF567
          refine sn hF569 hMx (fun b => .slice (some ⟨b, 0, none⟩) 1 1) [.int .i64 x53, .int .i64 x15, .int .i64 (w64 (x15 + (q379.tmod (w64 (q154.Jitter + 1)))))] 110 (nog rfl _) rfl (by kernel_rfl) (by kernel_rfl) ?_; intro b570 a571 wd573 hF572 hM574; clear hF569 hMx
          have hc575 := hp425.1; have hp576 := hp425.2; clear hp425
          refine ap hF572 hM574 3 (T := tyJob) (xs := x11vv) (ys := [(⟨x53, x15, w64 (x15 + (q379.tmod (w64 (q154.Jitter + 1))))⟩ : Job)]) (ao := aox11vv) (cap := capx11vv) (ao2 := (some ⟨b570, 0, none⟩)) (cap2 := 1) (t := 108) (e := 110) (bytes := 24) (nog rfl _) rfl (by kernel_rfl) rfl (by kernel_rfl) (by kernel_rfl) (by kernel_rfl) rfl (Src.row hM574 0 rfl (RepAll.one (T := tyJob) (x := (⟨x53, x15, w64 (x15 + (q379.tmod (w64 (q154.Jitter + 1))))⟩ : Job)) rfl)) hc575 ?_; intro ao577 cap578 a582 wd579 hnil580 hF583 hM581; clear hF572 hM574
          have hM584 : Mem w.heap.size [] w Z [.row b570 [.int .i64 x53, .int .i64 x15, .int .i64 (w64 (x15 + (q379.tmod (w64 (q154.Jitter + 1)))))] 110, .row b332 [.int .i64 x53, .int .i64 x15, .int .i64 (w64 (x15 + (q379.tmod (w64 (q154.Jitter + 1)))))] 110, .row b163 [.int .i64 q154.ID, .int .i64 q154.Bytes, .int .i64 q154.Every, .int .i64 q154.Late, .int .i64 q154.Jitter] 34, .own tyJob 110 ao577 cap578 (x11vv ++ [(⟨x53, x15, w64 (x15 + (q379.tmod (w64 (q154.Jitter + 1))))⟩ : Job)])] Z wd579 := hM581; clear hM581
          refine s1 hF583 11 (.slice ao577 (x11vv ++ [(⟨x53, x15, w64 (x15 + (q379.tmod (w64 (q154.Jitter + 1))))⟩ : Job)]).length cap578) ?_; intro a585 hF586; clear hF583
          refine nlH (hQ565 _ _ ?_); clear hQ565 hQ565Q
          refine sqH ?_; intro hQ587Q hQ587
          refine s1 hF586 117 (.slice ao577 (x11vv ++ [(⟨x53, x15, w64 (x15 + (q379.tmod (w64 (q154.Jitter + 1))))⟩ : Job)]).length cap578) ?_; intro a588 hF589; clear hF586
          refine s1 hF589 118 (.int .i64 ((x11vv ++ [(⟨x53, x15, w64 (x15 + (q379.tmod (w64 (q154.Jitter + 1))))⟩ : Job)]).length : Int)) ?_; intro a590 hF591; clear hF589
          refine s1 hF591 119 (.bool (decide (((x11vv ++ [(⟨x53, x15, w64 (x15 + (q379.tmod (w64 (q154.Jitter + 1))))⟩ : Job)]).length : Int) > 1000))) ?_; intro a592 hF593; clear hF591
          refine nlH (hQ587 _ _ ?_); clear hQ587 hQ587Q
          refine cd hF593 (t := decide (((x11vv ++ [(⟨x53, x15, w64 (x15 + (q379.tmod (w64 (q154.Jitter + 1))))⟩ : Job)]).length : Int) > 1000)) (by kernel_rfl) (fun hb594 => ?_) (fun hb594 => ?_)
          ·
           have hp595 := hp576.1 hb594; clear hp576
           refine sqH ?_; intro hQ596Q hQ596
           refine s1 hF593 8 (.slice none 0 0) ?_; intro a597 hF598; clear hF593
           refine s1 hF598 9 (.int .i64 2) ?_; intro a599 hF600; clear hF598
           refine nlH (hQ596 _ _ ?_); clear hQ596 hQ596Q
           refine wp_ret ?_
           refine ibr ?_
           refine thr ?_
           refine thr ?_
           refine ibr ?_
           refine ibr ?_
           refine thr ?_
           refine thr ?_
           refine ibr ?_
           refine thr ?_
           have hM601 : Mem w.heap.size [] w Z [.own tySlot 48 none 0 ([] : List Slot), .row b570 [.int .i64 x53, .int .i64 x15, .int .i64 (w64 (x15 + (q379.tmod (w64 (q154.Jitter + 1)))))] 110, .row b332 [.int .i64 x53, .int .i64 x15, .int .i64 (w64 (x15 + (q379.tmod (w64 (q154.Jitter + 1)))))] 110, .row b163 [.int .i64 q154.ID, .int .i64 q154.Bytes, .int .i64 q154.Every, .int .i64 q154.Late, .int .i64 q154.Jitter] 34, .own tyJob 110 ao577 cap578 (x11vv ++ [(⟨x53, x15, w64 (x15 + (q379.tmod (w64 (q154.Jitter + 1))))⟩ : Job)])] Z wd579 := hM584.addNil tySlot 48 (by decide); clear hM584
           refine rt (fn := Try.f18) (v := .tuple #[.slice none ([] : List Slot).length 0, .int .i64 2]) hF600 (re2 hF600 (fn := Try.f18) rfl (by kernel_rfl) (by kernel_rfl)) ?_
           exact ⟨(([] : List Slot), 2), none, 0, Z, rfl, hp595, hM601.keep (List.Sublist.cons_cons _ (List.Sublist.cons _ (List.Sublist.cons _ (List.Sublist.cons _ (List.Sublist.cons _ (List.Sublist.slnil))))))⟩
          ·
           have hp602 := hp576.2 hb594; clear hp576
           refine wp_skip ?_
           refine ibn ?_
           refine rd ?_
           exact hJ305 (x11vv ++ [(⟨x53, x15, w64 (x15 + (q379.tmod (w64 (q154.Jitter + 1))))⟩ : Job)]) (w64 (x12vv + 1)) ao577 cap578 hp602 _ _ ((hF593.reg).anyβ _ (by kernel_rfl)) (hM584.keep (List.Sublist.cons _ (List.Sublist.cons _ (List.Sublist.cons_cons _ (List.Sublist.cons_cons _ (List.Sublist.slnil))))))
       ·
        have hp603 := hp301.2 hb358; clear hp301
        refine wp_skip ?_
        refine thn ?_
        have hF604 : Fr 189 [] [⟨0, [], .slice ao1 u0.length cap2⟩, ⟨1, [], .slice ao4 u1.length cap5⟩, ⟨2, [], .slice ao7 u2.length cap8⟩, ⟨3, [], .int .i64 u3⟩, ⟨11, [], .slice aox11vv x11vv.length capx11vv⟩, ⟨12, [], .int .i64 x12vv⟩, ⟨13, [], .int .i64 x53⟩, ⟨14, [], .pointer (some ⟨b163, 0, none⟩)⟩, ⟨15, [], .int .i64 x15⟩, ⟨16, [], .pointer (some ⟨b332, 0, none⟩)⟩, ⟨51, [], .slice ao1 u0.length cap2⟩, ⟨52, [], .int .i64 (u0.length : Int)⟩, ⟨53, [], .int .i64 x53⟩] a356 := hF357.reg; clear hF357
        refine sqH ?_; intro hQ605Q hQ605
        refine s1 hF604 113 (.slice aox11vv x11vv.length capx11vv) ?_; intro a606 hF607; clear hF604
        refine l2 hF607 hM339 114 0 0 3 [.int .i64 x53, .int .i64 x15, .int .i64 x15] rfl rfl ?_; intro a608 hF609; clear hF607
        refine sn hF609 hM339 (fun b => .slice (some ⟨b, 0, none⟩) 1 1) [.int .i64 x53, .int .i64 x15, .int .i64 x15] 110 (nog rfl _) rfl (by kernel_rfl) (by kernel_rfl) ?_; intro b610 a611 wd613 hF612 hM614; clear hF609 hM339
        have hc615 := hp603.1; have hp616 := hp603.2; clear hp603
        refine ap hF612 hM614 3 (T := tyJob) (xs := x11vv) (ys := [(⟨x53, x15, x15⟩ : Job)]) (ao := aox11vv) (cap := capx11vv) (ao2 := (some ⟨b610, 0, none⟩)) (cap2 := 1) (t := 108) (e := 110) (bytes := 24) (nog rfl _) rfl (by kernel_rfl) rfl (by kernel_rfl) (by kernel_rfl) (by kernel_rfl) rfl (Src.row hM614 0 rfl (RepAll.one (T := tyJob) (x := (⟨x53, x15, x15⟩ : Job)) rfl)) hc615 ?_; intro ao617 cap618 a622 wd619 hnil620 hF623 hM621; clear hF612 hM614
        have hM624 : Mem w.heap.size [] w Z [.row b610 [.int .i64 x53, .int .i64 x15, .int .i64 x15] 110, .row b332 [.int .i64 x53, .int .i64 x15, .int .i64 x15] 110, .row b163 [.int .i64 q154.ID, .int .i64 q154.Bytes, .int .i64 q154.Every, .int .i64 q154.Late, .int .i64 q154.Jitter] 34, .own tyJob 110 ao617 cap618 (x11vv ++ [(⟨x53, x15, x15⟩ : Job)])] Z wd619 := hM621; clear hM621
        refine s1 hF623 11 (.slice ao617 (x11vv ++ [(⟨x53, x15, x15⟩ : Job)]).length cap618) ?_; intro a625 hF626; clear hF623
        refine nlH (hQ605 _ _ ?_); clear hQ605 hQ605Q
        refine sqH ?_; intro hQ627Q hQ627
        refine s1 hF626 117 (.slice ao617 (x11vv ++ [(⟨x53, x15, x15⟩ : Job)]).length cap618) ?_; intro a628 hF629; clear hF626
        refine s1 hF629 118 (.int .i64 ((x11vv ++ [(⟨x53, x15, x15⟩ : Job)]).length : Int)) ?_; intro a630 hF631; clear hF629
        refine s1 hF631 119 (.bool (decide (((x11vv ++ [(⟨x53, x15, x15⟩ : Job)]).length : Int) > 1000))) ?_; intro a632 hF633; clear hF631
        refine nlH (hQ627 _ _ ?_); clear hQ627 hQ627Q
        refine cd hF633 (t := decide (((x11vv ++ [(⟨x53, x15, x15⟩ : Job)]).length : Int) > 1000)) (by kernel_rfl) (fun hb634 => ?_) (fun hb634 => ?_)
        ·
         have hp635 := hp616.1 hb634; clear hp616
         refine sqH ?_; intro hQ636Q hQ636
         refine s1 hF633 8 (.slice none 0 0) ?_; intro a637 hF638; clear hF633
         refine s1 hF638 9 (.int .i64 2) ?_; intro a639 hF640; clear hF638
         refine nlH (hQ636 _ _ ?_); clear hQ636 hQ636Q
         refine wp_ret ?_
         refine ibr ?_
         refine thr ?_
         refine thr ?_
         refine ibr ?_
         refine ibr ?_
         refine thr ?_
         refine thr ?_
         refine ibr ?_
         refine thr ?_
         have hM641 : Mem w.heap.size [] w Z [.own tySlot 48 none 0 ([] : List Slot), .row b610 [.int .i64 x53, .int .i64 x15, .int .i64 x15] 110, .row b332 [.int .i64 x53, .int .i64 x15, .int .i64 x15] 110, .row b163 [.int .i64 q154.ID, .int .i64 q154.Bytes, .int .i64 q154.Every, .int .i64 q154.Late, .int .i64 q154.Jitter] 34, .own tyJob 110 ao617 cap618 (x11vv ++ [(⟨x53, x15, x15⟩ : Job)])] Z wd619 := hM624.addNil tySlot 48 (by decide); clear hM624
         refine rt (fn := Try.f18) (v := .tuple #[.slice none ([] : List Slot).length 0, .int .i64 2]) hF640 (re2 hF640 (fn := Try.f18) rfl (by kernel_rfl) (by kernel_rfl)) ?_
         exact ⟨(([] : List Slot), 2), none, 0, Z, rfl, hp635, hM641.keep (List.Sublist.cons_cons _ (List.Sublist.cons _ (List.Sublist.cons _ (List.Sublist.cons _ (List.Sublist.cons _ (List.Sublist.slnil))))))⟩
        ·
         have hp642 := hp616.2 hb634; clear hp616
         refine wp_skip ?_
         refine ibn ?_
         refine rd ?_
         exact hJ305 (x11vv ++ [(⟨x53, x15, x15⟩ : Job)]) x12vv ao617 cap618 hp642 _ _ ((hF633.reg).anyβ _ (by kernel_rfl)) (hM624.keep (List.Sublist.cons _ (List.Sublist.cons _ (List.Sublist.cons_cons _ (List.Sublist.cons_cons _ (List.Sublist.slnil))))))
      ·
       have hp643 := hp288.2 hb296; clear hp288
       refine wp_exit ?_
       refine thx ?_
       refine thx ?_
       refine ibx ?_
       refine ibn ?_
       refine rd ?_
       exact hJ134 x11vv x12vv aox11vv capx11vv hp643 _ _ ((hF295.reg).anyβ _ (by kernel_rfl)) (hM287.keep (List.Sublist.cons _ (List.Sublist.cons_cons _ (List.Sublist.slnil))))
   ·
    have hp644 := hp121.2 hb125; clear hp121
    refine wp_exit ?_
    refine thx ?_
    refine thx ?_
    refine ibx ?_
    refine thn ?_
    refine sqH ?_; intro hQ645Q hQ645
    refine s1 hF124 121 (.slice aox11 x11.length capx11) ?_; intro a646 hF647; clear hF124
    have hc648 := hp644.1; have hp649 := hp644.2; clear hp644
    refine cl hF647 51 #[.slice aox11 x11.length capx11, .func (.func 52) #[] #[]] (nog rfl _) rfl (by kernel_rfl) (by kernel_rfl) ?_
    refine (ssort_fun x11 (fun x0 x1 => cmpj x0 x1 ) hc648 aox11 capx11 52 #[] _ _ _ _ _ _ (fun Z1 w1 h1 h2 x0 x1 => cmpj_fun x0 x1  Z1 w1 h2) (fun _ _ => by kernel_rfl) hM120 hM120.fz).mono ?_; rintro _ wd650 ⟨Z655, rfl, hle656, hl654, hm⟩; refine ⟨_, rfl, ?_⟩; intro a651 hF652; have hM653 := hm; clear hm hM120 hF647
    replace hs3 := hs3.mono hle656
    replace hs6 := hs6.mono hle656
    replace hs9 := hs9.mono hle656
    replace hle0 := Fz.le.trans hle0 hle656
    have hF657 : Fr 189 [] [⟨0, [], .slice ao1 u0.length cap2⟩, ⟨1, [], .slice ao4 u1.length cap5⟩, ⟨2, [], .slice ao7 u2.length cap8⟩, ⟨3, [], .int .i64 u3⟩, ⟨11, [], .slice aox11 (ssortS x11 (fun x0 x1 => cmpj x0 x1 )).length capx11⟩, ⟨12, [], .int .i64 x12⟩, ⟨51, [], .slice ao1 u0.length cap2⟩, ⟨52, [], .int .i64 (u0.length : Int)⟩, ⟨53, [], .int .i64 x53⟩, ⟨54, [], .bool (decide (x53 < (u0.length : Int)))⟩, ⟨121, [], .slice aox11 (ssortS x11 (fun x0 x1 => cmpj x0 x1 )).length capx11⟩, ⟨122, [], .tuple #[]⟩] a651 := by rw [hl654]; exact hF652.reg
    clear hF652
    have hM658 : Mem w.heap.size [] w Z [.own tyJob 110 aox11 capx11 (ssortS x11 (fun x0 x1 => cmpj x0 x1 ))] Z655 wd650 := hM653; clear hM653
    have hp659 := hp649 (hM658.ownSmall 0 rfl); clear hp649
    refine nlH (hQ645 _ _ ?_); clear hQ645 hQ645Q
    refine sqH ?_; intro hQ660Q hQ660
    refine s1 hF657 18 (.slice none 0 0) ?_; intro a661 hF662; clear hF657
    refine nlH (hQ660 _ _ ?_); clear hQ660 hQ660Q
    refine sqH ?_; intro hQ663Q hQ663
    refine sn hF662 hM658 (fun b => .pointer (some ⟨b, 0, none⟩)) [.int .i64 0] 3 (nog rfl _) rfl (by kernel_rfl) (by kernel_rfl) ?_; intro b664 a665 wd667 hF666 hM668; clear hF662 hM658
    refine sr hF666 hM668 0 [.int .i64 0] (b := b664) (off := 0) (cs := [.int .i64 0]) (ty := 3) (u := .int .i64 0) (nog rfl _) rfl rfl (by kernel_rfl) (by kernel_rfl) (by kernel_rfl) (by kernel_rfl) (by kernel_rfl) (by kernel_rfl) (by kernel_rfl) ?_; intro wd669 hM670; clear hM668
    have hM671 : Mem w.heap.size [] w Z [.row b664 [.int .i64 0] 3, .own tyJob 110 aox11 capx11 (ssortS x11 (fun x0 x1 => cmpj x0 x1 ))] Z655 wd669 := hM670; clear hM670
    refine nlH (hQ663 _ _ ?_); clear hQ663 hQ663Q
    refine sqH ?_; intro hQ672Q hQ672
    refine s1 hF666 123 (.func (.func 53) #[] #[.pointer (some ⟨b664, 0, none⟩)]) ?_; intro a673 hF674; clear hF666
    refine s1 hF674 20 (.func (.func 53) #[] #[.pointer (some ⟨b664, 0, none⟩)]) ?_; intro a675 hF676; clear hF674
    refine nlH (hQ672 _ _ ?_); clear hQ672 hQ672Q
    have hF677 : Fr 189 [] [⟨0, [], .slice ao1 u0.length cap2⟩, ⟨11, [], .slice aox11 (ssortS x11 (fun x0 x1 => cmpj x0 x1 )).length capx11⟩, ⟨18, [], .slice none 0 0⟩, ⟨19, [], .pointer (some ⟨b664, 0, none⟩)⟩, ⟨20, [], .func (.func 53) #[] #[.pointer (some ⟨b664, 0, none⟩)]⟩] a675 := hF676.reg; clear hF676
    have hF679 : Fr 189 [] [⟨0, [], .slice ao1 u0.length cap2⟩, ⟨11, [], .slice aox11 (ssortS x11 (fun x0 x1 => cmpj x0 x1 )).length capx11⟩, ⟨18, [], .slice none 0 0⟩, ⟨19, [], .pointer (some ⟨b664, 0, none⟩)⟩, ⟨20, [], .func (.func 53) #[] #[.pointer (some ⟨b664, 0, none⟩)]⟩] a675 := hF677.reg; clear hF677
    obtain ⟨inv678, hp680, hp681⟩ := hp659
    refine wp_seq_k fun KJ682 hKJ683 => ?_
    have hJ684 : ∀ (x18 : List Slot) (yb664c0 : Int) (aox18 : Option Addr) (capx18 : Nat) (ZJ678 : Fz), inv678 x18 yb664c0 ∧ Fz.le Z655 ZJ678 → ∀ a1 w1, Fr 189 [] [⟨18, [], .slice aox18 x18.length capx18⟩] a1 → Mem w.heap.size [] w Z [.own tySlot 48 aox18 capx18 x18, .row b664 [.int .i64 yb664c0] 3] ZJ678 w1 → KJ682 a1 w1 := by
     rintro x18 yb664c0 aox18 capx18 ZJ678 ⟨hI689, hleJ678⟩ a685 wd686 hF687 hM688; clear hF679 hM671
     refine hKJ683 _ _ ?_; clear hKJ683
     have hp690 := hp681 x18 yb664c0 hI689
     replace hle0 := Fz.le.trans hle0 hleJ678
     have hs691 := hs3.mono hleJ678
     have hs692 := hs6.mono hleJ678
     have hs693 := hs9.mono hleJ678
     refine sqH ?_; intro hQ694Q hQ694
     refine s1 hF687 188 (.slice aox18 x18.length capx18) ?_; intro a695 hF696; clear hF687
     refine s1 hF696 8 (.slice aox18 x18.length capx18) ?_; intro a697 hF698; clear hF696
     refine s1 hF698 9 (.int .i64 0) ?_; intro a699 hF700; clear hF698
     refine nlH (hQ694 _ _ ?_); clear hQ694 hQ694Q
     refine wp_ret ?_
     refine rt (fn := Try.f18) (v := .tuple #[.slice aox18 x18.length capx18, .int .i64 0]) hF700 (re2 hF700 (fn := Try.f18) rfl (by kernel_rfl) (by kernel_rfl)) ?_
     exact ⟨(x18, 0), aox18, capx18, ZJ678, rfl, hp690, hM688.keep (List.Sublist.cons_cons _ (List.Sublist.cons _ (List.Sublist.slnil)))⟩
    have hle701 := Fz.le.refl Z655
    refine wp_block ?_
    have hF702 : Fr 189 [] [⟨0, [], .slice ao1 u0.length cap2⟩, ⟨11, [], .slice aox11 (ssortS x11 (fun x0 x1 => cmpj x0 x1 )).length capx11⟩, ⟨18, [], .slice none 0 0⟩, ⟨19, [], .pointer (some ⟨b664, 0, none⟩)⟩, ⟨20, [], .func (.func 53) #[] #[.pointer (some ⟨b664, 0, none⟩)]⟩] a675 := hF679.reg; clear hF679
    have hM704 : Mem w.heap.size [] w Z [.own tySlot 48 none 0 ([] : List Slot), .row b664 [.int .i64 0] 3, .own tyJob 110 aox11 capx11 (ssortS x11 (fun x0 x1 => cmpj x0 x1 ))] Z655 wd669 := hM671.addNil tySlot 48 (by decide); clear hM671
    have hF705 : Fr 189 [] [⟨0, [], .slice ao1 u0.length cap2⟩, ⟨11, [], .slice aox11 (ssortS x11 (fun x0 x1 => cmpj x0 x1 )).length capx11⟩, ⟨18, [], .slice none ([] : List Slot).length 0⟩, ⟨19, [], .pointer (some ⟨b664, 0, none⟩)⟩, ⟨20, [], .func (.func 53) #[] #[.pointer (some ⟨b664, 0, none⟩)]⟩] a675 := hF702.reg; clear hF702
    obtain ⟨inv703, mu703, hI708, hr707⟩ := hp680
    have hle709 := hle0
    refine lp (ι := (List Job) × (List Slot) × Int × (Option Addr) × Nat × (Option Addr) × Nat × Fz) (fun (s : (List Job) × (List Slot) × Int × (Option Addr) × Nat × (Option Addr) × Nat × Fz) => [⟨0, [], .slice ao1 u0.length cap2⟩, ⟨11, [], .slice s.2.2.2.1 s.1.length s.2.2.2.2.1⟩, ⟨18, [], .slice s.2.2.2.2.2.1 s.2.1.length s.2.2.2.2.2.2.1⟩, ⟨19, [], .pointer (some ⟨b664, 0, none⟩)⟩, ⟨20, [], .func (.func 53) #[] #[.pointer (some ⟨b664, 0, none⟩)]⟩]) (fun (s : (List Job) × (List Slot) × Int × (Option Addr) × Nat × (Option Addr) × Nat × Fz) => [.own tySlot 48 s.2.2.2.2.2.1 s.2.2.2.2.2.2.1 s.2.1, .row b664 [.int .i64 s.2.2.1] 3, .own tyJob 110 s.2.2.2.1 s.2.2.2.2.1 s.1]) (fun (s : (List Job) × (List Slot) × Int × (Option Addr) × Nat × (Option Addr) × Nat × Fz) => s.2.2.2.2.2.2.2) (fun (s : (List Job) × (List Slot) × Int × (Option Addr) × Nat × (Option Addr) × Nat × Fz) => inv703 s.1 s.2.1 s.2.2.1 ∧ Fz.le Z655 s.2.2.2.2.2.2.2) (fun (s : (List Job) × (List Slot) × Int × (Option Addr) × Nat × (Option Addr) × Nat × Fz) => mu703 s.1 s.2.1 s.2.2.1) ⟨(ssortS x11 (fun x0 x1 => cmpj x0 x1 )), ([] : List Slot), 0, aox11, capx11, none, 0, Z655⟩ ⟨hI708, Fz.le.refl _⟩ (by exact hF705.reg) (by exact hM704) ?_
    rintro ⟨x11v, x18v, yb664c0v, aox11v, capx11v, aox18v, capx18v, ZL703⟩ ⟨hI706, hleL703⟩ a710 wd711 hF712 hM713
    have hF714 : Fr 189 [] [⟨0, [], .slice ao1 u0.length cap2⟩, ⟨11, [], .slice aox11v x11v.length capx11v⟩, ⟨18, [], .slice aox18v x18v.length capx18v⟩, ⟨19, [], .pointer (some ⟨b664, 0, none⟩)⟩, ⟨20, [], .func (.func 53) #[] #[.pointer (some ⟨b664, 0, none⟩)]⟩] a710 := hF712; clear hF712 hF705
    have hM715 : Mem w.heap.size [] w Z [.own tySlot 48 aox18v capx18v x18v, .row b664 [.int .i64 yb664c0v] 3, .own tyJob 110 aox11v capx11v x11v] ZL703 wd711 := hM713; clear hM713 hM704
    have hp716 := hr707 x11v x18v yb664c0v hI706
    replace hle0 := Fz.le.trans hle0 hleL703
    have hs717 := hs3.mono hleL703
    have hs718 := hs6.mono hleL703
    have hs719 := hs9.mono hleL703
    have hs720 := hle701.mono hleL703
    refine wp_seq ?_
    refine sqH ?_; intro hQ721Q hQ721
    refine s1 hF714 124 (.slice aox11v x11v.length capx11v) ?_; intro a722 hF723; clear hF714
    refine s1 hF723 125 (.int .i64 (x11v.length : Int)) ?_; intro a724 hF725; clear hF723
    refine s1 hF725 126 (.bool (decide ((x11v.length : Int) > 0))) ?_; intro a726 hF727; clear hF725
    refine nlH (hQ721 _ _ ?_); clear hQ721 hQ721Q
    refine cd hF727 (t := decide ((x11v.length : Int) > 0)) (by kernel_rfl) (fun hb728 => ?_) (fun hb728 => ?_)
    ·
     have hp729 := hp716.1 hb728; clear hp716
     refine wp_skip ?_
     refine thn ?_
     refine wp_block ?_
     refine wp_seq ?_
     have hF730 : Fr 189 [] [⟨0, [], .slice ao1 u0.length cap2⟩, ⟨11, [], .slice aox11v x11v.length capx11v⟩, ⟨18, [], .slice aox18v x18v.length capx18v⟩, ⟨19, [], .pointer (some ⟨b664, 0, none⟩)⟩, ⟨20, [], .func (.func 53) #[] #[.pointer (some ⟨b664, 0, none⟩)]⟩] a726 := hF727.reg; clear hF727
     have hcd1_0 := hp729.1; have hp748 := hp729.2; clear hp729
     obtain ⟨qd3_0, hqd3_0⟩ : ∃ q, x11v[(0 : Int).toNat]? = some q := ⟨_, List.getElem?_eq_getElem (by omega)⟩; have hp749 := hp748 qd3_0 hqd3_0; clear hp748
     refine wp_seq (any_invE mixed [[], [0], [1], [2], [], [3, 4]] 6 (fun S a w1 => ∃ (g733 : Nat) (ud127 : Value) (ud128 : Value) (ud129 : Value) (ud130 : Value) (ud131 : Value) (ud132 : Value) (rh0 : Res) (rh1 : Res) (rh2 : Res), Fz.le ZL703 ZL703 ∧ Fr 189 [] [⟨0, [], .slice ao1 u0.length cap2⟩, ⟨11, [], .slice aox11v x11v.length capx11v⟩, ⟨18, [], .slice aox18v x18v.length capx18v⟩, ⟨19, [], .pointer (some ⟨b664, 0, none⟩)⟩, ⟨20, [], .func (.func 53) #[] #[.pointer (some ⟨b664, 0, none⟩)]⟩, ⟨127, [], ud127⟩, ⟨128, [], ud128⟩, ⟨129, [], ud129⟩, ⟨130, [], ud130⟩, ⟨131, [], ud131⟩, ⟨132, [], ud132⟩] a ∧ Mem w.heap.size [] w Z [rh0, rh1, rh2] ZL703 w1 ∧ (S 0 = true → ud127 = .slice aox11v x11v.length capx11v) ∧ (S 1 = true → ud128 = .pointer (some ⟨g733, (0 : Int).toNat * 3, none⟩)) ∧ (S 2 = true → ud129 = .pointer (some ⟨g733, (0 : Int).toNat * 3 + 2, none⟩)) ∧ (S 3 = true → ud130 = .int .i64 qd3_0.asked) ∧ (S 4 = true → ud131 = .int .i64 yb664c0v) ∧ (S 5 = true → ud132 = .bool (decide (qd3_0.asked > yb664c0v))) ∧ (rh0 = .own tySlot 48 aox18v capx18v x18v) ∧ (rh1 = .row b664 [.int .i64 yb664c0v] 3) ∧ (rh2 = .own tyJob 110 aox11v capx11v x11v) ∧ (S 1 = true → aox11v = some ⟨g733, 0, none⟩)) ?h0 ?hs ?hE)
     case h0 =>
      have hF751 := hF730.any 127
      have hF752 := hF751.any 128
      have hF753 := hF752.any 129
      have hF754 := hF753.any 130
      have hF755 := hF754.any 131
      have hF756 := hF755.any 132
      have hM757 := (hM715.perm lpr).drew
      exact ⟨0, a726.tmps.getD 127 undef, a726.tmps.getD 128 undef, a726.tmps.getD 129 undef, a726.tmps.getD 130 undef, a726.tmps.getD 131 undef, a726.tmps.getD 132 undef, .own tySlot 48 aox18v capx18v x18v, .row b664 [.int .i64 yb664c0v] 3, .own tyJob 110 aox11v capx11v x11v, Fz.le.refl _, hF756.reg, hM757, ff, ff, ff, ff, ff, ff, rfl, rfl, rfl, ff⟩
     case hs =>
      intro S hcl i o hil hi hSi hpre a w1 hI; refine Go.Sy.hid ?_; intro G hG; obtain ⟨g733, ud127, ud128, ud129, ud130, ud131, ud132, rh0, rh1, rh2, hle750, hFx, hMx, cu127, cu128, cu129, cu130, cu131, cu132, cr0_0, cr1_0, cr2_0, hI⟩ := hI; have cf0 := hI; clear hI
      have hcase : i = 0 ∨ i = 1 ∨ i = 2 ∨ i = 3 ∨ i = 4 ∨ i = 5 := by clear hi; omega
      rcases hcase with rfl | rfl | rfl | rfl | rfl | rfl
      ·
       obtain rfl := oj hi
       have hx0 := hSi
       have hx1 := ngF hcl 1 0 hx0
       have hx2 := ngF hcl 2 1 hx1
       have hx3 := ngF hcl 3 2 hx2
       have hx5 := ngF hcl 5 3 hx3
       obtain rfl := cr0_0
       obtain rfl := cr1_0
       obtain rfl := cr2_0
       refine hG (any_step ?_); clear hG G; intro A J hJ
       have hle0 := Fz.le.trans hle0 hle750
       have hs758 := hs717.mono hle750
       have hs759 := hs718.mono hle750
       have hs760 := hs719.mono hle750
       have hs761 := hs720.mono hle750
       have hs762 := hleL703.mono hle750
       refine s1 hFx 127 (.slice aox11v x11v.length capx11v) ?_; intro a763 hF764; clear hFx
       refine nl (qnI (hJ _ _ ?_)); clear hJ J
       exact ⟨g733, .slice aox11v x11v.length capx11v, ud128, ud129, ud130, ud131, ud132, .own tySlot 48 aox18v capx18v x18v, .row b664 [.int .i64 yb664c0v] 3, .own tyJob 110 aox11v capx11v x11v, hle750, hF764.reg, hMx.perm lpr, kf, (nt hx1), (nt hx2), (nt hx3), cu131, (nt hx5), rfl, rfl, rfl, (nt hx1)⟩
      ·
       obtain rfl := oj hi
       have hx0 := hpre 0 (by kernel_rfl)
       have hx1 := hSi
       have hx2 := ngF hcl 2 1 hx1
       have hx3 := ngF hcl 3 2 hx2
       have hx5 := ngF hcl 5 3 hx3
       obtain rfl := cu127 hx0
       obtain rfl := cr0_0
       obtain rfl := cr1_0
       obtain rfl := cr2_0
       refine hG (any_step ?_); clear hG G; intro A J hJ
       have hle0 := Fz.le.trans hle0 hle750
       have hs766 := hs717.mono hle750
       have hs767 := hs718.mono hle750
       have hs768 := hs719.mono hle750
       have hs769 := hs720.mono hle750
       have hs770 := hleL703.mono hle750
       refine ixo hFx hMx 2 (T := tyJob) (xs := x11v) (0 : Int) (by simpa only [List.length_set] using hcd1_0) (k := .i64) (e := 110) (bytes := 24) (nog rfl _) rfl (by kernel_rfl) rfl (by kernel_rfl) (by kernel_rfl) rfl (by kernel_rfl) ?_; intro g771 a773 hg772 hF774; clear hFx
       refine nl (qnI (hJ _ _ ?_)); clear hJ J
       exact ⟨g771, .slice aox11v x11v.length capx11v, .pointer (some ⟨g771, (0 : Int).toNat * 3, none⟩), ud129, ud130, ud131, ud132, .own tySlot 48 aox18v capx18v x18v, .row b664 [.int .i64 yb664c0v] 3, .own tyJob 110 aox11v capx11v x11v, hle750, hF774.reg, hMx.perm lpr, kf, kf, (nt hx2), (nt hx3), cu131, (nt hx5), rfl, rfl, rfl, (fun _ => hg772)⟩
      ·
       obtain rfl := oj hi
       have hx1 := hpre 1 (by kernel_rfl)
       have hx0 := hcl 1 0 (by kernel_rfl) hx1
       have hx2 := hSi
       have hx3 := ngF hcl 3 2 hx2
       have hx5 := ngF hcl 5 3 hx3
       obtain rfl := cu127 hx0
       obtain rfl := cu128 hx1
       obtain rfl := cr0_0
       obtain rfl := cr1_0
       obtain rfl := cr2_0
       refine hG (any_step ?_); clear hG G; intro A J hJ
       have hle0 := Fz.le.trans hle0 hle750
       have hs776 := hs717.mono hle750
       have hs777 := hs718.mono hle750
       have hs778 := hs719.mono hle750
       have hs779 := hs720.mono hle750
       have hs780 := hleL703.mono hle750
       have hs781 := cf0 hx1
       refine s1 hFx 129 (.pointer (some ⟨g733, (0 : Int).toNat * 3 + 2, none⟩)) ?_; intro a782 hF783; clear hFx
       refine nl (qnI (hJ _ _ ?_)); clear hJ J
       exact ⟨g733, .slice aox11v x11v.length capx11v, .pointer (some ⟨g733, (0 : Int).toNat * 3, none⟩), .pointer (some ⟨g733, (0 : Int).toNat * 3 + 2, none⟩), ud130, ud131, ud132, .own tySlot 48 aox18v capx18v x18v, .row b664 [.int .i64 yb664c0v] 3, .own tyJob 110 aox11v capx11v x11v, hle750, hF783.reg, hMx.perm lpr, kf, kf, kf, (nt hx3), cu131, (nt hx5), rfl, rfl, rfl, (fun _ => hs781)⟩
      ·
       obtain rfl := oj hi
       have hx2 := hpre 2 (by kernel_rfl)
       have hx1 := hcl 2 1 (by kernel_rfl) hx2
       have hx0 := hcl 1 0 (by kernel_rfl) hx1
       have hx3 := hSi
       have hx5 := ngF hcl 5 3 hx3
       obtain rfl := cu127 hx0
       obtain rfl := cu128 hx1
       obtain rfl := cu129 hx2
       obtain rfl := cr0_0
       obtain rfl := cr1_0
       obtain rfl := cr2_0
       refine hG (any_step ?_); clear hG G; intro A J hJ
       have hle0 := Fz.le.trans hle0 hle750
       have hs785 := hs717.mono hle750
       have hs786 := hs718.mono hle750
       have hs787 := hs719.mono hle750
       have hs788 := hs720.mono hle750
       have hs789 := hleL703.mono hle750
       have hs790 := cf0 hx1
       obtain ⟨cs791, hT792, hcl793⟩ := own_elx hMx 2 (T := tyJob) (xs := x11v) rfl hs790 (0 : Int).toNat hqd3_0
       obtain rfl : cs791 = ([.int .i64 qd3_0.task, .int .i64 qd3_0.from_, .int .i64 qd3_0.asked] : List Value) := hT792
       refine lc1 hFx 130 (.int .i64 qd3_0.asked) (hcl793 2 _ rfl) rfl ?_; intro a794 hF795; clear hFx
       refine nl (qnI (hJ _ _ ?_)); clear hJ J
       exact ⟨g733, .slice aox11v x11v.length capx11v, .pointer (some ⟨g733, (0 : Int).toNat * 3, none⟩), .pointer (some ⟨g733, (0 : Int).toNat * 3 + 2, none⟩), .int .i64 qd3_0.asked, ud131, ud132, .own tySlot 48 aox18v capx18v x18v, .row b664 [.int .i64 yb664c0v] 3, .own tyJob 110 aox11v capx11v x11v, hle750, hF795.reg, hMx.perm lpr, kf, kf, kf, kf, cu131, (nt hx5), rfl, rfl, rfl, (fun _ => hs790)⟩
      ·
       obtain rfl := oj hi
       have hx4 := hSi
       have hx5 := ngF hcl 5 4 hx4
       obtain rfl := cr0_0
       obtain rfl := cr1_0
       obtain rfl := cr2_0
       refine hG (any_step ?_); clear hG G; intro A J hJ
       have hle0 := Fz.le.trans hle0 hle750
       have hs797 := hs717.mono hle750
       have hs798 := hs718.mono hle750
       have hs799 := hs719.mono hle750
       have hs800 := hs720.mono hle750
       have hs801 := hleL703.mono hle750
       refine l1 hFx hMx 131 1 0 (.int .i64 yb664c0v) rfl rfl ?_; intro a802 hF803; clear hFx
       refine nl (qnI (hJ _ _ ?_)); clear hJ J
       exact ⟨g733, ud127, ud128, ud129, ud130, .int .i64 yb664c0v, ud132, .own tySlot 48 aox18v capx18v x18v, .row b664 [.int .i64 yb664c0v] 3, .own tyJob 110 aox11v capx11v x11v, hle750, hF803.reg, hMx.perm lpr, cu127, cu128, cu129, cu130, kf, (nt hx5), rfl, rfl, rfl, cf0⟩
      ·
       obtain rfl := oj hi
       have hx4 := hpre 4 (by kernel_rfl)
       have hx3 := hpre 3 (by kernel_rfl)
       have hx2 := hcl 3 2 (by kernel_rfl) hx3
       have hx1 := hcl 2 1 (by kernel_rfl) hx2
       have hx0 := hcl 1 0 (by kernel_rfl) hx1
       have hx5 := hSi
       obtain rfl := cu127 hx0
       obtain rfl := cu128 hx1
       obtain rfl := cu129 hx2
       obtain rfl := cu130 hx3
       obtain rfl := cu131 hx4
       obtain rfl := cr0_0
       obtain rfl := cr1_0
       obtain rfl := cr2_0
       refine hG (any_step ?_); clear hG G; intro A J hJ
       have hle0 := Fz.le.trans hle0 hle750
       have hs805 := hs717.mono hle750
       have hs806 := hs718.mono hle750
       have hs807 := hs719.mono hle750
       have hs808 := hs720.mono hle750
       have hs809 := hleL703.mono hle750
       have hs810 := cf0 hx1
       refine s1 hFx 132 (.bool (decide (qd3_0.asked > yb664c0v))) ?_; intro a811 hF812; clear hFx
       refine nl (qnI (hJ _ _ ?_)); clear hJ J
       exact ⟨g733, .slice aox11v x11v.length capx11v, .pointer (some ⟨g733, (0 : Int).toNat * 3, none⟩), .pointer (some ⟨g733, (0 : Int).toNat * 3 + 2, none⟩), .int .i64 qd3_0.asked, .int .i64 yb664c0v, .bool (decide (qd3_0.asked > yb664c0v)), .own tySlot 48 aox18v capx18v x18v, .row b664 [.int .i64 yb664c0v] 3, .own tyJob 110 aox11v capx11v x11v, hle750, hF812.reg, hMx.perm lpr, kf, kf, kf, kf, kf, kf, rfl, rfl, rfl, (fun _ => hs810)⟩
     case hE =>
      intro S hS a814 wd815 hI; refine Go.Sy.hid ?_; intro G hG; obtain ⟨g733, ud127, ud128, ud129, ud130, ud131, ud132, rh0, rh1, rh2, hle750, hFx, hMx, cu127, cu128, cu129, cu130, cu131, cu132, cr0_0, cr1_0, cr2_0, hI⟩ := hI; have cf0 := hI; clear hI; refine hG ?_; clear hG G
      obtain rfl := cu127 (hS 0 (by decide))
      obtain rfl := cu128 (hS 1 (by decide))
      obtain rfl := cu129 (hS 2 (by decide))
      obtain rfl := cu130 (hS 3 (by decide))
      obtain rfl := cu131 (hS 4 (by decide))
      obtain rfl := cu132 (hS 5 (by decide))
      obtain rfl := cr0_0
      obtain rfl := cr1_0
      obtain rfl := cr2_0
      have hle0 := Fz.le.trans hle0 hle750
      have hs816 := hs717.mono hle750
      have hs817 := hs718.mono hle750
      have hs818 := hs719.mono hle750
      have hs819 := hs720.mono hle750
      have hs820 := hleL703.mono hle750
      have hs821 := cf0 (hS 1 (by decide))
      refine thn ?_
      refine cd hFx (t := decide (qd3_0.asked > yb664c0v)) (by kernel_rfl) (fun hb822 => ?_) (fun hb822 => ?_)
      ·
       have hp823 := hp749.1 hb822; clear hp749
       have hF824 : Fr 189 [] [⟨0, [], .slice ao1 u0.length cap2⟩, ⟨11, [], .slice aox11v x11v.length capx11v⟩, ⟨18, [], .slice aox18v x18v.length capx18v⟩, ⟨19, [], .pointer (some ⟨b664, 0, none⟩)⟩, ⟨20, [], .func (.func 53) #[] #[.pointer (some ⟨b664, 0, none⟩)]⟩] a814 := hFx.reg; clear hFx
       refine rgH ?_; intro hQ825Q hQ825
       refine s1 hF824 133 (.slice aox11v x11v.length capx11v) ?_; intro a826 hF827; clear hF824
       have hc828 := hp823.1; have hp829 := hp823.2; clear hp823
       refine ixo hF827 hMx 2 (T := tyJob) (xs := x11v) (0 : Int) hc828 (k := .i64) (e := 110) (bytes := 24) (nog rfl _) rfl (by kernel_rfl) rfl (by kernel_rfl) (by kernel_rfl) rfl (by kernel_rfl) ?_; intro g830 a832 hg831 hF833; clear hF827
       subst hg831
       have hF834 : Fr 189 [] [⟨0, [], .slice ao1 u0.length cap2⟩, ⟨11, [], .slice (some ⟨g830, 0, none⟩) x11v.length capx11v⟩, ⟨18, [], .slice aox18v x18v.length capx18v⟩, ⟨19, [], .pointer (some ⟨b664, 0, none⟩)⟩, ⟨20, [], .func (.func 53) #[] #[.pointer (some ⟨b664, 0, none⟩)]⟩, ⟨133, [], .slice (some ⟨g830, 0, none⟩) x11v.length capx11v⟩, ⟨134, [], .pointer (some ⟨g830, (0 : Int).toNat * 3, none⟩)⟩] a832 := hF833.reg; clear hF833
       have hM835 : Mem w.heap.size [] w Z [.own tySlot 48 aox18v capx18v x18v, .row b664 [.int .i64 yb664c0v] 3, .own tyJob 110 (some ⟨g830, 0, none⟩) capx11v x11v] ZL703 wd815 := hMx; clear hMx
       refine s1 hF834 135 (.pointer (some ⟨g830, (0 : Int).toNat * 3 + 2, none⟩)) ?_; intro a836 hF837; clear hF834
       obtain ⟨q838, hq839⟩ : ∃ q, x11v[(0 : Int).toNat]? = some q := ⟨_, List.getElem?_eq_getElem (by first | omega | (simp only [List.length_set] at *; omega))⟩; have hp840 := hp829 q838 hq839; clear hp829
       obtain ⟨cs841, hT842, hcl843⟩ := own_el hM835 2 (T := tyJob) (xs := x11v) rfl (0 : Int).toNat hq839
       obtain rfl : cs841 = ([.int .i64 q838.task, .int .i64 q838.from_, .int .i64 q838.asked] : List Value) := hT842
       refine lc1 hF837 136 (.int .i64 q838.asked) (hcl843 2 _ rfl) rfl ?_; intro a844 hF845; clear hF837
       refine sr hF845 hM835 1 [.int .i64 q838.asked] (b := b664) (off := 0) (cs := [.int .i64 yb664c0v]) (ty := 3) (u := .int .i64 q838.asked) (nog rfl _) rfl rfl (by kernel_rfl) (by kernel_rfl) (by kernel_rfl) (by kernel_rfl) (by kernel_rfl) (by kernel_rfl) (by kernel_rfl) ?_; intro wd846 hM847; clear hM835
       have hM848 : Mem w.heap.size [] w Z [.own tySlot 48 aox18v capx18v x18v, .row b664 [.int .i64 q838.asked] 3, .own tyJob 110 (some ⟨g830, 0, none⟩) capx11v x11v] ZL703 wd846 := hM847; clear hM847
       refine nlH (hQ825 _ _ ?_); clear hQ825 hQ825Q
       refine thn ?_
       refine sqH ?_; intro hQ849Q hQ849
       refine s1 hF845 21 (.int .i64 0) ?_; intro a850 hF851; clear hF845
       refine nlH (hQ849 _ _ ?_); clear hQ849 hQ849Q
       refine wp_seq ?_
       refine sqH ?_; intro hQ852Q hQ852
       refine s1 hF851 137 (.slice (some ⟨g830, 0, none⟩) x11v.length capx11v) ?_; intro a853 hF854; clear hF851
       refine s1 hF854 138 (.int .i64 (x11v.length : Int)) ?_; intro a855 hF856; clear hF854
       refine s1 hF856 139 (.int .i64 0) ?_; intro a857 hF858; clear hF856
       refine nlH (hQ852 _ _ ?_); clear hQ852 hQ852Q
       refine wp_block ?_
       have hF859 : Fr 189 [] [⟨0, [], .slice ao1 u0.length cap2⟩, ⟨11, [], .slice (some ⟨g830, 0, none⟩) x11v.length capx11v⟩, ⟨18, [], .slice aox18v x18v.length capx18v⟩, ⟨19, [], .pointer (some ⟨b664, 0, none⟩)⟩, ⟨20, [], .func (.func 53) #[] #[.pointer (some ⟨b664, 0, none⟩)]⟩, ⟨21, [], .int .i64 0⟩, ⟨137, [], .slice (some ⟨g830, 0, none⟩) x11v.length capx11v⟩, ⟨138, [], .int .i64 (x11v.length : Int)⟩, ⟨139, [], .int .i64 0⟩] a857 := hF858.reg; clear hF858
       have hF861 : Fr 189 [] [⟨0, [], .slice ao1 u0.length cap2⟩, ⟨11, [], .slice (some ⟨g830, 0, none⟩) x11v.length capx11v⟩, ⟨18, [], .slice aox18v x18v.length capx18v⟩, ⟨19, [], .pointer (some ⟨b664, 0, none⟩)⟩, ⟨20, [], .func (.func 53) #[] #[.pointer (some ⟨b664, 0, none⟩)]⟩, ⟨21, [], .int .i64 0⟩, ⟨137, [], .slice (some ⟨g830, 0, none⟩) x11v.length capx11v⟩, ⟨138, [], .int .i64 (x11v.length : Int)⟩, ⟨139, [], .int .i64 0⟩] a857 := hF859.reg; clear hF859
       obtain ⟨inv860, mu860, hI864, hr863⟩ := hp840
       refine lp (ι := Int × Int) (fun (s : Int × Int) => [⟨0, [], .slice ao1 u0.length cap2⟩, ⟨11, [], .slice (some ⟨g830, 0, none⟩) x11v.length capx11v⟩, ⟨18, [], .slice aox18v x18v.length capx18v⟩, ⟨19, [], .pointer (some ⟨b664, 0, none⟩)⟩, ⟨20, [], .func (.func 53) #[] #[.pointer (some ⟨b664, 0, none⟩)]⟩, ⟨21, [], .int .i64 s.1⟩, ⟨137, [], .slice (some ⟨g830, 0, none⟩) x11v.length capx11v⟩, ⟨138, [], .int .i64 (x11v.length : Int)⟩, ⟨139, [], .int .i64 s.2⟩]) (fun (s : Int × Int) => [.own tySlot 48 aox18v capx18v x18v, .row b664 [.int .i64 q838.asked] 3, .own tyJob 110 (some ⟨g830, 0, none⟩) capx11v x11v]) (fun (s : Int × Int) => ZL703) (fun (s : Int × Int) => inv860 s.1 s.2) (fun (s : Int × Int) => mu860 s.1 s.2) ⟨0, 0⟩ hI864 (by exact hF861.reg) (by exact hM848) ?_
       rintro ⟨x21, x139⟩ hI862 a866 wd867 hF868 hM869
       have hF870 : Fr 189 [] [⟨0, [], .slice ao1 u0.length cap2⟩, ⟨11, [], .slice (some ⟨g830, 0, none⟩) x11v.length capx11v⟩, ⟨18, [], .slice aox18v x18v.length capx18v⟩, ⟨19, [], .pointer (some ⟨b664, 0, none⟩)⟩, ⟨20, [], .func (.func 53) #[] #[.pointer (some ⟨b664, 0, none⟩)]⟩, ⟨21, [], .int .i64 x21⟩, ⟨137, [], .slice (some ⟨g830, 0, none⟩) x11v.length capx11v⟩, ⟨138, [], .int .i64 (x11v.length : Int)⟩, ⟨139, [], .int .i64 x139⟩] a866 := hF868; clear hF868 hF861
       have hM871 : Mem w.heap.size [] w Z [.own tySlot 48 aox18v capx18v x18v, .row b664 [.int .i64 q838.asked] 3, .own tyJob 110 (some ⟨g830, 0, none⟩) capx11v x11v] ZL703 wd867 := hM869; clear hM869 hM848
       have hp872 := hr863 x21 x139 hI862
       refine sqH ?_; intro hQ873Q hQ873
       refine s1 hF870 140 (.bool (decide (x139 < (x11v.length : Int)))) ?_; intro a874 hF875; clear hF870
       refine nlH (hQ873 _ _ ?_); clear hQ873 hQ873Q
       refine wp_seq ?_
       refine cd hF875 (t := decide (x139 < (x11v.length : Int))) (by kernel_rfl) (fun hb876 => ?_) (fun hb876 => ?_)
       ·
        have hp877 := hp872.1 hb876; clear hp872
        refine wp_skip ?_
        refine thn ?_
        have hF878 : Fr 189 [] [⟨0, [], .slice ao1 u0.length cap2⟩, ⟨11, [], .slice (some ⟨g830, 0, none⟩) x11v.length capx11v⟩, ⟨18, [], .slice aox18v x18v.length capx18v⟩, ⟨19, [], .pointer (some ⟨b664, 0, none⟩)⟩, ⟨20, [], .func (.func 53) #[] #[.pointer (some ⟨b664, 0, none⟩)]⟩, ⟨21, [], .int .i64 x21⟩, ⟨137, [], .slice (some ⟨g830, 0, none⟩) x11v.length capx11v⟩, ⟨138, [], .int .i64 (x11v.length : Int)⟩, ⟨139, [], .int .i64 x139⟩] a874 := hF875.reg; clear hF875
        have hF880 : Fr 189 [] [⟨0, [], .slice ao1 u0.length cap2⟩, ⟨11, [], .slice (some ⟨g830, 0, none⟩) x11v.length capx11v⟩, ⟨18, [], .slice aox18v x18v.length capx18v⟩, ⟨19, [], .pointer (some ⟨b664, 0, none⟩)⟩, ⟨20, [], .func (.func 53) #[] #[.pointer (some ⟨b664, 0, none⟩)]⟩, ⟨21, [], .int .i64 x21⟩, ⟨137, [], .slice (some ⟨g830, 0, none⟩) x11v.length capx11v⟩, ⟨138, [], .int .i64 (x11v.length : Int)⟩, ⟨139, [], .int .i64 x139⟩] a874 := hF878.reg; clear hF878
        obtain ⟨inv879, hp881, hp882⟩ := hp877
        refine wp_seq_k fun KJ883 hKJ884 => ?_
        have hJ885 : ∀ (x21v : Int), inv879 x21v → ∀ a1 w1, Fr 189 [] [⟨0, [], .slice ao1 u0.length cap2⟩, ⟨11, [], .slice (some ⟨g830, 0, none⟩) x11v.length capx11v⟩, ⟨18, [], .slice aox18v x18v.length capx18v⟩, ⟨19, [], .pointer (some ⟨b664, 0, none⟩)⟩, ⟨20, [], .func (.func 53) #[] #[.pointer (some ⟨b664, 0, none⟩)]⟩, ⟨21, [], .int .i64 x21v⟩, ⟨137, [], .slice (some ⟨g830, 0, none⟩) x11v.length capx11v⟩, ⟨138, [], .int .i64 (x11v.length : Int)⟩, ⟨139, [], .int .i64 x139⟩] a1 → Mem w.heap.size [] w Z [.own tySlot 48 aox18v capx18v x18v, .row b664 [.int .i64 q838.asked] 3, .own tyJob 110 (some ⟨g830, 0, none⟩) capx11v x11v] ZL703 w1 → KJ883 a1 w1 := by
         rintro x21v hI890 a886 wd887 hF888 hM889; clear hF880 hM871
         refine hKJ884 _ _ ?_; clear hKJ884
         have hp891 := hp882 x21v hI890
         refine rgH ?_; intro hQ892Q hQ892
         refine s1 hF888 152 (.int .i64 (w64 (x139 + 1))) ?_; intro a893 hF894; clear hF888
         refine s1 hF894 139 (.int .i64 (w64 (x139 + 1))) ?_; intro a895 hF896; clear hF894
         refine nlH (hQ892 _ _ ?_); clear hQ892 hQ892Q
         refine rd ?_
         exact ⟨⟨x21v, w64 (x139 + 1)⟩, hp891.1, hp891.2, (hF896.reg).anyβ _ (by kernel_rfl), hM889.keep (List.Sublist.cons_cons _ (List.Sublist.cons_cons _ (List.Sublist.cons_cons _ (List.Sublist.slnil))))⟩
        refine wp_block ?_
        refine sqH ?_; intro hQ897Q hQ897
        refine s1 hF880 141 (.int .i64 x139) ?_; intro a898 hF899; clear hF880
        have hc900 := hp881.1; have hp901 := hp881.2; clear hp881
        refine ixo hF899 hM871 2 (T := tyJob) (xs := x11v) x139 hc900 (k := .i64) (e := 110) (bytes := 24) (nog rfl _) rfl (by kernel_rfl) rfl (by kernel_rfl) (by kernel_rfl) rfl (by kernel_rfl) ?_; intro g902 a904 hg903 hF905; clear hF899
        obtain rfl : g830 = g902 := by simpa using hg903
        have hF906 : Fr 189 [] [⟨0, [], .slice ao1 u0.length cap2⟩, ⟨11, [], .slice (some ⟨g830, 0, none⟩) x11v.length capx11v⟩, ⟨18, [], .slice aox18v x18v.length capx18v⟩, ⟨19, [], .pointer (some ⟨b664, 0, none⟩)⟩, ⟨20, [], .func (.func 53) #[] #[.pointer (some ⟨b664, 0, none⟩)]⟩, ⟨21, [], .int .i64 x21⟩, ⟨137, [], .slice (some ⟨g830, 0, none⟩) x11v.length capx11v⟩, ⟨138, [], .int .i64 (x11v.length : Int)⟩, ⟨139, [], .int .i64 x139⟩, ⟨141, [], .int .i64 x139⟩, ⟨142, [], .pointer (some ⟨g830, x139.toNat * 3, none⟩)⟩] a904 := hF905.reg; clear hF905
        have hM907 : Mem w.heap.size [] w Z [.own tySlot 48 aox18v capx18v x18v, .row b664 [.int .i64 q838.asked] 3, .own tyJob 110 (some ⟨g830, 0, none⟩) capx11v x11v] ZL703 wd867 := hM871; clear hM871
        obtain ⟨q908, hq909⟩ : ∃ q, x11v[x139.toNat]? = some q := ⟨_, List.getElem?_eq_getElem (by first | omega | (simp only [List.length_set] at *; omega))⟩; have hp910 := hp901 q908 hq909; clear hp901
        obtain ⟨cs911, hT912, hcl913⟩ := own_el hM907 2 (T := tyJob) (xs := x11v) rfl x139.toNat hq909
        obtain rfl : cs911 = ([.int .i64 q908.task, .int .i64 q908.from_, .int .i64 q908.asked] : List Value) := hT912
        refine lc2 hF906 143 3 [.int .i64 q908.task, .int .i64 q908.from_, .int .i64 q908.asked] hcl913 rfl ?_; intro a914 hF915; clear hF906
        refine sn hF915 hM907 (fun b => .pointer (some ⟨b, 0, none⟩)) [.int .i64 0, .int .i64 0, .int .i64 0] 110 (nog rfl _) rfl (by kernel_rfl) (by kernel_rfl) ?_; intro b916 a917 wd919 hF918 hM920; clear hF915 hM907
        refine s1 hF918 22 (.int .i64 x139) ?_; intro a921 hF922; clear hF918
        refine sr hF922 hM920 0 [.int .i64 q908.task, .int .i64 q908.from_, .int .i64 q908.asked] (b := b916) (off := 0) (cs := [.int .i64 0, .int .i64 0, .int .i64 0]) (ty := 110) (u := .agg #[.int .i64 q908.task, .int .i64 q908.from_, .int .i64 q908.asked]) (nog rfl _) rfl rfl (by kernel_rfl) (by kernel_rfl) (by kernel_rfl) (by kernel_rfl) (by kernel_rfl) (by kernel_rfl) (by kernel_rfl) ?_; intro wd923 hM924; clear hM920
        have hM925 : Mem w.heap.size [] w Z [.row b916 [.int .i64 q908.task, .int .i64 q908.from_, .int .i64 q908.asked] 110, .own tySlot 48 aox18v capx18v x18v, .row b664 [.int .i64 q838.asked] 3, .own tyJob 110 (some ⟨g830, 0, none⟩) capx11v x11v] ZL703 wd923 := hM924; clear hM924
        refine nlH (hQ897 _ _ ?_); clear hQ897 hQ897Q
        have hF926 : Fr 189 [] [⟨0, [], .slice ao1 u0.length cap2⟩, ⟨11, [], .slice (some ⟨g830, 0, none⟩) x11v.length capx11v⟩, ⟨18, [], .slice aox18v x18v.length capx18v⟩, ⟨19, [], .pointer (some ⟨b664, 0, none⟩)⟩, ⟨20, [], .func (.func 53) #[] #[.pointer (some ⟨b664, 0, none⟩)]⟩, ⟨21, [], .int .i64 x21⟩, ⟨22, [], .int .i64 x139⟩, ⟨23, [], .pointer (some ⟨b916, 0, none⟩)⟩, ⟨137, [], .slice (some ⟨g830, 0, none⟩) x11v.length capx11v⟩, ⟨138, [], .int .i64 (x11v.length : Int)⟩, ⟨139, [], .int .i64 x139⟩] a921 := hF922.reg; clear hF922
        have hcd4_0 := hp910.1; have hp951 := hp910.2; clear hp910
        obtain ⟨qd5_0, hqd5_0⟩ : ∃ q, x11v[x21.toNat]? = some q := ⟨_, List.getElem?_eq_getElem (by omega)⟩; have hp952 := hp951 qd5_0 hqd5_0; clear hp951
        refine wp_seq (any_invE mixed [[], [], [], [], [2, 3], [4], [0, 1, 5]] 7 (fun S a w1 => ∃ (g935 : Nat) (ud144 : Value) (ud145 : Value) (ud146 : Value) (ud147 : Value) (ud148 : Value) (ud149 : Value) (ud150 : Value) (rh0 : Res) (rh1 : Res) (rh2 : Res) (rh3 : Res), Fz.le ZL703 ZL703 ∧ Fr 189 [] [⟨0, [], .slice ao1 u0.length cap2⟩, ⟨11, [], .slice (some ⟨g830, 0, none⟩) x11v.length capx11v⟩, ⟨18, [], .slice aox18v x18v.length capx18v⟩, ⟨19, [], .pointer (some ⟨b664, 0, none⟩)⟩, ⟨20, [], .func (.func 53) #[] #[.pointer (some ⟨b664, 0, none⟩)]⟩, ⟨21, [], .int .i64 x21⟩, ⟨22, [], .int .i64 x139⟩, ⟨23, [], .pointer (some ⟨b916, 0, none⟩)⟩, ⟨137, [], .slice (some ⟨g830, 0, none⟩) x11v.length capx11v⟩, ⟨138, [], .int .i64 (x11v.length : Int)⟩, ⟨139, [], .int .i64 x139⟩, ⟨144, [], ud144⟩, ⟨145, [], ud145⟩, ⟨146, [], ud146⟩, ⟨147, [], ud147⟩, ⟨148, [], ud148⟩, ⟨149, [], ud149⟩, ⟨150, [], ud150⟩] a ∧ Mem w.heap.size [] w Z [rh0, rh1, rh2, rh3] ZL703 w1 ∧ (S 0 = true → ud144 = .func (.func 53) #[] #[.pointer (some ⟨b664, 0, none⟩)]) ∧ (S 1 = true → ud145 = .agg #[.int .i64 q908.task, .int .i64 q908.from_, .int .i64 q908.asked]) ∧ (S 2 = true → ud146 = .slice (some ⟨g830, 0, none⟩) x11v.length capx11v) ∧ (S 3 = true → ud147 = .int .i64 x21) ∧ (S 4 = true → ud148 = .pointer (some ⟨g830, x21.toNat * 3, none⟩)) ∧ (S 5 = true → ud149 = .agg #[.int .i64 qd5_0.task, .int .i64 qd5_0.from_, .int .i64 qd5_0.asked]) ∧ (S 6 = true → ud150 = .bool (ahead q908 qd5_0 q838.asked)) ∧ (rh0 = .row b916 [.int .i64 q908.task, .int .i64 q908.from_, .int .i64 q908.asked] 110) ∧ (rh1 = .own tySlot 48 aox18v capx18v x18v) ∧ (rh2 = .row b664 [.int .i64 q838.asked] 3) ∧ (rh3 = .own tyJob 110 (some ⟨g830, 0, none⟩) capx11v x11v)) ?h0 ?hs ?hE)
        case h0 =>
         have hF954 := hF926.any 144
         have hF955 := hF954.any 145
         have hF956 := hF955.any 146
         have hF957 := hF956.any 147
         have hF958 := hF957.any 148
         have hF959 := hF958.any 149
         have hF960 := hF959.any 150
         have hM961 := (hM925.perm lpr).drew
         exact ⟨0, a921.tmps.getD 144 undef, a921.tmps.getD 145 undef, a921.tmps.getD 146 undef, a921.tmps.getD 147 undef, a921.tmps.getD 148 undef, a921.tmps.getD 149 undef, a921.tmps.getD 150 undef, .row b916 [.int .i64 q908.task, .int .i64 q908.from_, .int .i64 q908.asked] 110, .own tySlot 48 aox18v capx18v x18v, .row b664 [.int .i64 q838.asked] 3, .own tyJob 110 (some ⟨g830, 0, none⟩) capx11v x11v, Fz.le.refl _, hF960.reg, hM961, ff, ff, ff, ff, ff, ff, ff, rfl, rfl, rfl, rfl⟩
        case hs =>
         intro S hcl i o hil hi hSi hpre a w1 hI; refine Go.Sy.hid ?_; intro G hG; obtain ⟨g935, ud144, ud145, ud146, ud147, ud148, ud149, ud150, rh0, rh1, rh2, rh3, hle953, hFx, hMx, cu144, cu145, cu146, cu147, cu148, cu149, cu150, cr0_0, cr1_0, cr2_0, hI⟩ := hI; have cr3_0 := hI; clear hI
         have hcase : i = 0 ∨ i = 1 ∨ i = 2 ∨ i = 3 ∨ i = 4 ∨ i = 5 ∨ i = 6 := by clear hi; omega
         rcases hcase with rfl | rfl | rfl | rfl | rfl | rfl | rfl
         ·
          obtain rfl := oj hi
          have hx0 := hSi
          have hx6 := ngF hcl 6 0 hx0
          obtain rfl := cr0_0
          obtain rfl := cr1_0
          obtain rfl := cr2_0
          obtain rfl := cr3_0
          refine hG (any_step ?_); clear hG G; intro A J hJ
          have hle0 := Fz.le.trans hle0 hle953
          have hs962 := hs816.mono hle953
          have hs963 := hs817.mono hle953
          have hs964 := hs818.mono hle953
          have hs965 := hs819.mono hle953
          have hs966 := hs820.mono hle953
          have hs967 := hs821.mono hle953
          refine s1 hFx 144 (.func (.func 53) #[] #[.pointer (some ⟨b664, 0, none⟩)]) ?_; intro a968 hF969; clear hFx
          refine nl (qnI (hJ _ _ ?_)); clear hJ J
          exact ⟨g935, .func (.func 53) #[] #[.pointer (some ⟨b664, 0, none⟩)], ud145, ud146, ud147, ud148, ud149, ud150, .row b916 [.int .i64 q908.task, .int .i64 q908.from_, .int .i64 q908.asked] 110, .own tySlot 48 aox18v capx18v x18v, .row b664 [.int .i64 q838.asked] 3, .own tyJob 110 (some ⟨g830, 0, none⟩) capx11v x11v, hle953, hF969.reg, hMx.perm lpr, kf, cu145, cu146, cu147, cu148, cu149, (nt hx6), rfl, rfl, rfl, rfl⟩
         ·
          obtain rfl := oj hi
          have hx1 := hSi
          have hx6 := ngF hcl 6 1 hx1
          obtain rfl := cr0_0
          obtain rfl := cr1_0
          obtain rfl := cr2_0
          obtain rfl := cr3_0
          refine hG (any_step ?_); clear hG G; intro A J hJ
          have hle0 := Fz.le.trans hle0 hle953
          have hs971 := hs816.mono hle953
          have hs972 := hs817.mono hle953
          have hs973 := hs818.mono hle953
          have hs974 := hs819.mono hle953
          have hs975 := hs820.mono hle953
          have hs976 := hs821.mono hle953
          refine l2 hFx hMx 145 0 0 3 [.int .i64 q908.task, .int .i64 q908.from_, .int .i64 q908.asked] rfl rfl ?_; intro a977 hF978; clear hFx
          refine nl (qnI (hJ _ _ ?_)); clear hJ J
          exact ⟨g935, ud144, .agg #[.int .i64 q908.task, .int .i64 q908.from_, .int .i64 q908.asked], ud146, ud147, ud148, ud149, ud150, .row b916 [.int .i64 q908.task, .int .i64 q908.from_, .int .i64 q908.asked] 110, .own tySlot 48 aox18v capx18v x18v, .row b664 [.int .i64 q838.asked] 3, .own tyJob 110 (some ⟨g830, 0, none⟩) capx11v x11v, hle953, hF978.reg, hMx.perm lpr, cu144, kf, cu146, cu147, cu148, cu149, (nt hx6), rfl, rfl, rfl, rfl⟩
         ·
          obtain rfl := oj hi
          have hx2 := hSi
          have hx4 := ngF hcl 4 2 hx2
          have hx5 := ngF hcl 5 4 hx4
          have hx6 := ngF hcl 6 5 hx5
          obtain rfl := cr0_0
          obtain rfl := cr1_0
          obtain rfl := cr2_0
          obtain rfl := cr3_0
          refine hG (any_step ?_); clear hG G; intro A J hJ
          have hle0 := Fz.le.trans hle0 hle953
          have hs980 := hs816.mono hle953
          have hs981 := hs817.mono hle953
          have hs982 := hs818.mono hle953
          have hs983 := hs819.mono hle953
          have hs984 := hs820.mono hle953
          have hs985 := hs821.mono hle953
          refine s1 hFx 146 (.slice (some ⟨g830, 0, none⟩) x11v.length capx11v) ?_; intro a986 hF987; clear hFx
          refine nl (qnI (hJ _ _ ?_)); clear hJ J
          exact ⟨g935, ud144, ud145, .slice (some ⟨g830, 0, none⟩) x11v.length capx11v, ud147, ud148, ud149, ud150, .row b916 [.int .i64 q908.task, .int .i64 q908.from_, .int .i64 q908.asked] 110, .own tySlot 48 aox18v capx18v x18v, .row b664 [.int .i64 q838.asked] 3, .own tyJob 110 (some ⟨g830, 0, none⟩) capx11v x11v, hle953, hF987.reg, hMx.perm lpr, cu144, cu145, kf, cu147, (nt hx4), (nt hx5), (nt hx6), rfl, rfl, rfl, rfl⟩
         ·
          obtain rfl := oj hi
          have hx3 := hSi
          have hx4 := ngF hcl 4 3 hx3
          have hx5 := ngF hcl 5 4 hx4
          have hx6 := ngF hcl 6 5 hx5
          obtain rfl := cr0_0
          obtain rfl := cr1_0
          obtain rfl := cr2_0
          obtain rfl := cr3_0
          refine hG (any_step ?_); clear hG G; intro A J hJ
          have hle0 := Fz.le.trans hle0 hle953
          have hs989 := hs816.mono hle953
          have hs990 := hs817.mono hle953
          have hs991 := hs818.mono hle953
          have hs992 := hs819.mono hle953
          have hs993 := hs820.mono hle953
          have hs994 := hs821.mono hle953
          refine s1 hFx 147 (.int .i64 x21) ?_; intro a995 hF996; clear hFx
          refine nl (qnI (hJ _ _ ?_)); clear hJ J
          exact ⟨g935, ud144, ud145, ud146, .int .i64 x21, ud148, ud149, ud150, .row b916 [.int .i64 q908.task, .int .i64 q908.from_, .int .i64 q908.asked] 110, .own tySlot 48 aox18v capx18v x18v, .row b664 [.int .i64 q838.asked] 3, .own tyJob 110 (some ⟨g830, 0, none⟩) capx11v x11v, hle953, hF996.reg, hMx.perm lpr, cu144, cu145, cu146, kf, (nt hx4), (nt hx5), (nt hx6), rfl, rfl, rfl, rfl⟩
         ·
          obtain rfl := oj hi
          have hx3 := hpre 3 (by kernel_rfl)
          have hx2 := hpre 2 (by kernel_rfl)
          have hx4 := hSi
          have hx5 := ngF hcl 5 4 hx4
          have hx6 := ngF hcl 6 5 hx5
          obtain rfl := cu146 hx2
          obtain rfl := cu147 hx3
          obtain rfl := cr0_0
          obtain rfl := cr1_0
          obtain rfl := cr2_0
          obtain rfl := cr3_0
          refine hG (any_step ?_); clear hG G; intro A J hJ
          have hle0 := Fz.le.trans hle0 hle953
          have hs998 := hs816.mono hle953
          have hs999 := hs817.mono hle953
          have hs1000 := hs818.mono hle953
          have hs1001 := hs819.mono hle953
          have hs1002 := hs820.mono hle953
          have hs1003 := hs821.mono hle953
          refine ixo hFx hMx 3 (T := tyJob) (xs := x11v) x21 (by simpa only [List.length_set] using hcd4_0) (k := .i64) (e := 110) (bytes := 24) (nog rfl _) rfl (by kernel_rfl) rfl (by kernel_rfl) (by kernel_rfl) rfl (by kernel_rfl) ?_; intro g1004 a1006 hg1005 hF1007; clear hFx
          obtain rfl : g830 = g1004 := by simpa using hg1005
          have hF1008 : Fr 189 [] [⟨0, [], .slice ao1 u0.length cap2⟩, ⟨11, [], .slice (some ⟨g830, 0, none⟩) x11v.length capx11v⟩, ⟨18, [], .slice aox18v x18v.length capx18v⟩, ⟨19, [], .pointer (some ⟨b664, 0, none⟩)⟩, ⟨20, [], .func (.func 53) #[] #[.pointer (some ⟨b664, 0, none⟩)]⟩, ⟨21, [], .int .i64 x21⟩, ⟨22, [], .int .i64 x139⟩, ⟨23, [], .pointer (some ⟨b916, 0, none⟩)⟩, ⟨137, [], .slice (some ⟨g830, 0, none⟩) x11v.length capx11v⟩, ⟨138, [], .int .i64 (x11v.length : Int)⟩, ⟨139, [], .int .i64 x139⟩, ⟨144, [], ud144⟩, ⟨145, [], ud145⟩, ⟨146, [], .slice (some ⟨g830, 0, none⟩) x11v.length capx11v⟩, ⟨147, [], .int .i64 x21⟩, ⟨148, [], .pointer (some ⟨g830, x21.toNat * 3, none⟩)⟩, ⟨149, [], ud149⟩, ⟨150, [], ud150⟩] a1006 := hF1007.reg; clear hF1007
          have hM1009 : Mem w.heap.size [] w Z [.row b916 [.int .i64 q908.task, .int .i64 q908.from_, .int .i64 q908.asked] 110, .own tySlot 48 aox18v capx18v x18v, .row b664 [.int .i64 q838.asked] 3, .own tyJob 110 (some ⟨g830, 0, none⟩) capx11v x11v] ZL703 w1 := hMx; clear hMx
          refine nl (qnI (hJ _ _ ?_)); clear hJ J
          exact ⟨g830, ud144, ud145, .slice (some ⟨g830, 0, none⟩) x11v.length capx11v, .int .i64 x21, .pointer (some ⟨g830, x21.toNat * 3, none⟩), ud149, ud150, .row b916 [.int .i64 q908.task, .int .i64 q908.from_, .int .i64 q908.asked] 110, .own tySlot 48 aox18v capx18v x18v, .row b664 [.int .i64 q838.asked] 3, .own tyJob 110 (some ⟨g830, 0, none⟩) capx11v x11v, hle953, hF1008.reg, hM1009.perm lpr, cu144, cu145, kf, kf, kf, (nt hx5), (nt hx6), rfl, rfl, rfl, rfl⟩
         ·
          obtain rfl := oj hi
          have hx4 := hpre 4 (by kernel_rfl)
          have hx3 := hcl 4 3 (by kernel_rfl) hx4
          have hx2 := hcl 4 2 (by kernel_rfl) hx4
          have hx5 := hSi
          have hx6 := ngF hcl 6 5 hx5
          obtain rfl := cu146 hx2
          obtain rfl := cu147 hx3
          obtain rfl := cu148 hx4
          obtain rfl := cr0_0
          obtain rfl := cr1_0
          obtain rfl := cr2_0
          obtain rfl := cr3_0
          refine hG (any_step ?_); clear hG G; intro A J hJ
          have hle0 := Fz.le.trans hle0 hle953
          have hs1011 := hs816.mono hle953
          have hs1012 := hs817.mono hle953
          have hs1013 := hs818.mono hle953
          have hs1014 := hs819.mono hle953
          have hs1015 := hs820.mono hle953
          have hs1016 := hs821.mono hle953
          obtain ⟨cs1017, hT1018, hcl1019⟩ := own_el hMx 3 (T := tyJob) (xs := x11v) rfl x21.toNat hqd5_0
          obtain rfl : cs1017 = ([.int .i64 qd5_0.task, .int .i64 qd5_0.from_, .int .i64 qd5_0.asked] : List Value) := hT1018
          refine lc2 hFx 149 3 [.int .i64 qd5_0.task, .int .i64 qd5_0.from_, .int .i64 qd5_0.asked] hcl1019 rfl ?_; intro a1020 hF1021; clear hFx
          refine nl (qnI (hJ _ _ ?_)); clear hJ J
          exact ⟨g935, ud144, ud145, .slice (some ⟨g830, 0, none⟩) x11v.length capx11v, .int .i64 x21, .pointer (some ⟨g830, x21.toNat * 3, none⟩), .agg #[.int .i64 qd5_0.task, .int .i64 qd5_0.from_, .int .i64 qd5_0.asked], ud150, .row b916 [.int .i64 q908.task, .int .i64 q908.from_, .int .i64 q908.asked] 110, .own tySlot 48 aox18v capx18v x18v, .row b664 [.int .i64 q838.asked] 3, .own tyJob 110 (some ⟨g830, 0, none⟩) capx11v x11v, hle953, hF1021.reg, hMx.perm lpr, cu144, cu145, kf, kf, kf, kf, (nt hx6), rfl, rfl, rfl, rfl⟩
         ·
          obtain rfl := oj hi
          have hx5 := hpre 5 (by kernel_rfl)
          have hx1 := hpre 1 (by kernel_rfl)
          have hx0 := hpre 0 (by kernel_rfl)
          have hx4 := hcl 5 4 (by kernel_rfl) hx5
          have hx3 := hcl 4 3 (by kernel_rfl) hx4
          have hx2 := hcl 4 2 (by kernel_rfl) hx4
          have hx6 := hSi
          obtain rfl := cu144 hx0
          obtain rfl := cu145 hx1
          obtain rfl := cu146 hx2
          obtain rfl := cu147 hx3
          obtain rfl := cu148 hx4
          obtain rfl := cu149 hx5
          obtain rfl := cr0_0
          obtain rfl := cr1_0
          obtain rfl := cr2_0
          obtain rfl := cr3_0
          refine hG (any_step ?_); clear hG G; intro A J hJ
          have hle0 := Fz.le.trans hle0 hle953
          have hs1023 := hs816.mono hle953
          have hs1024 := hs817.mono hle953
          have hs1025 := hs818.mono hle953
          have hs1026 := hs819.mono hle953
          have hs1027 := hs820.mono hle953
          have hs1028 := hs821.mono hle953
          refine fcl hFx hMx (.bool (ahead q908 qd5_0 q838.asked)) 53 #[.agg #[.int .i64 q908.task, .int .i64 q908.from_, .int .i64 q908.asked], .agg #[.int .i64 qd5_0.task, .int .i64 qd5_0.from_, .int .i64 qd5_0.asked], .pointer (some ⟨b664, 0, none⟩)] (nog rfl _) rfl (by kernel_rfl) (fun _ => by kernel_rfl) ((by obtain ⟨Z9, hle9, hon9, hP1029⟩ := hMx.lendRow 2 rfl; exact ahead_fun q908 qd5_0 q838.asked b664 0 _ _ hP1029 hon9)) ?_; intro a1030 wd1032 hF1031 hM1033; clear hFx hMx
          refine nl (qnI (hJ _ _ ?_)); clear hJ J
          exact ⟨g935, .func (.func 53) #[] #[.pointer (some ⟨b664, 0, none⟩)], .agg #[.int .i64 q908.task, .int .i64 q908.from_, .int .i64 q908.asked], .slice (some ⟨g830, 0, none⟩) x11v.length capx11v, .int .i64 x21, .pointer (some ⟨g830, x21.toNat * 3, none⟩), .agg #[.int .i64 qd5_0.task, .int .i64 qd5_0.from_, .int .i64 qd5_0.asked], .bool (ahead q908 qd5_0 q838.asked), .row b916 [.int .i64 q908.task, .int .i64 q908.from_, .int .i64 q908.asked] 110, .own tySlot 48 aox18v capx18v x18v, .row b664 [.int .i64 q838.asked] 3, .own tyJob 110 (some ⟨g830, 0, none⟩) capx11v x11v, hle953, hF1031.reg, hM1033.perm lpr, kf, kf, kf, kf, kf, kf, kf, rfl, rfl, rfl, rfl⟩
        case hE =>
         intro S hS a1035 wd1036 hI; refine Go.Sy.hid ?_; intro G hG; obtain ⟨g935, ud144, ud145, ud146, ud147, ud148, ud149, ud150, rh0, rh1, rh2, rh3, hle953, hFx, hMx, cu144, cu145, cu146, cu147, cu148, cu149, cu150, cr0_0, cr1_0, cr2_0, hI⟩ := hI; have cr3_0 := hI; clear hI; refine hG ?_; clear hG G
         obtain rfl := cu144 (hS 0 (by decide))
         obtain rfl := cu145 (hS 1 (by decide))
         obtain rfl := cu146 (hS 2 (by decide))
         obtain rfl := cu147 (hS 3 (by decide))
         obtain rfl := cu148 (hS 4 (by decide))
         obtain rfl := cu149 (hS 5 (by decide))
         obtain rfl := cu150 (hS 6 (by decide))
         obtain rfl := cr0_0
         obtain rfl := cr1_0
         obtain rfl := cr2_0
         obtain rfl := cr3_0
         have hle0 := Fz.le.trans hle0 hle953
         have hs1037 := hs816.mono hle953
         have hs1038 := hs817.mono hle953
         have hs1039 := hs818.mono hle953
         have hs1040 := hs819.mono hle953
         have hs1041 := hs820.mono hle953
         have hs1042 := hs821.mono hle953
         refine thn ?_
         refine cd hFx (t := (ahead q908 qd5_0 q838.asked)) (by kernel_rfl) (fun hb1043 => ?_) (fun hb1043 => ?_)
         ·
          have hp1044 := hp952.1 hb1043; clear hp952
          have hF1045 : Fr 189 [] [⟨0, [], .slice ao1 u0.length cap2⟩, ⟨11, [], .slice (some ⟨g830, 0, none⟩) x11v.length capx11v⟩, ⟨18, [], .slice aox18v x18v.length capx18v⟩, ⟨19, [], .pointer (some ⟨b664, 0, none⟩)⟩, ⟨20, [], .func (.func 53) #[] #[.pointer (some ⟨b664, 0, none⟩)]⟩, ⟨22, [], .int .i64 x139⟩, ⟨137, [], .slice (some ⟨g830, 0, none⟩) x11v.length capx11v⟩, ⟨138, [], .int .i64 (x11v.length : Int)⟩, ⟨139, [], .int .i64 x139⟩] a1035 := hFx.reg; clear hFx
          refine rgH ?_; intro hQ1046Q hQ1046
          refine s1 hF1045 151 (.int .i64 x139) ?_; intro a1047 hF1048; clear hF1045
          refine s1 hF1048 21 (.int .i64 x139) ?_; intro a1049 hF1050; clear hF1048
          refine nlH (hQ1046 _ _ ?_); clear hQ1046 hQ1046Q
          refine ibn ?_
          refine rd ?_
          exact hJ885 x139 hp1044 _ _ ((hF1050.reg).anyβ _ (by kernel_rfl)) (hMx.keep (List.Sublist.cons _ (List.Sublist.cons_cons _ (List.Sublist.cons_cons _ (List.Sublist.cons_cons _ (List.Sublist.slnil))))))
         ·
          have hp1051 := hp952.2 hb1043; clear hp952
          refine wp_skip ?_
          refine ibn ?_
          refine rd ?_
          exact hJ885 x21 hp1051 _ _ ((hFx.reg).anyβ _ (by kernel_rfl)) (hMx.keep (List.Sublist.cons _ (List.Sublist.cons_cons _ (List.Sublist.cons_cons _ (List.Sublist.cons_cons _ (List.Sublist.slnil))))))
       ·
        have hp1052 := hp872.2 hb876; clear hp872
        refine wp_exit ?_
        refine thx ?_
        refine thx ?_
        refine ibx ?_
        refine thn ?_
        refine sqH ?_; intro hQ1053Q hQ1053
        refine s1 hF875 153 (.slice (some ⟨g830, 0, none⟩) x11v.length capx11v) ?_; intro a1054 hF1055; clear hF875
        refine s1 hF1055 154 (.int .i64 x21) ?_; intro a1056 hF1057; clear hF1055
        have hc1058 := hp1052.1; have hp1059 := hp1052.2; clear hp1052
        refine ixo hF1057 hM871 2 (T := tyJob) (xs := x11v) x21 hc1058 (k := .i64) (e := 110) (bytes := 24) (nog rfl _) rfl (by kernel_rfl) rfl (by kernel_rfl) (by kernel_rfl) rfl (by kernel_rfl) ?_; intro g1060 a1062 hg1061 hF1063; clear hF1057
        obtain rfl : g830 = g1060 := by simpa using hg1061
        have hF1064 : Fr 189 [] [⟨0, [], .slice ao1 u0.length cap2⟩, ⟨11, [], .slice (some ⟨g830, 0, none⟩) x11v.length capx11v⟩, ⟨18, [], .slice aox18v x18v.length capx18v⟩, ⟨19, [], .pointer (some ⟨b664, 0, none⟩)⟩, ⟨20, [], .func (.func 53) #[] #[.pointer (some ⟨b664, 0, none⟩)]⟩, ⟨21, [], .int .i64 x21⟩, ⟨137, [], .slice (some ⟨g830, 0, none⟩) x11v.length capx11v⟩, ⟨138, [], .int .i64 (x11v.length : Int)⟩, ⟨139, [], .int .i64 x139⟩, ⟨140, [], .bool (decide (x139 < (x11v.length : Int)))⟩, ⟨153, [], .slice (some ⟨g830, 0, none⟩) x11v.length capx11v⟩, ⟨154, [], .int .i64 x21⟩, ⟨155, [], .pointer (some ⟨g830, x21.toNat * 3, none⟩)⟩] a1062 := hF1063.reg; clear hF1063
        have hM1065 : Mem w.heap.size [] w Z [.own tySlot 48 aox18v capx18v x18v, .row b664 [.int .i64 q838.asked] 3, .own tyJob 110 (some ⟨g830, 0, none⟩) capx11v x11v] ZL703 wd867 := hM871; clear hM871
        obtain ⟨q1066, hq1067⟩ : ∃ q, x11v[x21.toNat]? = some q := ⟨_, List.getElem?_eq_getElem (by first | omega | (simp only [List.length_set] at *; omega))⟩; have hp1068 := hp1059 q1066 hq1067; clear hp1059
        obtain ⟨cs1069, hT1070, hcl1071⟩ := own_el hM1065 2 (T := tyJob) (xs := x11v) rfl x21.toNat hq1067
        obtain rfl : cs1069 = ([.int .i64 q1066.task, .int .i64 q1066.from_, .int .i64 q1066.asked] : List Value) := hT1070
        refine lc2 hF1064 156 3 [.int .i64 q1066.task, .int .i64 q1066.from_, .int .i64 q1066.asked] hcl1071 rfl ?_; intro a1072 hF1073; clear hF1064
        refine sn hF1073 hM1065 (fun b => .pointer (some ⟨b, 0, none⟩)) [.int .i64 0, .int .i64 0, .int .i64 0] 110 (nog rfl _) rfl (by kernel_rfl) (by kernel_rfl) ?_; intro b1074 a1075 wd1077 hF1076 hM1078; clear hF1073 hM1065
        refine sr hF1076 hM1078 0 [.int .i64 q1066.task, .int .i64 q1066.from_, .int .i64 q1066.asked] (b := b1074) (off := 0) (cs := [.int .i64 0, .int .i64 0, .int .i64 0]) (ty := 110) (u := .agg #[.int .i64 q1066.task, .int .i64 q1066.from_, .int .i64 q1066.asked]) (nog rfl _) rfl rfl (by kernel_rfl) (by kernel_rfl) (by kernel_rfl) (by kernel_rfl) (by kernel_rfl) (by kernel_rfl) (by kernel_rfl) ?_; intro wd1079 hM1080; clear hM1078
        have hM1081 : Mem w.heap.size [] w Z [.row b1074 [.int .i64 q1066.task, .int .i64 q1066.from_, .int .i64 q1066.asked] 110, .own tySlot 48 aox18v capx18v x18v, .row b664 [.int .i64 q838.asked] 3, .own tyJob 110 (some ⟨g830, 0, none⟩) capx11v x11v] ZL703 wd1079 := hM1080; clear hM1080
        refine nlH (hQ1053 _ _ ?_); clear hQ1053 hQ1053Q
        refine sqH ?_; intro hQ1082Q hQ1082
        refine s1 hF1076 157 (.slice (some ⟨g830, 0, none⟩) x11v.length capx11v) ?_; intro a1083 hF1084; clear hF1076
        refine s1 hF1084 158 (.int .i64 x21) ?_; intro a1085 hF1086; clear hF1084
        refine s1 hF1086 159 (.int .i64 x21) ?_; intro a1087 hF1088; clear hF1086
        refine s1 hF1088 160 (.int .i64 (w64 (x21 + 1))) ?_; intro a1089 hF1090; clear hF1088
        have hc1091 := hp1068.1; have hp1092 := hp1068.2; clear hp1068
        refine cl hF1090 54 #[.slice (some ⟨g830, 0, none⟩) x11v.length capx11v, .int .i64 x21, .int .i64 (w64 (x21 + 1))] (nog rfl _) rfl (by kernel_rfl) (by kernel_rfl) ?_
        refine (sdel_fun x11v x21 (w64 (x21 + 1)) hc1091 (some ⟨g830, 0, none⟩) capx11v _ _ _ _ _ _ (hM1081.perm (pk 3 rfl)) hM1081.fz).mono ?_; rintro _ wd1093 ⟨ao1097, cap1098, Z1099, rfl, hle1100, hm⟩; refine ⟨_, rfl, ?_⟩; intro a1094 hF1095; have hM1096 := hm; clear hm hM1081 hF1090
        replace hs816 := hs816.mono hle1100
        replace hs817 := hs817.mono hle1100
        replace hs818 := hs818.mono hle1100
        replace hs819 := hs819.mono hle1100
        replace hs820 := hs820.mono hle1100
        replace hs821 := hs821.mono hle1100
        replace hle0 := Fz.le.trans hle0 hle1100
        have hM1101 : Mem w.heap.size [] w Z [.own tyJob 110 ao1097 cap1098 (sdelS x11v x21 (w64 (x21 + 1))), .row b1074 [.int .i64 q1066.task, .int .i64 q1066.from_, .int .i64 q1066.asked] 110, .own tySlot 48 aox18v capx18v x18v, .row b664 [.int .i64 q838.asked] 3] Z1099 wd1093 := hM1096; clear hM1096
        have hp1102 := hp1092 (hM1101.ownSmall 0 rfl); clear hp1092
        refine s1 hF1095 11 (.slice ao1097 (sdelS x11v x21 (w64 (x21 + 1))).length cap1098) ?_; intro a1103 hF1104; clear hF1095
        refine nlH (hQ1082 _ _ ?_); clear hQ1082 hQ1082Q
        refine sqH ?_; intro hQ1105Q hQ1105
        refine s1 hF1104 163 (.slice ao1 u0.length cap2) ?_; intro a1106 hF1107; clear hF1104
        refine s1 hF1107 164 (.pointer (some ⟨b1074, 0, none⟩)) ?_; intro a1108 hF1109; clear hF1107
        refine l1 hF1109 hM1101 165 1 0 (.int .i64 q1066.task) rfl rfl ?_; intro a1110 hF1111; clear hF1109
        have hc1112 := hp1102.1; have hp1113 := hp1102.2; clear hp1102
        refine ix hF1111 (T := tyTask) (xs := u0) hs816 q1066.task hc1112 (k := .i64) (e := 34) (bytes := 40) (nog rfl _) rfl (by kernel_rfl) rfl (by kernel_rfl) (by kernel_rfl) (by kernel_rfl) ?_; intro b1114 off1115 cs1116 q1117 a1121 hq1118 hP1119 hT1120 hF1122; clear hF1111
        have hp1123 := hp1113 q1117 hq1118; clear hp1113
        obtain rfl : cs1116 = ([.int .i64 q1117.ID, .int .i64 q1117.Bytes, .int .i64 q1117.Every, .int .i64 q1117.Late, .int .i64 q1117.Jitter] : List Value) := hT1120
        refine s1 hF1122 167 (.pointer (some ⟨b1114, off1115 + 1, none⟩)) ?_; intro a1124 hF1125; clear hF1122
        refine z1 hF1125 hM1101 168 hP1119 1 (.int .i64 q1117.Bytes) rfl ?_; intro a1126 hF1127; clear hF1125
        refine fcl hF1127 hM1101 (.tuple #[.int .i64 ((flongestS false false q1117.Bytes).1), .int .i64 ((flongestS false false q1117.Bytes).2)]) 55 #[.bool false, .bool false, .int .i64 q1117.Bytes] (nog rfl _) rfl (by kernel_rfl) (fun _ => by kernel_rfl) (flongest_fun false false q1117.Bytes _ _ hM1101.fz) ?_; intro a1128 wd1130 hF1129 hM1131; clear hF1127 hM1101
        refine s1 hF1129 162 (.tuple #[.int .i64 ((flongestS false false q1117.Bytes).1), .int .i64 ((flongestS false false q1117.Bytes).2)]) ?_; intro a1132 hF1133; clear hF1129
        refine s1 hF1133 170 (.int .i64 ((flongestS false false q1117.Bytes).1)) ?_; intro a1134 hF1135; clear hF1133
        refine s1 hF1135 171 (.int .i64 ((flongestS false false q1117.Bytes).2)) ?_; intro a1136 hF1137; clear hF1135
        refine s1 hF1137 25 (.int .i64 ((flongestS false false q1117.Bytes).1)) ?_; intro a1138 hF1139; clear hF1137
        refine s1 hF1139 26 (.int .i64 ((flongestS false false q1117.Bytes).2)) ?_; intro a1140 hF1141; clear hF1139
        refine nlH (hQ1105 _ _ ?_); clear hQ1105 hQ1105Q
        have hF1142 : Fr 189 [] [⟨0, [], .slice ao1 u0.length cap2⟩, ⟨11, [], .slice ao1097 (sdelS x11v x21 (w64 (x21 + 1))).length cap1098⟩, ⟨18, [], .slice aox18v x18v.length capx18v⟩, ⟨19, [], .pointer (some ⟨b664, 0, none⟩)⟩, ⟨20, [], .func (.func 53) #[] #[.pointer (some ⟨b664, 0, none⟩)]⟩, ⟨24, [], .pointer (some ⟨b1074, 0, none⟩)⟩, ⟨25, [], .int .i64 ((flongestS false false q1117.Bytes).1)⟩] a1140 := hF1141.reg; clear hF1141
        refine sqH ?_; intro hQ1143Q hQ1143
        refine s1 hF1142 172 (.pointer (some ⟨b1074, 0, none⟩)) ?_; intro a1144 hF1145; clear hF1142
        refine l1 hF1145 hM1131 173 1 0 (.int .i64 q1066.task) rfl rfl ?_; intro a1146 hF1147; clear hF1145
        refine s1 hF1147 174 (.pointer (some ⟨b1074, 1, none⟩)) ?_; intro a1148 hF1149; clear hF1147
        refine l1 hF1149 hM1131 175 1 1 (.int .i64 q1066.from_) rfl rfl ?_; intro a1150 hF1151; clear hF1149
        refine l1 hF1151 hM1131 176 3 0 (.int .i64 q838.asked) rfl rfl ?_; intro a1152 hF1153; clear hF1151
        refine l1 hF1153 hM1131 177 3 0 (.int .i64 q838.asked) rfl rfl ?_; intro a1154 hF1155; clear hF1153
        refine s1 hF1155 178 (.int .i64 ((flongestS false false q1117.Bytes).1)) ?_; intro a1156 hF1157; clear hF1155
        refine s1 hF1157 179 (.int .i64 (w64 (q838.asked + ((flongestS false false q1117.Bytes).1)))) ?_; intro a1158 hF1159; clear hF1157
        refine s1 hF1159 180 (.int .i64 (w64 ((w64 (q838.asked + ((flongestS false false q1117.Bytes).1))) + 3))) ?_; intro a1160 hF1161; clear hF1159
        refine s1 hF1161 181 (.agg #[.int .i64 q1066.task, .int .i64 q1066.from_, .int .i64 q838.asked, .int .i64 (w64 ((w64 (q838.asked + ((flongestS false false q1117.Bytes).1))) + 3))]) ?_; intro a1162 hF1163; clear hF1161
        refine sn hF1163 hM1131 (fun b => .pointer (some ⟨b, 0, none⟩)) [.int .i64 0, .int .i64 0, .int .i64 0, .int .i64 0] 48 (nog rfl _) rfl (by kernel_rfl) (by kernel_rfl) ?_; intro b1164 a1165 wd1167 hF1166 hM1168; clear hF1163 hM1131
        refine sr hF1166 hM1168 0 [.int .i64 q1066.task, .int .i64 q1066.from_, .int .i64 q838.asked, .int .i64 (w64 ((w64 (q838.asked + ((flongestS false false q1117.Bytes).1))) + 3))] (b := b1164) (off := 0) (cs := [.int .i64 0, .int .i64 0, .int .i64 0, .int .i64 0]) (ty := 48) (u := .agg #[.int .i64 q1066.task, .int .i64 q1066.from_, .int .i64 q838.asked, .int .i64 (w64 ((w64 (q838.asked + ((flongestS false false q1117.Bytes).1))) + 3))]) (nog rfl _) rfl rfl (by kernel_rfl) (by kernel_rfl) (by kernel_rfl) (by kernel_rfl) (by kernel_rfl) (by kernel_rfl) (by kernel_rfl) ?_; intro wd1169 hM1170; clear hM1168
        have hM1171 : Mem w.heap.size [] w Z [.row b1164 [.int .i64 q1066.task, .int .i64 q1066.from_, .int .i64 q838.asked, .int .i64 (w64 ((w64 (q838.asked + ((flongestS false false q1117.Bytes).1))) + 3))] 48, .own tyJob 110 ao1097 cap1098 (sdelS x11v x21 (w64 (x21 + 1))), .row b1074 [.int .i64 q1066.task, .int .i64 q1066.from_, .int .i64 q1066.asked] 110, .own tySlot 48 aox18v capx18v x18v, .row b664 [.int .i64 q838.asked] 3] Z1099 wd1169 := hM1170; clear hM1170
        refine nlH (hQ1143 _ _ ?_); clear hQ1143 hQ1143Q
        refine sqH ?_; intro hQ1172Q hQ1172
        refine s1 hF1166 182 (.slice aox18v x18v.length capx18v) ?_; intro a1173 hF1174; clear hF1166
        refine l2 hF1174 hM1171 183 0 0 4 [.int .i64 q1066.task, .int .i64 q1066.from_, .int .i64 q838.asked, .int .i64 (w64 ((w64 (q838.asked + ((flongestS false false q1117.Bytes).1))) + 3))] rfl rfl ?_; intro a1175 hF1176; clear hF1174
        refine sn hF1176 hM1171 (fun b => .slice (some ⟨b, 0, none⟩) 1 1) [.int .i64 q1066.task, .int .i64 q1066.from_, .int .i64 q838.asked, .int .i64 (w64 ((w64 (q838.asked + ((flongestS false false q1117.Bytes).1))) + 3))] 48 (nog rfl _) rfl (by kernel_rfl) (by kernel_rfl) ?_; intro b1177 a1178 wd1180 hF1179 hM1181; clear hF1176 hM1171
        have hc1182 := hp1123.1; have hp1183 := hp1123.2; clear hp1123
        refine ap hF1179 hM1181 4 (T := tySlot) (xs := x18v) (ys := [(⟨q1066.task, q1066.from_, q838.asked, w64 ((w64 (q838.asked + ((flongestS false false q1117.Bytes).1))) + 3)⟩ : Slot)]) (ao := aox18v) (cap := capx18v) (ao2 := (some ⟨b1177, 0, none⟩)) (cap2 := 1) (t := 43) (e := 48) (bytes := 32) (nog rfl _) rfl (by kernel_rfl) rfl (by kernel_rfl) (by kernel_rfl) (by kernel_rfl) rfl (Src.row hM1181 0 rfl (RepAll.one (T := tySlot) (x := (⟨q1066.task, q1066.from_, q838.asked, w64 ((w64 (q838.asked + ((flongestS false false q1117.Bytes).1))) + 3)⟩ : Slot)) rfl)) hc1182 ?_; intro ao1184 cap1185 a1189 wd1186 hnil1187 hF1190 hM1188; clear hF1179 hM1181
        have hM1191 : Mem w.heap.size [] w Z [.row b1177 [.int .i64 q1066.task, .int .i64 q1066.from_, .int .i64 q838.asked, .int .i64 (w64 ((w64 (q838.asked + ((flongestS false false q1117.Bytes).1))) + 3))] 48, .row b1164 [.int .i64 q1066.task, .int .i64 q1066.from_, .int .i64 q838.asked, .int .i64 (w64 ((w64 (q838.asked + ((flongestS false false q1117.Bytes).1))) + 3))] 48, .own tyJob 110 ao1097 cap1098 (sdelS x11v x21 (w64 (x21 + 1))), .row b1074 [.int .i64 q1066.task, .int .i64 q1066.from_, .int .i64 q1066.asked] 110, .own tySlot 48 ao1184 cap1185 (x18v ++ [(⟨q1066.task, q1066.from_, q838.asked, w64 ((w64 (q838.asked + ((flongestS false false q1117.Bytes).1))) + 3)⟩ : Slot)]), .row b664 [.int .i64 q838.asked] 3] Z1099 wd1186 := hM1188; clear hM1188
        refine s1 hF1190 18 (.slice ao1184 (x18v ++ [(⟨q1066.task, q1066.from_, q838.asked, w64 ((w64 (q838.asked + ((flongestS false false q1117.Bytes).1))) + 3)⟩ : Slot)]).length cap1185) ?_; intro a1192 hF1193; clear hF1190
        refine nlH (hQ1172 _ _ ?_); clear hQ1172 hQ1172Q
        have hF1194 : Fr 189 [] [⟨0, [], .slice ao1 u0.length cap2⟩, ⟨11, [], .slice ao1097 (sdelS x11v x21 (w64 (x21 + 1))).length cap1098⟩, ⟨18, [], .slice ao1184 (x18v ++ [(⟨q1066.task, q1066.from_, q838.asked, w64 ((w64 (q838.asked + ((flongestS false false q1117.Bytes).1))) + 3)⟩ : Slot)]).length cap1185⟩, ⟨19, [], .pointer (some ⟨b664, 0, none⟩)⟩, ⟨20, [], .func (.func 53) #[] #[.pointer (some ⟨b664, 0, none⟩)]⟩, ⟨27, [], .pointer (some ⟨b1164, 0, none⟩)⟩] a1192 := hF1193.reg; clear hF1193
        refine rgH ?_; intro hQ1195Q hQ1195
        refine s1 hF1194 186 (.pointer (some ⟨b1164, 3, none⟩)) ?_; intro a1196 hF1197; clear hF1194
        refine l1 hF1197 hM1191 187 1 3 (.int .i64 (w64 ((w64 (q838.asked + ((flongestS false false q1117.Bytes).1))) + 3))) rfl rfl ?_; intro a1198 hF1199; clear hF1197
        refine sr hF1199 hM1191 5 [.int .i64 (w64 ((w64 (q838.asked + ((flongestS false false q1117.Bytes).1))) + 3))] (b := b664) (off := 0) (cs := [.int .i64 q838.asked]) (ty := 3) (u := .int .i64 (w64 ((w64 (q838.asked + ((flongestS false false q1117.Bytes).1))) + 3))) (nog rfl _) rfl rfl (by kernel_rfl) (by kernel_rfl) (by kernel_rfl) (by kernel_rfl) (by kernel_rfl) (by kernel_rfl) (by kernel_rfl) ?_; intro wd1200 hM1201; clear hM1191
        have hM1202 : Mem w.heap.size [] w Z [.row b1177 [.int .i64 q1066.task, .int .i64 q1066.from_, .int .i64 q838.asked, .int .i64 (w64 ((w64 (q838.asked + ((flongestS false false q1117.Bytes).1))) + 3))] 48, .row b1164 [.int .i64 q1066.task, .int .i64 q1066.from_, .int .i64 q838.asked, .int .i64 (w64 ((w64 (q838.asked + ((flongestS false false q1117.Bytes).1))) + 3))] 48, .own tyJob 110 ao1097 cap1098 (sdelS x11v x21 (w64 (x21 + 1))), .row b1074 [.int .i64 q1066.task, .int .i64 q1066.from_, .int .i64 q1066.asked] 110, .own tySlot 48 ao1184 cap1185 (x18v ++ [(⟨q1066.task, q1066.from_, q838.asked, w64 ((w64 (q838.asked + ((flongestS false false q1117.Bytes).1))) + 3)⟩ : Slot)]), .row b664 [.int .i64 (w64 ((w64 (q838.asked + ((flongestS false false q1117.Bytes).1))) + 3))] 3] Z1099 wd1200 := hM1201; clear hM1201
        refine nlH (hQ1195 _ _ ?_); clear hQ1195 hQ1195Q
        refine ibn ?_
        refine rd ?_
        have hM1203 := hM1202.perm ((pk 4 rfl).trans (((pk 4 rfl).trans (((pk 2 rfl).trans (lpr.cons _)).cons _)).cons _))
        exact ⟨⟨(sdelS x11v x21 (w64 (x21 + 1))), x18v ++ [(⟨q1066.task, q1066.from_, q838.asked, w64 ((w64 (q838.asked + ((flongestS false false q1117.Bytes).1))) + 3)⟩ : Slot)], w64 ((w64 (q838.asked + ((flongestS false false q1117.Bytes).1))) + 3), ao1097, cap1098, ao1184, cap1185, Z1099⟩, ⟨hp1183.1, hs820⟩, hp1183.2, (hF1199.reg).anyβ _ (by kernel_rfl), hM1203.keep (List.Sublist.cons_cons _ (List.Sublist.cons_cons _ (List.Sublist.cons_cons _ (List.Sublist.cons _ (List.Sublist.cons _ (List.Sublist.cons _ (List.Sublist.slnil)))))))⟩
      ·
       have hp1204 := hp749.2 hb822; clear hp749
       refine wp_skip ?_
       refine thn ?_
       have hF1205 : Fr 189 [] [⟨0, [], .slice ao1 u0.length cap2⟩, ⟨11, [], .slice aox11v x11v.length capx11v⟩, ⟨18, [], .slice aox18v x18v.length capx18v⟩, ⟨19, [], .pointer (some ⟨b664, 0, none⟩)⟩, ⟨20, [], .func (.func 53) #[] #[.pointer (some ⟨b664, 0, none⟩)]⟩] a814 := hFx.reg; clear hFx
       refine sqH ?_; intro hQ1206Q hQ1206
       refine s1 hF1205 21 (.int .i64 0) ?_; intro a1207 hF1208; clear hF1205
       refine nlH (hQ1206 _ _ ?_); clear hQ1206 hQ1206Q
       refine wp_seq ?_
       refine sqH ?_; intro hQ1209Q hQ1209
       refine s1 hF1208 137 (.slice aox11v x11v.length capx11v) ?_; intro a1210 hF1211; clear hF1208
       refine s1 hF1211 138 (.int .i64 (x11v.length : Int)) ?_; intro a1212 hF1213; clear hF1211
       refine s1 hF1213 139 (.int .i64 0) ?_; intro a1214 hF1215; clear hF1213
       refine nlH (hQ1209 _ _ ?_); clear hQ1209 hQ1209Q
       refine wp_block ?_
       have hF1216 : Fr 189 [] [⟨0, [], .slice ao1 u0.length cap2⟩, ⟨11, [], .slice aox11v x11v.length capx11v⟩, ⟨18, [], .slice aox18v x18v.length capx18v⟩, ⟨19, [], .pointer (some ⟨b664, 0, none⟩)⟩, ⟨20, [], .func (.func 53) #[] #[.pointer (some ⟨b664, 0, none⟩)]⟩, ⟨21, [], .int .i64 0⟩, ⟨137, [], .slice aox11v x11v.length capx11v⟩, ⟨138, [], .int .i64 (x11v.length : Int)⟩, ⟨139, [], .int .i64 0⟩] a1214 := hF1215.reg; clear hF1215
       have hF1218 : Fr 189 [] [⟨0, [], .slice ao1 u0.length cap2⟩, ⟨11, [], .slice aox11v x11v.length capx11v⟩, ⟨18, [], .slice aox18v x18v.length capx18v⟩, ⟨19, [], .pointer (some ⟨b664, 0, none⟩)⟩, ⟨20, [], .func (.func 53) #[] #[.pointer (some ⟨b664, 0, none⟩)]⟩, ⟨21, [], .int .i64 0⟩, ⟨137, [], .slice aox11v x11v.length capx11v⟩, ⟨138, [], .int .i64 (x11v.length : Int)⟩, ⟨139, [], .int .i64 0⟩] a1214 := hF1216.reg; clear hF1216
       obtain ⟨inv1217, mu1217, hI1221, hr1220⟩ := hp1204
       refine lp (ι := Int × Int) (fun (s : Int × Int) => [⟨0, [], .slice ao1 u0.length cap2⟩, ⟨11, [], .slice aox11v x11v.length capx11v⟩, ⟨18, [], .slice aox18v x18v.length capx18v⟩, ⟨19, [], .pointer (some ⟨b664, 0, none⟩)⟩, ⟨20, [], .func (.func 53) #[] #[.pointer (some ⟨b664, 0, none⟩)]⟩, ⟨21, [], .int .i64 s.1⟩, ⟨137, [], .slice aox11v x11v.length capx11v⟩, ⟨138, [], .int .i64 (x11v.length : Int)⟩, ⟨139, [], .int .i64 s.2⟩]) (fun (s : Int × Int) => [.own tySlot 48 aox18v capx18v x18v, .row b664 [.int .i64 yb664c0v] 3, .own tyJob 110 aox11v capx11v x11v]) (fun (s : Int × Int) => ZL703) (fun (s : Int × Int) => inv1217 s.1 s.2) (fun (s : Int × Int) => mu1217 s.1 s.2) ⟨0, 0⟩ hI1221 (by exact hF1218.reg) (by exact hMx) ?_
       rintro ⟨x21, x139⟩ hI1219 a1223 wd1224 hF1225 hM1226
       have hF1227 : Fr 189 [] [⟨0, [], .slice ao1 u0.length cap2⟩, ⟨11, [], .slice aox11v x11v.length capx11v⟩, ⟨18, [], .slice aox18v x18v.length capx18v⟩, ⟨19, [], .pointer (some ⟨b664, 0, none⟩)⟩, ⟨20, [], .func (.func 53) #[] #[.pointer (some ⟨b664, 0, none⟩)]⟩, ⟨21, [], .int .i64 x21⟩, ⟨137, [], .slice aox11v x11v.length capx11v⟩, ⟨138, [], .int .i64 (x11v.length : Int)⟩, ⟨139, [], .int .i64 x139⟩] a1223 := hF1225; clear hF1225 hF1218
       have hM1228 : Mem w.heap.size [] w Z [.own tySlot 48 aox18v capx18v x18v, .row b664 [.int .i64 yb664c0v] 3, .own tyJob 110 aox11v capx11v x11v] ZL703 wd1224 := hM1226; clear hM1226 hMx
       have hp1229 := hr1220 x21 x139 hI1219
       refine sqH ?_; intro hQ1230Q hQ1230
       refine s1 hF1227 140 (.bool (decide (x139 < (x11v.length : Int)))) ?_; intro a1231 hF1232; clear hF1227
       refine nlH (hQ1230 _ _ ?_); clear hQ1230 hQ1230Q
       refine wp_seq ?_
       refine cd hF1232 (t := decide (x139 < (x11v.length : Int))) (by kernel_rfl) (fun hb1233 => ?_) (fun hb1233 => ?_)
       ·
        have hp1234 := hp1229.1 hb1233; clear hp1229
        refine wp_skip ?_
        refine thn ?_
        have hF1235 : Fr 189 [] [⟨0, [], .slice ao1 u0.length cap2⟩, ⟨11, [], .slice aox11v x11v.length capx11v⟩, ⟨18, [], .slice aox18v x18v.length capx18v⟩, ⟨19, [], .pointer (some ⟨b664, 0, none⟩)⟩, ⟨20, [], .func (.func 53) #[] #[.pointer (some ⟨b664, 0, none⟩)]⟩, ⟨21, [], .int .i64 x21⟩, ⟨137, [], .slice aox11v x11v.length capx11v⟩, ⟨138, [], .int .i64 (x11v.length : Int)⟩, ⟨139, [], .int .i64 x139⟩] a1231 := hF1232.reg; clear hF1232
        have hF1237 : Fr 189 [] [⟨0, [], .slice ao1 u0.length cap2⟩, ⟨11, [], .slice aox11v x11v.length capx11v⟩, ⟨18, [], .slice aox18v x18v.length capx18v⟩, ⟨19, [], .pointer (some ⟨b664, 0, none⟩)⟩, ⟨20, [], .func (.func 53) #[] #[.pointer (some ⟨b664, 0, none⟩)]⟩, ⟨21, [], .int .i64 x21⟩, ⟨137, [], .slice aox11v x11v.length capx11v⟩, ⟨138, [], .int .i64 (x11v.length : Int)⟩, ⟨139, [], .int .i64 x139⟩] a1231 := hF1235.reg; clear hF1235
        obtain ⟨inv1236, hp1238, hp1239⟩ := hp1234
        refine wp_seq_k fun KJ1240 hKJ1241 => ?_
        have hJ1242 : ∀ (x21v : Int), inv1236 x21v → ∀ a1 w1, Fr 189 [] [⟨0, [], .slice ao1 u0.length cap2⟩, ⟨11, [], .slice aox11v x11v.length capx11v⟩, ⟨18, [], .slice aox18v x18v.length capx18v⟩, ⟨19, [], .pointer (some ⟨b664, 0, none⟩)⟩, ⟨20, [], .func (.func 53) #[] #[.pointer (some ⟨b664, 0, none⟩)]⟩, ⟨21, [], .int .i64 x21v⟩, ⟨137, [], .slice aox11v x11v.length capx11v⟩, ⟨138, [], .int .i64 (x11v.length : Int)⟩, ⟨139, [], .int .i64 x139⟩] a1 → Mem w.heap.size [] w Z [.own tySlot 48 aox18v capx18v x18v, .row b664 [.int .i64 yb664c0v] 3, .own tyJob 110 aox11v capx11v x11v] ZL703 w1 → KJ1240 a1 w1 := by
         rintro x21v hI1247 a1243 wd1244 hF1245 hM1246; clear hF1237 hM1228
         refine hKJ1241 _ _ ?_; clear hKJ1241
         have hp1248 := hp1239 x21v hI1247
         refine rgH ?_; intro hQ1249Q hQ1249
         refine s1 hF1245 152 (.int .i64 (w64 (x139 + 1))) ?_; intro a1250 hF1251; clear hF1245
         refine s1 hF1251 139 (.int .i64 (w64 (x139 + 1))) ?_; intro a1252 hF1253; clear hF1251
         refine nlH (hQ1249 _ _ ?_); clear hQ1249 hQ1249Q
         refine rd ?_
         exact ⟨⟨x21v, w64 (x139 + 1)⟩, hp1248.1, hp1248.2, (hF1253.reg).anyβ _ (by kernel_rfl), hM1246.keep (List.Sublist.cons_cons _ (List.Sublist.cons_cons _ (List.Sublist.cons_cons _ (List.Sublist.slnil))))⟩
        refine wp_block ?_
        refine sqH ?_; intro hQ1254Q hQ1254
        refine s1 hF1237 141 (.int .i64 x139) ?_; intro a1255 hF1256; clear hF1237
        have hc1257 := hp1238.1; have hp1258 := hp1238.2; clear hp1238
        refine ixo hF1256 hM1228 2 (T := tyJob) (xs := x11v) x139 hc1257 (k := .i64) (e := 110) (bytes := 24) (nog rfl _) rfl (by kernel_rfl) rfl (by kernel_rfl) (by kernel_rfl) rfl (by kernel_rfl) ?_; intro g1259 a1261 hg1260 hF1262; clear hF1256
        subst hg1260
        have hF1263 : Fr 189 [] [⟨0, [], .slice ao1 u0.length cap2⟩, ⟨11, [], .slice (some ⟨g1259, 0, none⟩) x11v.length capx11v⟩, ⟨18, [], .slice aox18v x18v.length capx18v⟩, ⟨19, [], .pointer (some ⟨b664, 0, none⟩)⟩, ⟨20, [], .func (.func 53) #[] #[.pointer (some ⟨b664, 0, none⟩)]⟩, ⟨21, [], .int .i64 x21⟩, ⟨137, [], .slice (some ⟨g1259, 0, none⟩) x11v.length capx11v⟩, ⟨138, [], .int .i64 (x11v.length : Int)⟩, ⟨139, [], .int .i64 x139⟩, ⟨141, [], .int .i64 x139⟩, ⟨142, [], .pointer (some ⟨g1259, x139.toNat * 3, none⟩)⟩] a1261 := hF1262.reg; clear hF1262
        have hM1264 : Mem w.heap.size [] w Z [.own tySlot 48 aox18v capx18v x18v, .row b664 [.int .i64 yb664c0v] 3, .own tyJob 110 (some ⟨g1259, 0, none⟩) capx11v x11v] ZL703 wd1224 := hM1228; clear hM1228
        obtain ⟨q1265, hq1266⟩ : ∃ q, x11v[x139.toNat]? = some q := ⟨_, List.getElem?_eq_getElem (by first | omega | (simp only [List.length_set] at *; omega))⟩; have hp1267 := hp1258 q1265 hq1266; clear hp1258
        obtain ⟨cs1268, hT1269, hcl1270⟩ := own_el hM1264 2 (T := tyJob) (xs := x11v) rfl x139.toNat hq1266
        obtain rfl : cs1268 = ([.int .i64 q1265.task, .int .i64 q1265.from_, .int .i64 q1265.asked] : List Value) := hT1269
        refine lc2 hF1263 143 3 [.int .i64 q1265.task, .int .i64 q1265.from_, .int .i64 q1265.asked] hcl1270 rfl ?_; intro a1271 hF1272; clear hF1263
        refine sn hF1272 hM1264 (fun b => .pointer (some ⟨b, 0, none⟩)) [.int .i64 0, .int .i64 0, .int .i64 0] 110 (nog rfl _) rfl (by kernel_rfl) (by kernel_rfl) ?_; intro b1273 a1274 wd1276 hF1275 hM1277; clear hF1272 hM1264
        refine s1 hF1275 22 (.int .i64 x139) ?_; intro a1278 hF1279; clear hF1275
        refine sr hF1279 hM1277 0 [.int .i64 q1265.task, .int .i64 q1265.from_, .int .i64 q1265.asked] (b := b1273) (off := 0) (cs := [.int .i64 0, .int .i64 0, .int .i64 0]) (ty := 110) (u := .agg #[.int .i64 q1265.task, .int .i64 q1265.from_, .int .i64 q1265.asked]) (nog rfl _) rfl rfl (by kernel_rfl) (by kernel_rfl) (by kernel_rfl) (by kernel_rfl) (by kernel_rfl) (by kernel_rfl) (by kernel_rfl) ?_; intro wd1280 hM1281; clear hM1277
        have hM1282 : Mem w.heap.size [] w Z [.row b1273 [.int .i64 q1265.task, .int .i64 q1265.from_, .int .i64 q1265.asked] 110, .own tySlot 48 aox18v capx18v x18v, .row b664 [.int .i64 yb664c0v] 3, .own tyJob 110 (some ⟨g1259, 0, none⟩) capx11v x11v] ZL703 wd1280 := hM1281; clear hM1281
        refine nlH (hQ1254 _ _ ?_); clear hQ1254 hQ1254Q
        have hF1283 : Fr 189 [] [⟨0, [], .slice ao1 u0.length cap2⟩, ⟨11, [], .slice (some ⟨g1259, 0, none⟩) x11v.length capx11v⟩, ⟨18, [], .slice aox18v x18v.length capx18v⟩, ⟨19, [], .pointer (some ⟨b664, 0, none⟩)⟩, ⟨20, [], .func (.func 53) #[] #[.pointer (some ⟨b664, 0, none⟩)]⟩, ⟨21, [], .int .i64 x21⟩, ⟨22, [], .int .i64 x139⟩, ⟨23, [], .pointer (some ⟨b1273, 0, none⟩)⟩, ⟨137, [], .slice (some ⟨g1259, 0, none⟩) x11v.length capx11v⟩, ⟨138, [], .int .i64 (x11v.length : Int)⟩, ⟨139, [], .int .i64 x139⟩] a1278 := hF1279.reg; clear hF1279
        have hcd4_0 := hp1267.1; have hp1308 := hp1267.2; clear hp1267
        obtain ⟨qd5_0, hqd5_0⟩ : ∃ q, x11v[x21.toNat]? = some q := ⟨_, List.getElem?_eq_getElem (by omega)⟩; have hp1309 := hp1308 qd5_0 hqd5_0; clear hp1308
        refine wp_seq (any_invE mixed [[], [], [], [], [2, 3], [4], [0, 1, 5]] 7 (fun S a w1 => ∃ (g1292 : Nat) (ud144 : Value) (ud145 : Value) (ud146 : Value) (ud147 : Value) (ud148 : Value) (ud149 : Value) (ud150 : Value) (rh0 : Res) (rh1 : Res) (rh2 : Res) (rh3 : Res), Fz.le ZL703 ZL703 ∧ Fr 189 [] [⟨0, [], .slice ao1 u0.length cap2⟩, ⟨11, [], .slice (some ⟨g1259, 0, none⟩) x11v.length capx11v⟩, ⟨18, [], .slice aox18v x18v.length capx18v⟩, ⟨19, [], .pointer (some ⟨b664, 0, none⟩)⟩, ⟨20, [], .func (.func 53) #[] #[.pointer (some ⟨b664, 0, none⟩)]⟩, ⟨21, [], .int .i64 x21⟩, ⟨22, [], .int .i64 x139⟩, ⟨23, [], .pointer (some ⟨b1273, 0, none⟩)⟩, ⟨137, [], .slice (some ⟨g1259, 0, none⟩) x11v.length capx11v⟩, ⟨138, [], .int .i64 (x11v.length : Int)⟩, ⟨139, [], .int .i64 x139⟩, ⟨144, [], ud144⟩, ⟨145, [], ud145⟩, ⟨146, [], ud146⟩, ⟨147, [], ud147⟩, ⟨148, [], ud148⟩, ⟨149, [], ud149⟩, ⟨150, [], ud150⟩] a ∧ Mem w.heap.size [] w Z [rh0, rh1, rh2, rh3] ZL703 w1 ∧ (S 0 = true → ud144 = .func (.func 53) #[] #[.pointer (some ⟨b664, 0, none⟩)]) ∧ (S 1 = true → ud145 = .agg #[.int .i64 q1265.task, .int .i64 q1265.from_, .int .i64 q1265.asked]) ∧ (S 2 = true → ud146 = .slice (some ⟨g1259, 0, none⟩) x11v.length capx11v) ∧ (S 3 = true → ud147 = .int .i64 x21) ∧ (S 4 = true → ud148 = .pointer (some ⟨g1259, x21.toNat * 3, none⟩)) ∧ (S 5 = true → ud149 = .agg #[.int .i64 qd5_0.task, .int .i64 qd5_0.from_, .int .i64 qd5_0.asked]) ∧ (S 6 = true → ud150 = .bool (ahead q1265 qd5_0 yb664c0v)) ∧ (rh0 = .row b1273 [.int .i64 q1265.task, .int .i64 q1265.from_, .int .i64 q1265.asked] 110) ∧ (rh1 = .own tySlot 48 aox18v capx18v x18v) ∧ (rh2 = .row b664 [.int .i64 yb664c0v] 3) ∧ (rh3 = .own tyJob 110 (some ⟨g1259, 0, none⟩) capx11v x11v)) ?h0 ?hs ?hE)
        case h0 =>
         have hF1311 := hF1283.any 144
         have hF1312 := hF1311.any 145
         have hF1313 := hF1312.any 146
         have hF1314 := hF1313.any 147
         have hF1315 := hF1314.any 148
         have hF1316 := hF1315.any 149
         have hF1317 := hF1316.any 150
         have hM1318 := (hM1282.perm lpr).drew
         exact ⟨0, a1278.tmps.getD 144 undef, a1278.tmps.getD 145 undef, a1278.tmps.getD 146 undef, a1278.tmps.getD 147 undef, a1278.tmps.getD 148 undef, a1278.tmps.getD 149 undef, a1278.tmps.getD 150 undef, .row b1273 [.int .i64 q1265.task, .int .i64 q1265.from_, .int .i64 q1265.asked] 110, .own tySlot 48 aox18v capx18v x18v, .row b664 [.int .i64 yb664c0v] 3, .own tyJob 110 (some ⟨g1259, 0, none⟩) capx11v x11v, Fz.le.refl _, hF1317.reg, hM1318, ff, ff, ff, ff, ff, ff, ff, rfl, rfl, rfl, rfl⟩
        case hs =>
         intro S hcl i o hil hi hSi hpre a w1 hI; refine Go.Sy.hid ?_; intro G hG; obtain ⟨g1292, ud144, ud145, ud146, ud147, ud148, ud149, ud150, rh0, rh1, rh2, rh3, hle1310, hFx, hMx, cu144, cu145, cu146, cu147, cu148, cu149, cu150, cr0_0, cr1_0, cr2_0, hI⟩ := hI; have cr3_0 := hI; clear hI
         have hcase : i = 0 ∨ i = 1 ∨ i = 2 ∨ i = 3 ∨ i = 4 ∨ i = 5 ∨ i = 6 := by clear hi; omega
         rcases hcase with rfl | rfl | rfl | rfl | rfl | rfl | rfl
         ·
          obtain rfl := oj hi
          have hx0 := hSi
          have hx6 := ngF hcl 6 0 hx0
          obtain rfl := cr0_0
          obtain rfl := cr1_0
          obtain rfl := cr2_0
          obtain rfl := cr3_0
          refine hG (any_step ?_); clear hG G; intro A J hJ
          have hle0 := Fz.le.trans hle0 hle1310
          have hs1319 := hs816.mono hle1310
          have hs1320 := hs817.mono hle1310
          have hs1321 := hs818.mono hle1310
          have hs1322 := hs819.mono hle1310
          have hs1323 := hs820.mono hle1310
          have hs1324 := hs821.mono hle1310
          refine s1 hFx 144 (.func (.func 53) #[] #[.pointer (some ⟨b664, 0, none⟩)]) ?_; intro a1325 hF1326; clear hFx
          refine nl (qnI (hJ _ _ ?_)); clear hJ J
          exact ⟨g1292, .func (.func 53) #[] #[.pointer (some ⟨b664, 0, none⟩)], ud145, ud146, ud147, ud148, ud149, ud150, .row b1273 [.int .i64 q1265.task, .int .i64 q1265.from_, .int .i64 q1265.asked] 110, .own tySlot 48 aox18v capx18v x18v, .row b664 [.int .i64 yb664c0v] 3, .own tyJob 110 (some ⟨g1259, 0, none⟩) capx11v x11v, hle1310, hF1326.reg, hMx.perm lpr, kf, cu145, cu146, cu147, cu148, cu149, (nt hx6), rfl, rfl, rfl, rfl⟩
         ·
          obtain rfl := oj hi
          have hx1 := hSi
          have hx6 := ngF hcl 6 1 hx1
          obtain rfl := cr0_0
          obtain rfl := cr1_0
          obtain rfl := cr2_0
          obtain rfl := cr3_0
          refine hG (any_step ?_); clear hG G; intro A J hJ
          have hle0 := Fz.le.trans hle0 hle1310
          have hs1328 := hs816.mono hle1310
          have hs1329 := hs817.mono hle1310
          have hs1330 := hs818.mono hle1310
          have hs1331 := hs819.mono hle1310
          have hs1332 := hs820.mono hle1310
          have hs1333 := hs821.mono hle1310
          refine l2 hFx hMx 145 0 0 3 [.int .i64 q1265.task, .int .i64 q1265.from_, .int .i64 q1265.asked] rfl rfl ?_; intro a1334 hF1335; clear hFx
          refine nl (qnI (hJ _ _ ?_)); clear hJ J
          exact ⟨g1292, ud144, .agg #[.int .i64 q1265.task, .int .i64 q1265.from_, .int .i64 q1265.asked], ud146, ud147, ud148, ud149, ud150, .row b1273 [.int .i64 q1265.task, .int .i64 q1265.from_, .int .i64 q1265.asked] 110, .own tySlot 48 aox18v capx18v x18v, .row b664 [.int .i64 yb664c0v] 3, .own tyJob 110 (some ⟨g1259, 0, none⟩) capx11v x11v, hle1310, hF1335.reg, hMx.perm lpr, cu144, kf, cu146, cu147, cu148, cu149, (nt hx6), rfl, rfl, rfl, rfl⟩
         ·
          obtain rfl := oj hi
          have hx2 := hSi
          have hx4 := ngF hcl 4 2 hx2
          have hx5 := ngF hcl 5 4 hx4
          have hx6 := ngF hcl 6 5 hx5
          obtain rfl := cr0_0
          obtain rfl := cr1_0
          obtain rfl := cr2_0
          obtain rfl := cr3_0
          refine hG (any_step ?_); clear hG G; intro A J hJ
          have hle0 := Fz.le.trans hle0 hle1310
          have hs1337 := hs816.mono hle1310
          have hs1338 := hs817.mono hle1310
          have hs1339 := hs818.mono hle1310
          have hs1340 := hs819.mono hle1310
          have hs1341 := hs820.mono hle1310
          have hs1342 := hs821.mono hle1310
          refine s1 hFx 146 (.slice (some ⟨g1259, 0, none⟩) x11v.length capx11v) ?_; intro a1343 hF1344; clear hFx
          refine nl (qnI (hJ _ _ ?_)); clear hJ J
          exact ⟨g1292, ud144, ud145, .slice (some ⟨g1259, 0, none⟩) x11v.length capx11v, ud147, ud148, ud149, ud150, .row b1273 [.int .i64 q1265.task, .int .i64 q1265.from_, .int .i64 q1265.asked] 110, .own tySlot 48 aox18v capx18v x18v, .row b664 [.int .i64 yb664c0v] 3, .own tyJob 110 (some ⟨g1259, 0, none⟩) capx11v x11v, hle1310, hF1344.reg, hMx.perm lpr, cu144, cu145, kf, cu147, (nt hx4), (nt hx5), (nt hx6), rfl, rfl, rfl, rfl⟩
         ·
          obtain rfl := oj hi
          have hx3 := hSi
          have hx4 := ngF hcl 4 3 hx3
          have hx5 := ngF hcl 5 4 hx4
          have hx6 := ngF hcl 6 5 hx5
          obtain rfl := cr0_0
          obtain rfl := cr1_0
          obtain rfl := cr2_0
          obtain rfl := cr3_0
          refine hG (any_step ?_); clear hG G; intro A J hJ
          have hle0 := Fz.le.trans hle0 hle1310
          have hs1346 := hs816.mono hle1310
          have hs1347 := hs817.mono hle1310
          have hs1348 := hs818.mono hle1310
          have hs1349 := hs819.mono hle1310
          have hs1350 := hs820.mono hle1310
          have hs1351 := hs821.mono hle1310
          refine s1 hFx 147 (.int .i64 x21) ?_; intro a1352 hF1353; clear hFx
          refine nl (qnI (hJ _ _ ?_)); clear hJ J
          exact ⟨g1292, ud144, ud145, ud146, .int .i64 x21, ud148, ud149, ud150, .row b1273 [.int .i64 q1265.task, .int .i64 q1265.from_, .int .i64 q1265.asked] 110, .own tySlot 48 aox18v capx18v x18v, .row b664 [.int .i64 yb664c0v] 3, .own tyJob 110 (some ⟨g1259, 0, none⟩) capx11v x11v, hle1310, hF1353.reg, hMx.perm lpr, cu144, cu145, cu146, kf, (nt hx4), (nt hx5), (nt hx6), rfl, rfl, rfl, rfl⟩
         ·
          obtain rfl := oj hi
          have hx3 := hpre 3 (by kernel_rfl)
          have hx2 := hpre 2 (by kernel_rfl)
          have hx4 := hSi
          have hx5 := ngF hcl 5 4 hx4
          have hx6 := ngF hcl 6 5 hx5
          obtain rfl := cu146 hx2
          obtain rfl := cu147 hx3
          obtain rfl := cr0_0
          obtain rfl := cr1_0
          obtain rfl := cr2_0
          obtain rfl := cr3_0
          refine hG (any_step ?_); clear hG G; intro A J hJ
          have hle0 := Fz.le.trans hle0 hle1310
          have hs1355 := hs816.mono hle1310
          have hs1356 := hs817.mono hle1310
          have hs1357 := hs818.mono hle1310
          have hs1358 := hs819.mono hle1310
          have hs1359 := hs820.mono hle1310
          have hs1360 := hs821.mono hle1310
          refine ixo hFx hMx 3 (T := tyJob) (xs := x11v) x21 (by simpa only [List.length_set] using hcd4_0) (k := .i64) (e := 110) (bytes := 24) (nog rfl _) rfl (by kernel_rfl) rfl (by kernel_rfl) (by kernel_rfl) rfl (by kernel_rfl) ?_; intro g1361 a1363 hg1362 hF1364; clear hFx
          obtain rfl : g1259 = g1361 := by simpa using hg1362
          have hF1365 : Fr 189 [] [⟨0, [], .slice ao1 u0.length cap2⟩, ⟨11, [], .slice (some ⟨g1259, 0, none⟩) x11v.length capx11v⟩, ⟨18, [], .slice aox18v x18v.length capx18v⟩, ⟨19, [], .pointer (some ⟨b664, 0, none⟩)⟩, ⟨20, [], .func (.func 53) #[] #[.pointer (some ⟨b664, 0, none⟩)]⟩, ⟨21, [], .int .i64 x21⟩, ⟨22, [], .int .i64 x139⟩, ⟨23, [], .pointer (some ⟨b1273, 0, none⟩)⟩, ⟨137, [], .slice (some ⟨g1259, 0, none⟩) x11v.length capx11v⟩, ⟨138, [], .int .i64 (x11v.length : Int)⟩, ⟨139, [], .int .i64 x139⟩, ⟨144, [], ud144⟩, ⟨145, [], ud145⟩, ⟨146, [], .slice (some ⟨g1259, 0, none⟩) x11v.length capx11v⟩, ⟨147, [], .int .i64 x21⟩, ⟨148, [], .pointer (some ⟨g1259, x21.toNat * 3, none⟩)⟩, ⟨149, [], ud149⟩, ⟨150, [], ud150⟩] a1363 := hF1364.reg; clear hF1364
          have hM1366 : Mem w.heap.size [] w Z [.row b1273 [.int .i64 q1265.task, .int .i64 q1265.from_, .int .i64 q1265.asked] 110, .own tySlot 48 aox18v capx18v x18v, .row b664 [.int .i64 yb664c0v] 3, .own tyJob 110 (some ⟨g1259, 0, none⟩) capx11v x11v] ZL703 w1 := hMx; clear hMx
          refine nl (qnI (hJ _ _ ?_)); clear hJ J
          exact ⟨g1259, ud144, ud145, .slice (some ⟨g1259, 0, none⟩) x11v.length capx11v, .int .i64 x21, .pointer (some ⟨g1259, x21.toNat * 3, none⟩), ud149, ud150, .row b1273 [.int .i64 q1265.task, .int .i64 q1265.from_, .int .i64 q1265.asked] 110, .own tySlot 48 aox18v capx18v x18v, .row b664 [.int .i64 yb664c0v] 3, .own tyJob 110 (some ⟨g1259, 0, none⟩) capx11v x11v, hle1310, hF1365.reg, hM1366.perm lpr, cu144, cu145, kf, kf, kf, (nt hx5), (nt hx6), rfl, rfl, rfl, rfl⟩
         ·
          obtain rfl := oj hi
          have hx4 := hpre 4 (by kernel_rfl)
          have hx3 := hcl 4 3 (by kernel_rfl) hx4
          have hx2 := hcl 4 2 (by kernel_rfl) hx4
          have hx5 := hSi
          have hx6 := ngF hcl 6 5 hx5
          obtain rfl := cu146 hx2
          obtain rfl := cu147 hx3
          obtain rfl := cu148 hx4
          obtain rfl := cr0_0
          obtain rfl := cr1_0
          obtain rfl := cr2_0
          obtain rfl := cr3_0
          refine hG (any_step ?_); clear hG G; intro A J hJ
          have hle0 := Fz.le.trans hle0 hle1310
          have hs1368 := hs816.mono hle1310
          have hs1369 := hs817.mono hle1310
          have hs1370 := hs818.mono hle1310
          have hs1371 := hs819.mono hle1310
          have hs1372 := hs820.mono hle1310
          have hs1373 := hs821.mono hle1310
          obtain ⟨cs1374, hT1375, hcl1376⟩ := own_el hMx 3 (T := tyJob) (xs := x11v) rfl x21.toNat hqd5_0
          obtain rfl : cs1374 = ([.int .i64 qd5_0.task, .int .i64 qd5_0.from_, .int .i64 qd5_0.asked] : List Value) := hT1375
          refine lc2 hFx 149 3 [.int .i64 qd5_0.task, .int .i64 qd5_0.from_, .int .i64 qd5_0.asked] hcl1376 rfl ?_; intro a1377 hF1378; clear hFx
          refine nl (qnI (hJ _ _ ?_)); clear hJ J
          exact ⟨g1292, ud144, ud145, .slice (some ⟨g1259, 0, none⟩) x11v.length capx11v, .int .i64 x21, .pointer (some ⟨g1259, x21.toNat * 3, none⟩), .agg #[.int .i64 qd5_0.task, .int .i64 qd5_0.from_, .int .i64 qd5_0.asked], ud150, .row b1273 [.int .i64 q1265.task, .int .i64 q1265.from_, .int .i64 q1265.asked] 110, .own tySlot 48 aox18v capx18v x18v, .row b664 [.int .i64 yb664c0v] 3, .own tyJob 110 (some ⟨g1259, 0, none⟩) capx11v x11v, hle1310, hF1378.reg, hMx.perm lpr, cu144, cu145, kf, kf, kf, kf, (nt hx6), rfl, rfl, rfl, rfl⟩
         ·
          obtain rfl := oj hi
          have hx5 := hpre 5 (by kernel_rfl)
          have hx1 := hpre 1 (by kernel_rfl)
          have hx0 := hpre 0 (by kernel_rfl)
          have hx4 := hcl 5 4 (by kernel_rfl) hx5
          have hx3 := hcl 4 3 (by kernel_rfl) hx4
          have hx2 := hcl 4 2 (by kernel_rfl) hx4
          have hx6 := hSi
          obtain rfl := cu144 hx0
          obtain rfl := cu145 hx1
          obtain rfl := cu146 hx2
          obtain rfl := cu147 hx3
          obtain rfl := cu148 hx4
          obtain rfl := cu149 hx5
          obtain rfl := cr0_0
          obtain rfl := cr1_0
          obtain rfl := cr2_0
          obtain rfl := cr3_0
          refine hG (any_step ?_); clear hG G; intro A J hJ
          have hle0 := Fz.le.trans hle0 hle1310
          have hs1380 := hs816.mono hle1310
          have hs1381 := hs817.mono hle1310
          have hs1382 := hs818.mono hle1310
          have hs1383 := hs819.mono hle1310
          have hs1384 := hs820.mono hle1310
          have hs1385 := hs821.mono hle1310
          refine fcl hFx hMx (.bool (ahead q1265 qd5_0 yb664c0v)) 53 #[.agg #[.int .i64 q1265.task, .int .i64 q1265.from_, .int .i64 q1265.asked], .agg #[.int .i64 qd5_0.task, .int .i64 qd5_0.from_, .int .i64 qd5_0.asked], .pointer (some ⟨b664, 0, none⟩)] (nog rfl _) rfl (by kernel_rfl) (fun _ => by kernel_rfl) ((by obtain ⟨Z9, hle9, hon9, hP1386⟩ := hMx.lendRow 2 rfl; exact ahead_fun q1265 qd5_0 yb664c0v b664 0 _ _ hP1386 hon9)) ?_; intro a1387 wd1389 hF1388 hM1390; clear hFx hMx
          refine nl (qnI (hJ _ _ ?_)); clear hJ J
          exact ⟨g1292, .func (.func 53) #[] #[.pointer (some ⟨b664, 0, none⟩)], .agg #[.int .i64 q1265.task, .int .i64 q1265.from_, .int .i64 q1265.asked], .slice (some ⟨g1259, 0, none⟩) x11v.length capx11v, .int .i64 x21, .pointer (some ⟨g1259, x21.toNat * 3, none⟩), .agg #[.int .i64 qd5_0.task, .int .i64 qd5_0.from_, .int .i64 qd5_0.asked], .bool (ahead q1265 qd5_0 yb664c0v), .row b1273 [.int .i64 q1265.task, .int .i64 q1265.from_, .int .i64 q1265.asked] 110, .own tySlot 48 aox18v capx18v x18v, .row b664 [.int .i64 yb664c0v] 3, .own tyJob 110 (some ⟨g1259, 0, none⟩) capx11v x11v, hle1310, hF1388.reg, hM1390.perm lpr, kf, kf, kf, kf, kf, kf, kf, rfl, rfl, rfl, rfl⟩
        case hE =>
         intro S hS a1392 wd1393 hI; refine Go.Sy.hid ?_; intro G hG; obtain ⟨g1292, ud144, ud145, ud146, ud147, ud148, ud149, ud150, rh0, rh1, rh2, rh3, hle1310, hFx, hMx, cu144, cu145, cu146, cu147, cu148, cu149, cu150, cr0_0, cr1_0, cr2_0, hI⟩ := hI; have cr3_0 := hI; clear hI; refine hG ?_; clear hG G
         obtain rfl := cu144 (hS 0 (by decide))
         obtain rfl := cu145 (hS 1 (by decide))
         obtain rfl := cu146 (hS 2 (by decide))
         obtain rfl := cu147 (hS 3 (by decide))
         obtain rfl := cu148 (hS 4 (by decide))
         obtain rfl := cu149 (hS 5 (by decide))
         obtain rfl := cu150 (hS 6 (by decide))
         obtain rfl := cr0_0
         obtain rfl := cr1_0
         obtain rfl := cr2_0
         obtain rfl := cr3_0
         have hle0 := Fz.le.trans hle0 hle1310
         have hs1394 := hs816.mono hle1310
         have hs1395 := hs817.mono hle1310
         have hs1396 := hs818.mono hle1310
         have hs1397 := hs819.mono hle1310
         have hs1398 := hs820.mono hle1310
         have hs1399 := hs821.mono hle1310
         refine thn ?_
         refine cd hFx (t := (ahead q1265 qd5_0 yb664c0v)) (by kernel_rfl) (fun hb1400 => ?_) (fun hb1400 => ?_)
         ·
          have hp1401 := hp1309.1 hb1400; clear hp1309
          have hF1402 : Fr 189 [] [⟨0, [], .slice ao1 u0.length cap2⟩, ⟨11, [], .slice (some ⟨g1259, 0, none⟩) x11v.length capx11v⟩, ⟨18, [], .slice aox18v x18v.length capx18v⟩, ⟨19, [], .pointer (some ⟨b664, 0, none⟩)⟩, ⟨20, [], .func (.func 53) #[] #[.pointer (some ⟨b664, 0, none⟩)]⟩, ⟨22, [], .int .i64 x139⟩, ⟨137, [], .slice (some ⟨g1259, 0, none⟩) x11v.length capx11v⟩, ⟨138, [], .int .i64 (x11v.length : Int)⟩, ⟨139, [], .int .i64 x139⟩] a1392 := hFx.reg; clear hFx
          refine rgH ?_; intro hQ1403Q hQ1403
          refine s1 hF1402 151 (.int .i64 x139) ?_; intro a1404 hF1405; clear hF1402
          refine s1 hF1405 21 (.int .i64 x139) ?_; intro a1406 hF1407; clear hF1405
          refine nlH (hQ1403 _ _ ?_); clear hQ1403 hQ1403Q
          refine ibn ?_
          refine rd ?_
          exact hJ1242 x139 hp1401 _ _ ((hF1407.reg).anyβ _ (by kernel_rfl)) (hMx.keep (List.Sublist.cons _ (List.Sublist.cons_cons _ (List.Sublist.cons_cons _ (List.Sublist.cons_cons _ (List.Sublist.slnil))))))
         ·
          have hp1408 := hp1309.2 hb1400; clear hp1309
          refine wp_skip ?_
          refine ibn ?_
          refine rd ?_
          exact hJ1242 x21 hp1408 _ _ ((hFx.reg).anyβ _ (by kernel_rfl)) (hMx.keep (List.Sublist.cons _ (List.Sublist.cons_cons _ (List.Sublist.cons_cons _ (List.Sublist.cons_cons _ (List.Sublist.slnil))))))
       ·
        have hp1409 := hp1229.2 hb1233; clear hp1229
        refine wp_exit ?_
        refine thx ?_
        refine thx ?_
        refine ibx ?_
        refine thn ?_
        refine sqH ?_; intro hQ1410Q hQ1410
        refine s1 hF1232 153 (.slice aox11v x11v.length capx11v) ?_; intro a1411 hF1412; clear hF1232
        refine s1 hF1412 154 (.int .i64 x21) ?_; intro a1413 hF1414; clear hF1412
        have hc1415 := hp1409.1; have hp1416 := hp1409.2; clear hp1409
        refine ixo hF1414 hM1228 2 (T := tyJob) (xs := x11v) x21 hc1415 (k := .i64) (e := 110) (bytes := 24) (nog rfl _) rfl (by kernel_rfl) rfl (by kernel_rfl) (by kernel_rfl) rfl (by kernel_rfl) ?_; intro g1417 a1419 hg1418 hF1420; clear hF1414
        subst hg1418
        have hF1421 : Fr 189 [] [⟨0, [], .slice ao1 u0.length cap2⟩, ⟨11, [], .slice (some ⟨g1417, 0, none⟩) x11v.length capx11v⟩, ⟨18, [], .slice aox18v x18v.length capx18v⟩, ⟨19, [], .pointer (some ⟨b664, 0, none⟩)⟩, ⟨20, [], .func (.func 53) #[] #[.pointer (some ⟨b664, 0, none⟩)]⟩, ⟨21, [], .int .i64 x21⟩, ⟨137, [], .slice (some ⟨g1417, 0, none⟩) x11v.length capx11v⟩, ⟨138, [], .int .i64 (x11v.length : Int)⟩, ⟨139, [], .int .i64 x139⟩, ⟨140, [], .bool (decide (x139 < (x11v.length : Int)))⟩, ⟨153, [], .slice (some ⟨g1417, 0, none⟩) x11v.length capx11v⟩, ⟨154, [], .int .i64 x21⟩, ⟨155, [], .pointer (some ⟨g1417, x21.toNat * 3, none⟩)⟩] a1419 := hF1420.reg; clear hF1420
        have hM1422 : Mem w.heap.size [] w Z [.own tySlot 48 aox18v capx18v x18v, .row b664 [.int .i64 yb664c0v] 3, .own tyJob 110 (some ⟨g1417, 0, none⟩) capx11v x11v] ZL703 wd1224 := hM1228; clear hM1228
        obtain ⟨q1423, hq1424⟩ : ∃ q, x11v[x21.toNat]? = some q := ⟨_, List.getElem?_eq_getElem (by first | omega | (simp only [List.length_set] at *; omega))⟩; have hp1425 := hp1416 q1423 hq1424; clear hp1416
        obtain ⟨cs1426, hT1427, hcl1428⟩ := own_el hM1422 2 (T := tyJob) (xs := x11v) rfl x21.toNat hq1424
        obtain rfl : cs1426 = ([.int .i64 q1423.task, .int .i64 q1423.from_, .int .i64 q1423.asked] : List Value) := hT1427
        refine lc2 hF1421 156 3 [.int .i64 q1423.task, .int .i64 q1423.from_, .int .i64 q1423.asked] hcl1428 rfl ?_; intro a1429 hF1430; clear hF1421
        refine sn hF1430 hM1422 (fun b => .pointer (some ⟨b, 0, none⟩)) [.int .i64 0, .int .i64 0, .int .i64 0] 110 (nog rfl _) rfl (by kernel_rfl) (by kernel_rfl) ?_; intro b1431 a1432 wd1434 hF1433 hM1435; clear hF1430 hM1422
        refine sr hF1433 hM1435 0 [.int .i64 q1423.task, .int .i64 q1423.from_, .int .i64 q1423.asked] (b := b1431) (off := 0) (cs := [.int .i64 0, .int .i64 0, .int .i64 0]) (ty := 110) (u := .agg #[.int .i64 q1423.task, .int .i64 q1423.from_, .int .i64 q1423.asked]) (nog rfl _) rfl rfl (by kernel_rfl) (by kernel_rfl) (by kernel_rfl) (by kernel_rfl) (by kernel_rfl) (by kernel_rfl) (by kernel_rfl) ?_; intro wd1436 hM1437; clear hM1435
        have hM1438 : Mem w.heap.size [] w Z [.row b1431 [.int .i64 q1423.task, .int .i64 q1423.from_, .int .i64 q1423.asked] 110, .own tySlot 48 aox18v capx18v x18v, .row b664 [.int .i64 yb664c0v] 3, .own tyJob 110 (some ⟨g1417, 0, none⟩) capx11v x11v] ZL703 wd1436 := hM1437; clear hM1437
        refine nlH (hQ1410 _ _ ?_); clear hQ1410 hQ1410Q
        refine sqH ?_; intro hQ1439Q hQ1439
        refine s1 hF1433 157 (.slice (some ⟨g1417, 0, none⟩) x11v.length capx11v) ?_; intro a1440 hF1441; clear hF1433
        refine s1 hF1441 158 (.int .i64 x21) ?_; intro a1442 hF1443; clear hF1441
        refine s1 hF1443 159 (.int .i64 x21) ?_; intro a1444 hF1445; clear hF1443
        refine s1 hF1445 160 (.int .i64 (w64 (x21 + 1))) ?_; intro a1446 hF1447; clear hF1445
        have hc1448 := hp1425.1; have hp1449 := hp1425.2; clear hp1425
        refine cl hF1447 54 #[.slice (some ⟨g1417, 0, none⟩) x11v.length capx11v, .int .i64 x21, .int .i64 (w64 (x21 + 1))] (nog rfl _) rfl (by kernel_rfl) (by kernel_rfl) ?_
        refine (sdel_fun x11v x21 (w64 (x21 + 1)) hc1448 (some ⟨g1417, 0, none⟩) capx11v _ _ _ _ _ _ (hM1438.perm (pk 3 rfl)) hM1438.fz).mono ?_; rintro _ wd1450 ⟨ao1454, cap1455, Z1456, rfl, hle1457, hm⟩; refine ⟨_, rfl, ?_⟩; intro a1451 hF1452; have hM1453 := hm; clear hm hM1438 hF1447
        replace hs816 := hs816.mono hle1457
        replace hs817 := hs817.mono hle1457
        replace hs818 := hs818.mono hle1457
        replace hs819 := hs819.mono hle1457
        replace hs820 := hs820.mono hle1457
        replace hs821 := hs821.mono hle1457
        replace hle0 := Fz.le.trans hle0 hle1457
        have hM1458 : Mem w.heap.size [] w Z [.own tyJob 110 ao1454 cap1455 (sdelS x11v x21 (w64 (x21 + 1))), .row b1431 [.int .i64 q1423.task, .int .i64 q1423.from_, .int .i64 q1423.asked] 110, .own tySlot 48 aox18v capx18v x18v, .row b664 [.int .i64 yb664c0v] 3] Z1456 wd1450 := hM1453; clear hM1453
        have hp1459 := hp1449 (hM1458.ownSmall 0 rfl); clear hp1449
        refine s1 hF1452 11 (.slice ao1454 (sdelS x11v x21 (w64 (x21 + 1))).length cap1455) ?_; intro a1460 hF1461; clear hF1452
        refine nlH (hQ1439 _ _ ?_); clear hQ1439 hQ1439Q
        refine sqH ?_; intro hQ1462Q hQ1462
        refine s1 hF1461 163 (.slice ao1 u0.length cap2) ?_; intro a1463 hF1464; clear hF1461
        refine s1 hF1464 164 (.pointer (some ⟨b1431, 0, none⟩)) ?_; intro a1465 hF1466; clear hF1464
        refine l1 hF1466 hM1458 165 1 0 (.int .i64 q1423.task) rfl rfl ?_; intro a1467 hF1468; clear hF1466
        have hc1469 := hp1459.1; have hp1470 := hp1459.2; clear hp1459
        refine ix hF1468 (T := tyTask) (xs := u0) hs816 q1423.task hc1469 (k := .i64) (e := 34) (bytes := 40) (nog rfl _) rfl (by kernel_rfl) rfl (by kernel_rfl) (by kernel_rfl) (by kernel_rfl) ?_; intro b1471 off1472 cs1473 q1474 a1478 hq1475 hP1476 hT1477 hF1479; clear hF1468
        have hp1480 := hp1470 q1474 hq1475; clear hp1470
        obtain rfl : cs1473 = ([.int .i64 q1474.ID, .int .i64 q1474.Bytes, .int .i64 q1474.Every, .int .i64 q1474.Late, .int .i64 q1474.Jitter] : List Value) := hT1477
        refine s1 hF1479 167 (.pointer (some ⟨b1471, off1472 + 1, none⟩)) ?_; intro a1481 hF1482; clear hF1479
        refine z1 hF1482 hM1458 168 hP1476 1 (.int .i64 q1474.Bytes) rfl ?_; intro a1483 hF1484; clear hF1482
        refine fcl hF1484 hM1458 (.tuple #[.int .i64 ((flongestS false false q1474.Bytes).1), .int .i64 ((flongestS false false q1474.Bytes).2)]) 55 #[.bool false, .bool false, .int .i64 q1474.Bytes] (nog rfl _) rfl (by kernel_rfl) (fun _ => by kernel_rfl) (flongest_fun false false q1474.Bytes _ _ hM1458.fz) ?_; intro a1485 wd1487 hF1486 hM1488; clear hF1484 hM1458
        refine s1 hF1486 162 (.tuple #[.int .i64 ((flongestS false false q1474.Bytes).1), .int .i64 ((flongestS false false q1474.Bytes).2)]) ?_; intro a1489 hF1490; clear hF1486
        refine s1 hF1490 170 (.int .i64 ((flongestS false false q1474.Bytes).1)) ?_; intro a1491 hF1492; clear hF1490
        refine s1 hF1492 171 (.int .i64 ((flongestS false false q1474.Bytes).2)) ?_; intro a1493 hF1494; clear hF1492
        refine s1 hF1494 25 (.int .i64 ((flongestS false false q1474.Bytes).1)) ?_; intro a1495 hF1496; clear hF1494
        refine s1 hF1496 26 (.int .i64 ((flongestS false false q1474.Bytes).2)) ?_; intro a1497 hF1498; clear hF1496
        refine nlH (hQ1462 _ _ ?_); clear hQ1462 hQ1462Q
        have hF1499 : Fr 189 [] [⟨0, [], .slice ao1 u0.length cap2⟩, ⟨11, [], .slice ao1454 (sdelS x11v x21 (w64 (x21 + 1))).length cap1455⟩, ⟨18, [], .slice aox18v x18v.length capx18v⟩, ⟨19, [], .pointer (some ⟨b664, 0, none⟩)⟩, ⟨20, [], .func (.func 53) #[] #[.pointer (some ⟨b664, 0, none⟩)]⟩, ⟨24, [], .pointer (some ⟨b1431, 0, none⟩)⟩, ⟨25, [], .int .i64 ((flongestS false false q1474.Bytes).1)⟩] a1497 := hF1498.reg; clear hF1498
        refine sqH ?_; intro hQ1500Q hQ1500
        refine s1 hF1499 172 (.pointer (some ⟨b1431, 0, none⟩)) ?_; intro a1501 hF1502; clear hF1499
        refine l1 hF1502 hM1488 173 1 0 (.int .i64 q1423.task) rfl rfl ?_; intro a1503 hF1504; clear hF1502
        refine s1 hF1504 174 (.pointer (some ⟨b1431, 1, none⟩)) ?_; intro a1505 hF1506; clear hF1504
        refine l1 hF1506 hM1488 175 1 1 (.int .i64 q1423.from_) rfl rfl ?_; intro a1507 hF1508; clear hF1506
        refine l1 hF1508 hM1488 176 3 0 (.int .i64 yb664c0v) rfl rfl ?_; intro a1509 hF1510; clear hF1508
        refine l1 hF1510 hM1488 177 3 0 (.int .i64 yb664c0v) rfl rfl ?_; intro a1511 hF1512; clear hF1510
        refine s1 hF1512 178 (.int .i64 ((flongestS false false q1474.Bytes).1)) ?_; intro a1513 hF1514; clear hF1512
        refine s1 hF1514 179 (.int .i64 (w64 (yb664c0v + ((flongestS false false q1474.Bytes).1)))) ?_; intro a1515 hF1516; clear hF1514
        refine s1 hF1516 180 (.int .i64 (w64 ((w64 (yb664c0v + ((flongestS false false q1474.Bytes).1))) + 3))) ?_; intro a1517 hF1518; clear hF1516
        refine s1 hF1518 181 (.agg #[.int .i64 q1423.task, .int .i64 q1423.from_, .int .i64 yb664c0v, .int .i64 (w64 ((w64 (yb664c0v + ((flongestS false false q1474.Bytes).1))) + 3))]) ?_; intro a1519 hF1520; clear hF1518
        refine sn hF1520 hM1488 (fun b => .pointer (some ⟨b, 0, none⟩)) [.int .i64 0, .int .i64 0, .int .i64 0, .int .i64 0] 48 (nog rfl _) rfl (by kernel_rfl) (by kernel_rfl) ?_; intro b1521 a1522 wd1524 hF1523 hM1525; clear hF1520 hM1488
        refine sr hF1523 hM1525 0 [.int .i64 q1423.task, .int .i64 q1423.from_, .int .i64 yb664c0v, .int .i64 (w64 ((w64 (yb664c0v + ((flongestS false false q1474.Bytes).1))) + 3))] (b := b1521) (off := 0) (cs := [.int .i64 0, .int .i64 0, .int .i64 0, .int .i64 0]) (ty := 48) (u := .agg #[.int .i64 q1423.task, .int .i64 q1423.from_, .int .i64 yb664c0v, .int .i64 (w64 ((w64 (yb664c0v + ((flongestS false false q1474.Bytes).1))) + 3))]) (nog rfl _) rfl rfl (by kernel_rfl) (by kernel_rfl) (by kernel_rfl) (by kernel_rfl) (by kernel_rfl) (by kernel_rfl) (by kernel_rfl) ?_; intro wd1526 hM1527; clear hM1525
        have hM1528 : Mem w.heap.size [] w Z [.row b1521 [.int .i64 q1423.task, .int .i64 q1423.from_, .int .i64 yb664c0v, .int .i64 (w64 ((w64 (yb664c0v + ((flongestS false false q1474.Bytes).1))) + 3))] 48, .own tyJob 110 ao1454 cap1455 (sdelS x11v x21 (w64 (x21 + 1))), .row b1431 [.int .i64 q1423.task, .int .i64 q1423.from_, .int .i64 q1423.asked] 110, .own tySlot 48 aox18v capx18v x18v, .row b664 [.int .i64 yb664c0v] 3] Z1456 wd1526 := hM1527; clear hM1527
        refine nlH (hQ1500 _ _ ?_); clear hQ1500 hQ1500Q
        refine sqH ?_; intro hQ1529Q hQ1529
        refine s1 hF1523 182 (.slice aox18v x18v.length capx18v) ?_; intro a1530 hF1531; clear hF1523
        refine l2 hF1531 hM1528 183 0 0 4 [.int .i64 q1423.task, .int .i64 q1423.from_, .int .i64 yb664c0v, .int .i64 (w64 ((w64 (yb664c0v + ((flongestS false false q1474.Bytes).1))) + 3))] rfl rfl ?_; intro a1532 hF1533; clear hF1531
        refine sn hF1533 hM1528 (fun b => .slice (some ⟨b, 0, none⟩) 1 1) [.int .i64 q1423.task, .int .i64 q1423.from_, .int .i64 yb664c0v, .int .i64 (w64 ((w64 (yb664c0v + ((flongestS false false q1474.Bytes).1))) + 3))] 48 (nog rfl _) rfl (by kernel_rfl) (by kernel_rfl) ?_; intro b1534 a1535 wd1537 hF1536 hM1538; clear hF1533 hM1528
        have hc1539 := hp1480.1; have hp1540 := hp1480.2; clear hp1480
        refine ap hF1536 hM1538 4 (T := tySlot) (xs := x18v) (ys := [(⟨q1423.task, q1423.from_, yb664c0v, w64 ((w64 (yb664c0v + ((flongestS false false q1474.Bytes).1))) + 3)⟩ : Slot)]) (ao := aox18v) (cap := capx18v) (ao2 := (some ⟨b1534, 0, none⟩)) (cap2 := 1) (t := 43) (e := 48) (bytes := 32) (nog rfl _) rfl (by kernel_rfl) rfl (by kernel_rfl) (by kernel_rfl) (by kernel_rfl) rfl (Src.row hM1538 0 rfl (RepAll.one (T := tySlot) (x := (⟨q1423.task, q1423.from_, yb664c0v, w64 ((w64 (yb664c0v + ((flongestS false false q1474.Bytes).1))) + 3)⟩ : Slot)) rfl)) hc1539 ?_; intro ao1541 cap1542 a1546 wd1543 hnil1544 hF1547 hM1545; clear hF1536 hM1538
        have hM1548 : Mem w.heap.size [] w Z [.row b1534 [.int .i64 q1423.task, .int .i64 q1423.from_, .int .i64 yb664c0v, .int .i64 (w64 ((w64 (yb664c0v + ((flongestS false false q1474.Bytes).1))) + 3))] 48, .row b1521 [.int .i64 q1423.task, .int .i64 q1423.from_, .int .i64 yb664c0v, .int .i64 (w64 ((w64 (yb664c0v + ((flongestS false false q1474.Bytes).1))) + 3))] 48, .own tyJob 110 ao1454 cap1455 (sdelS x11v x21 (w64 (x21 + 1))), .row b1431 [.int .i64 q1423.task, .int .i64 q1423.from_, .int .i64 q1423.asked] 110, .own tySlot 48 ao1541 cap1542 (x18v ++ [(⟨q1423.task, q1423.from_, yb664c0v, w64 ((w64 (yb664c0v + ((flongestS false false q1474.Bytes).1))) + 3)⟩ : Slot)]), .row b664 [.int .i64 yb664c0v] 3] Z1456 wd1543 := hM1545; clear hM1545
        refine s1 hF1547 18 (.slice ao1541 (x18v ++ [(⟨q1423.task, q1423.from_, yb664c0v, w64 ((w64 (yb664c0v + ((flongestS false false q1474.Bytes).1))) + 3)⟩ : Slot)]).length cap1542) ?_; intro a1549 hF1550; clear hF1547
        refine nlH (hQ1529 _ _ ?_); clear hQ1529 hQ1529Q
        have hF1551 : Fr 189 [] [⟨0, [], .slice ao1 u0.length cap2⟩, ⟨11, [], .slice ao1454 (sdelS x11v x21 (w64 (x21 + 1))).length cap1455⟩, ⟨18, [], .slice ao1541 (x18v ++ [(⟨q1423.task, q1423.from_, yb664c0v, w64 ((w64 (yb664c0v + ((flongestS false false q1474.Bytes).1))) + 3)⟩ : Slot)]).length cap1542⟩, ⟨19, [], .pointer (some ⟨b664, 0, none⟩)⟩, ⟨20, [], .func (.func 53) #[] #[.pointer (some ⟨b664, 0, none⟩)]⟩, ⟨27, [], .pointer (some ⟨b1521, 0, none⟩)⟩] a1549 := hF1550.reg; clear hF1550
        refine rgH ?_; intro hQ1552Q hQ1552
        refine s1 hF1551 186 (.pointer (some ⟨b1521, 3, none⟩)) ?_; intro a1553 hF1554; clear hF1551
        refine l1 hF1554 hM1548 187 1 3 (.int .i64 (w64 ((w64 (yb664c0v + ((flongestS false false q1474.Bytes).1))) + 3))) rfl rfl ?_; intro a1555 hF1556; clear hF1554
        refine sr hF1556 hM1548 5 [.int .i64 (w64 ((w64 (yb664c0v + ((flongestS false false q1474.Bytes).1))) + 3))] (b := b664) (off := 0) (cs := [.int .i64 yb664c0v]) (ty := 3) (u := .int .i64 (w64 ((w64 (yb664c0v + ((flongestS false false q1474.Bytes).1))) + 3))) (nog rfl _) rfl rfl (by kernel_rfl) (by kernel_rfl) (by kernel_rfl) (by kernel_rfl) (by kernel_rfl) (by kernel_rfl) (by kernel_rfl) ?_; intro wd1557 hM1558; clear hM1548
        have hM1559 : Mem w.heap.size [] w Z [.row b1534 [.int .i64 q1423.task, .int .i64 q1423.from_, .int .i64 yb664c0v, .int .i64 (w64 ((w64 (yb664c0v + ((flongestS false false q1474.Bytes).1))) + 3))] 48, .row b1521 [.int .i64 q1423.task, .int .i64 q1423.from_, .int .i64 yb664c0v, .int .i64 (w64 ((w64 (yb664c0v + ((flongestS false false q1474.Bytes).1))) + 3))] 48, .own tyJob 110 ao1454 cap1455 (sdelS x11v x21 (w64 (x21 + 1))), .row b1431 [.int .i64 q1423.task, .int .i64 q1423.from_, .int .i64 q1423.asked] 110, .own tySlot 48 ao1541 cap1542 (x18v ++ [(⟨q1423.task, q1423.from_, yb664c0v, w64 ((w64 (yb664c0v + ((flongestS false false q1474.Bytes).1))) + 3)⟩ : Slot)]), .row b664 [.int .i64 (w64 ((w64 (yb664c0v + ((flongestS false false q1474.Bytes).1))) + 3))] 3] Z1456 wd1557 := hM1558; clear hM1558
        refine nlH (hQ1552 _ _ ?_); clear hQ1552 hQ1552Q
        refine ibn ?_
        refine rd ?_
        have hM1560 := hM1559.perm ((pk 4 rfl).trans (((pk 4 rfl).trans (((pk 2 rfl).trans (lpr.cons _)).cons _)).cons _))
        exact ⟨⟨(sdelS x11v x21 (w64 (x21 + 1))), x18v ++ [(⟨q1423.task, q1423.from_, yb664c0v, w64 ((w64 (yb664c0v + ((flongestS false false q1474.Bytes).1))) + 3)⟩ : Slot)], w64 ((w64 (yb664c0v + ((flongestS false false q1474.Bytes).1))) + 3), ao1454, cap1455, ao1541, cap1542, Z1456⟩, ⟨hp1540.1, hs820⟩, hp1540.2, (hF1556.reg).anyβ _ (by kernel_rfl), hM1560.keep (List.Sublist.cons_cons _ (List.Sublist.cons_cons _ (List.Sublist.cons_cons _ (List.Sublist.cons _ (List.Sublist.cons _ (List.Sublist.cons _ (List.Sublist.slnil)))))))⟩
    ·
     have hp1561 := hp716.2 hb728; clear hp716
     refine wp_exit ?_
     refine thx ?_
     refine thx ?_
     refine ibx ?_
     refine rd ?_
     exact hJ684 x18v yb664c0v aox18v capx18v ZL703 ⟨hp1561, hs720⟩ _ _ ((hF727.reg).anyβ _ (by kernel_rfl)) (hM715.keep (List.Sublist.cons_cons _ (List.Sublist.cons_cons _ (List.Sublist.cons _ (List.Sublist.slnil)))))

end Go.Proofs.Ytginlmgkimfjmaa
