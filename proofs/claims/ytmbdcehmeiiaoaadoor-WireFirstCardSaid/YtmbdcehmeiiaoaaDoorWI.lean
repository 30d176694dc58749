/- The walks, made by program: each call does what its pure predicate says. -/
import Derived.Test.YtmbdcehmeiiaoaaDoorPI
import Derived.Test.YtmbdcehmeiiaoaaDoorWEb
set_option linter.unusedVariables false
set_option linter.unusedSimpArgs false
namespace Go.Proofs.YtmbdcehmeiiaoaaDoor
open Go.Sy Go.RowKit
set_option maxRecDepth 100000 in
set_option maxHeartbeats 0 in
theorem wsend_walk (u0 : List Frame) (ao1 : Option Addr) (cap2 : Nat) (Z : Fz) (w : World) (hs3 : SlR tyFrame Z ao1 cap2 u0) (hZ : Z.on w) {K : ((List UInt8) × Int × (List Int) × Int) → Prop} (hp : wsend_vc u0 K) : Calls Tryd.prog 18 #[.slice ao1 u0.length cap2] w fun e w' => ∃ (r : (List UInt8) × Int × (List Int) × Int) (ao1001 : Option Addr) (cap1002 : Nat) (Z' : Fz), e = .returned (.tuple #[str r.1, .int .i64 r.2.1, .slice ao1001 r.2.2.1.length cap1002, .int .i64 r.2.2.2]) ∧ K r ∧ Mem w.heap.size [] w Z [.own (tyInt .i64) 3 ao1001 cap1002 r.2.2.1] Z' w' := by
 refine enter0 Tryd.func18 rfl rfl (by kernel_rfl) ?_; intro a0 hF0; have hM0 := Mem.start w Z hZ; have hle0 := Fz.le.refl Z
 have hp4 := hp (hs3.small); clear hp
 refine sqH ?_; intro hQ5Q hQ5
 refine s1 hF0 2 (str []) ?_; intro a6 hF7; clear hF0
 refine s1 hF7 3 (.int .i64 0) ?_; intro a8 hF9; clear hF7
 refine s1 hF9 4 (.slice none 0 0) ?_; intro a10 hF11; clear hF9
 refine s1 hF11 5 (.int .i64 0) ?_; intro a12 hF13; clear hF11
 refine nlH (hQ5 _ _ ?_); clear hQ5 hQ5Q
 refine wp_seq ?_
 refine sqH ?_; intro hQ14Q hQ14
 refine s1 hF13 22 (.slice ao1 u0.length cap2) ?_; intro a15 hF16; clear hF13
 refine s1 hF16 23 (.int .i64 (u0.length : Int)) ?_; intro a17 hF18; clear hF16
 refine s1 hF18 24 (.bool (decide ((u0.length : Int) > 6))) ?_; intro a19 hF20; clear hF18
 refine nlH (hQ14 _ _ ?_); clear hQ14 hQ14Q
 refine cd hF20 (t := decide ((u0.length : Int) > 6)) (by kernel_rfl) (fun hb21 => ?_) (fun hb21 => ?_)
 · -- yes
  have hp22 := hp4.1 hb21; clear hp4
  refine sqH ?_; intro hQ23Q hQ23
  refine s1 hF20 2 (str []) ?_; intro a24 hF25; clear hF20
  refine s1 hF25 3 (.int .i64 0) ?_; intro a26 hF27; clear hF25
  refine s1 hF27 4 (.slice none 0 0) ?_; intro a28 hF29; clear hF27
  refine s1 hF29 5 (.int .i64 2) ?_; intro a30 hF31; clear hF29
  refine nlH (hQ23 _ _ ?_); clear hQ23 hQ23Q
  refine wp_ret ?_
  refine thr ?_
  have hM32 : Mem w.heap.size [] w Z [.own (tyInt .i64) 3 none 0 ([] : List Int)] Z w := hM0.addNil (tyInt .i64) 3 (by decide); clear hM0
  refine rt (fn := Tryd.f18) (v := .tuple #[str [], .int .i64 0, .slice none ([] : List Int).length 0, .int .i64 2]) hF31 (re4 hF31 (fn := Tryd.f18) rfl (by kernel_rfl) (by kernel_rfl) (by kernel_rfl) (by kernel_rfl)) ?_
  exact ⟨([], 0, ([] : List Int), 2), none, 0, Z, rfl, hp22, hM32.keep (List.Sublist.cons_cons _ (List.Sublist.slnil))⟩
 · -- no
  have hp33 := hp4.2 hb21; clear hp4
  refine wp_skip ?_
  refine thn ?_
  refine wp_seq ?_
  refine sqH ?_; intro hQ34Q hQ34
  refine s1 hF20 25 (.slice ao1 u0.length cap2) ?_; intro a35 hF36; clear hF20
  refine s1 hF36 26 (.int .i64 (u0.length : Int)) ?_; intro a37 hF38; clear hF36
  refine s1 hF38 27 (.bool ((u0.length : Int) == 0)) ?_; intro a39 hF40; clear hF38
  refine nlH (hQ34 _ _ ?_); clear hQ34 hQ34Q
  refine cd hF40 (t := (u0.length : Int) == 0) (by kernel_rfl) (fun hb41 => ?_) (fun hb41 => ?_)
  · -- yes
   have hp42 := hp33.1 hb41; clear hp33
   refine sqH ?_; intro hQ43Q hQ43
   refine s1 hF40 2 (str []) ?_; intro a44 hF45; clear hF40
   refine s1 hF45 3 (.int .i64 0) ?_; intro a46 hF47; clear hF45
   refine s1 hF47 4 (.slice none 0 0) ?_; intro a48 hF49; clear hF47
   refine s1 hF49 5 (.int .i64 8) ?_; intro a50 hF51; clear hF49
   refine nlH (hQ43 _ _ ?_); clear hQ43 hQ43Q
   refine wp_ret ?_
   refine thr ?_
   have hM52 : Mem w.heap.size [] w Z [.own (tyInt .i64) 3 none 0 ([] : List Int)] Z w := hM0.addNil (tyInt .i64) 3 (by decide); clear hM0
   refine rt (fn := Tryd.f18) (v := .tuple #[str [], .int .i64 0, .slice none ([] : List Int).length 0, .int .i64 8]) hF51 (re4 hF51 (fn := Tryd.f18) rfl (by kernel_rfl) (by kernel_rfl) (by kernel_rfl) (by kernel_rfl)) ?_
   exact ⟨([], 0, ([] : List Int), 8), none, 0, Z, rfl, hp42, hM52.keep (List.Sublist.cons_cons _ (List.Sublist.slnil))⟩
  · -- no
   have hp53 := hp33.2 hb41; clear hp33
   refine wp_skip ?_
   refine thn ?_
   refine sqH ?_; intro hQ54Q hQ54
   refine s1 hF40 6 (.slice none 0 0) ?_; intro a55 hF56; clear hF40
   refine nlH (hQ54 _ _ ?_); clear hQ54 hQ54Q
   refine sqH ?_; intro hQ57Q hQ57
   refine s1 hF56 7 (.int .i64 0) ?_; intro a58 hF59; clear hF56
   refine nlH (hQ57 _ _ ?_); clear hQ57 hQ57Q
   refine wp_seq ?_
   refine sqH ?_; intro hQ60Q hQ60
   refine s1 hF59 28 (.slice ao1 u0.length cap2) ?_; intro a61 hF62; clear hF59
   refine s1 hF62 29 (.int .i64 (u0.length : Int)) ?_; intro a63 hF64; clear hF62
   refine s1 hF64 30 (.int .i64 0) ?_; intro a65 hF66; clear hF64
   refine nlH (hQ60 _ _ ?_); clear hQ60 hQ60Q
   refine wp_block ?_
   have hF67 : Fr 149 [] [⟨4, [], .slice none 0 0⟩, ⟨6, [], .slice none 0 0⟩, ⟨7, [], .int .i64 0⟩, ⟨28, [], .slice ao1 u0.length cap2⟩, ⟨29, [], .int .i64 (u0.length : Int)⟩, ⟨30, [], .int .i64 0⟩] a65 := hF66.region (by kernel_rfl) (by kernel_rfl); clear hF66
   have hM69 : Mem w.heap.size [] w Z [.own tySender 75 none 0 ([] : List Sender)] Z w := hM0.addNil tySender 75 (by decide); clear hM0
   have hF70 : Fr 149 [] [⟨4, [], .slice none 0 0⟩, ⟨6, [], .slice none ([] : List Sender).length 0⟩, ⟨7, [], .int .i64 0⟩, ⟨28, [], .slice ao1 u0.length cap2⟩, ⟨29, [], .int .i64 (u0.length : Int)⟩, ⟨30, [], .int .i64 0⟩] a65 := hF67.region (by kernel_rfl) (by kernel_rfl); clear hF67
   obtain ⟨inv68, mu68, hI73, hr72⟩ := hp53
   refine lp (ι := (List Sender) × Int × Int × (Option Addr) × Nat) (fun (s : (List Sender) × Int × Int × (Option Addr) × Nat) => [⟨4, [], .slice none 0 0⟩, ⟨6, [], .slice s.2.2.2.1 s.1.length s.2.2.2.2⟩, ⟨7, [], .int .i64 s.2.1⟩, ⟨28, [], .slice ao1 u0.length cap2⟩, ⟨29, [], .int .i64 (u0.length : Int)⟩, ⟨30, [], .int .i64 s.2.2.1⟩]) (fun (s : (List Sender) × Int × Int × (Option Addr) × Nat) => [.own tySender 75 s.2.2.2.1 s.2.2.2.2 s.1]) (fun (s : (List Sender) × Int × Int × (Option Addr) × Nat) => Z) (fun (s : (List Sender) × Int × Int × (Option Addr) × Nat) => inv68 s.1 s.2.1 s.2.2.1) (fun (s : (List Sender) × Int × Int × (Option Addr) × Nat) => mu68 s.1 s.2.1 s.2.2.1) ⟨([] : List Sender), 0, 0, none, 0⟩ hI73 (by exact hF70.region (by kernel_rfl) (by kernel_rfl)) (by exact hM69) ?_
   rintro ⟨x6, x7, x30, aox6, capx6⟩ hI71 a75 wd76 hF77 hM78
   have hF79 : Fr 149 [] [⟨4, [], .slice none 0 0⟩, ⟨6, [], .slice aox6 x6.length capx6⟩, ⟨7, [], .int .i64 x7⟩, ⟨28, [], .slice ao1 u0.length cap2⟩, ⟨29, [], .int .i64 (u0.length : Int)⟩, ⟨30, [], .int .i64 x30⟩] a75 := hF77; clear hF77 hF70
   have hM80 : Mem w.heap.size [] w Z [.own tySender 75 aox6 capx6 x6] Z wd76 := hM78; clear hM78 hM69
   have hp81 := hr72 x6 x7 x30 hI71
   refine sqH ?_; intro hQ82Q hQ82
   refine s1 hF79 31 (.bool (decide (x30 < (u0.length : Int)))) ?_; intro a83 hF84; clear hF79
   refine nlH (hQ82 _ _ ?_); clear hQ82 hQ82Q
   refine wp_seq ?_
   refine cd hF84 (t := decide (x30 < (u0.length : Int))) (by kernel_rfl) (fun hb85 => ?_) (fun hb85 => ?_)
   · -- yes
    have hp86 := hp81.1 hb85; clear hp81
    refine wp_skip ?_
    refine thn ?_
    refine wp_seq ?_
    refine wp_block ?_
    refine sqH ?_; intro hQ87Q hQ87
    have hc88 := hp86.1; have hp89 := hp86.2; clear hp86
    refine ix hF84 (T := tyFrame) (xs := u0) hs3 x30 hc88 (k := .i64) (e := 24) (bytes := 48) (nog rfl _) rfl (by kernel_rfl) rfl (by kernel_rfl) (by kernel_rfl) (by kernel_rfl) ?_; intro b90 off91 cs92 q93 a97 hq94 hP95 hT96 hF98; clear hF84
    have hp99 := hp89 q93 hq94; clear hp89
    obtain ⟨ao100, cap101, rfl, hs102⟩ := hT96
    have hp103 := hp99 (hs102.small); clear hp99
    refine z2 hF98 hM80 33 hP95 0 6 [.int .i64 q93.ID, .bool q93.Long, .bool q93.Fast, .bool q93.Remote, .int .i64 q93.Size, .slice ao100 q93.Data.length cap101] rfl ?_; intro a104 hF105; clear hF98
    refine sn hF105 hM80 (fun b => .pointer (some ⟨b, 0, none⟩)) [.int .i64 0, .bool false, .bool false, .bool false, .int .i64 0, .slice none 0 0] 24 (nog rfl _) rfl (by kernel_rfl) (by kernel_rfl) ?_; intro b106 a107 wd109 hF108 hM110; clear hF105 hM80
    refine sr hF108 hM110 0 [.int .i64 q93.ID, .bool q93.Long, .bool q93.Fast, .bool q93.Remote, .int .i64 q93.Size, .slice ao100 q93.Data.length cap101] (b := b106) (off := 0) (cs := [.int .i64 0, .bool false, .bool false, .bool false, .int .i64 0, .slice none 0 0]) (ty := 24) (u := .agg #[.int .i64 q93.ID, .bool q93.Long, .bool q93.Fast, .bool q93.Remote, .int .i64 q93.Size, .slice ao100 q93.Data.length cap101]) (nog rfl _) rfl rfl (by kernel_rfl) (by kernel_rfl) (by kernel_rfl) (by kernel_rfl) (by kernel_rfl) (by kernel_rfl) (by kernel_rfl) ?_; intro wd111 hM112; clear hM110
    have hM113 : Mem w.heap.size [] w Z [.row b106 [.int .i64 q93.ID, .bool q93.Long, .bool q93.Fast, .bool q93.Remote, .int .i64 q93.Size, .slice ao100 q93.Data.length cap101] 24, .own tySender 75 aox6 capx6 x6] Z wd111 := hM112; clear hM112
    refine nlH (hQ87 _ _ ?_); clear hQ87 hQ87Q
    refine sqH ?_; intro hQ114Q hQ114
    refine l2 hF108 hM113 35 0 0 6 [.int .i64 q93.ID, .bool q93.Long, .bool q93.Fast, .bool q93.Remote, .int .i64 q93.Size, .slice ao100 q93.Data.length cap101] rfl rfl ?_; intro a115 hF116; clear hF108
    have hc117 := hp103.1; have hp118 := hp103.2; clear hp103
    refine fcl hF116 hM113 (.tuple #[str ((BitsS q93).1), .int .i64 ((BitsS q93).2)]) 10 #[.agg #[.int .i64 q93.ID, .bool q93.Long, .bool q93.Fast, .bool q93.Remote, .int .i64 q93.Size, .slice ao100 q93.Data.length cap101]] (nog rfl _) rfl (by kernel_rfl) (fun _ => by kernel_rfl) (fBits_fun q93 hc117 ao100 cap101 _ _ hs102 hM113.fz) ?_; intro a119 wd121 hF120 hM122; clear hF116 hM113
    refine s1 hF120 34 (.tuple #[str ((BitsS q93).1), .int .i64 ((BitsS q93).2)]) ?_; intro a123 hF124; clear hF120
    refine s1 hF124 37 (str ((BitsS q93).1)) ?_; intro a125 hF126; clear hF124
    refine s1 hF126 38 (.int .i64 ((BitsS q93).2)) ?_; intro a127 hF128; clear hF126
    refine s1 hF128 10 (str ((BitsS q93).1)) ?_; intro a129 hF130; clear hF128
    refine s1 hF130 11 (.int .i64 ((BitsS q93).2)) ?_; intro a131 hF132; clear hF130
    refine nlH (hQ114 _ _ ?_); clear hQ114 hQ114Q
    refine wp_seq ?_
    refine sqH ?_; intro hQ133Q hQ133
    refine s1 hF132 39 (.int .i64 ((BitsS q93).2)) ?_; intro a134 hF135; clear hF132
    refine s1 hF135 40 (.bool (((BitsS q93).2) != 0)) ?_; intro a136 hF137; clear hF135
    refine nlH (hQ133 _ _ ?_); clear hQ133 hQ133Q
    refine cd hF137 (t := ((BitsS q93).2) != 0) (by kernel_rfl) (fun hb138 => ?_) (fun hb138 => ?_)
    · -- yes
     have hp139 := hp118.1 hb138; clear hp118
     refine sqH ?_; intro hQ140Q hQ140
     refine s1 hF137 41 (.int .i64 ((BitsS q93).2)) ?_; intro a141 hF142; clear hF137
     refine s1 hF142 2 (str []) ?_; intro a143 hF144; clear hF142
     refine s1 hF144 3 (.int .i64 0) ?_; intro a145 hF146; clear hF144
     refine s1 hF146 4 (.slice none 0 0) ?_; intro a147 hF148; clear hF146
     refine s1 hF148 5 (.int .i64 ((BitsS q93).2)) ?_; intro a149 hF150; clear hF148
     refine nlH (hQ140 _ _ ?_); clear hQ140 hQ140Q
     refine wp_ret ?_
     refine thr ?_
     refine ibr ?_
     refine thr ?_
     refine thr ?_
     refine ibr ?_
     refine thr ?_
     have hM151 : Mem w.heap.size [] w Z [.own (tyInt .i64) 3 none 0 ([] : List Int), .row b106 [.int .i64 q93.ID, .bool q93.Long, .bool q93.Fast, .bool q93.Remote, .int .i64 q93.Size, .slice ao100 q93.Data.length cap101] 24, .own tySender 75 aox6 capx6 x6] Z wd121 := hM122.addNil (tyInt .i64) 3 (by decide); clear hM122
     refine rt (fn := Tryd.f18) (v := .tuple #[str [], .int .i64 0, .slice none ([] : List Int).length 0, .int .i64 ((BitsS q93).2)]) hF150 (re4 hF150 (fn := Tryd.f18) rfl (by kernel_rfl) (by kernel_rfl) (by kernel_rfl) (by kernel_rfl)) ?_
     exact ⟨([], 0, ([] : List Int), (BitsS q93).2), none, 0, Z, rfl, hp139, hM151.keep (List.Sublist.cons_cons _ (List.Sublist.cons _ (List.Sublist.cons _ (List.Sublist.slnil))))⟩
    · -- no
     have hp152 := hp118.2 hb138; clear hp118
     refine wp_skip ?_
     refine thn ?_
     refine sqH ?_; intro hQ153Q hQ153
     refine s1 hF137 42 (.slice aox6 x6.length capx6) ?_; intro a154 hF155; clear hF137
     refine s1 hF155 43 (str ((BitsS q93).1)) ?_; intro a156 hF157; clear hF155
     refine s1 hF157 44 (.agg #[str ((BitsS q93).1), .int .i64 (-1)]) ?_; intro a158 hF159; clear hF157
     refine sn hF159 hM122 (fun b => .slice (some ⟨b, 0, none⟩) 1 1) [str ((BitsS q93).1), .int .i64 (-1)] 75 (nog rfl _) rfl (by kernel_rfl) (by kernel_rfl) ?_; intro b160 a161 wd163 hF162 hM164; clear hF159 hM122
     have hc165 := hp152.1; have hp166 := hp152.2; clear hp152
     refine ap hF162 hM164 2 (T := tySender) (xs := x6) (ys := [(⟨(BitsS q93).1, -1⟩ : Sender)]) (ao := aox6) (cap := capx6) (ao2 := (some ⟨b160, 0, none⟩)) (cap2 := 1) (t := 73) (e := 75) (bytes := 24) (nog rfl _) rfl (by kernel_rfl) rfl (by kernel_rfl) (by kernel_rfl) (by kernel_rfl) rfl (Src.row hM164 0 rfl (RepAll.one (T := tySender) (x := (⟨(BitsS q93).1, -1⟩ : Sender)) rfl)) hc165 ?_; intro ao167 cap168 a172 wd169 hnil170 hF173 hM171; clear hF162 hM164
     have hM174 : Mem w.heap.size [] w Z [.row b160 [str ((BitsS q93).1), .int .i64 (-1)] 75, .row b106 [.int .i64 q93.ID, .bool q93.Long, .bool q93.Fast, .bool q93.Remote, .int .i64 q93.Size, .slice ao100 q93.Data.length cap101] 24, .own tySender 75 ao167 cap168 (x6 ++ [(⟨(BitsS q93).1, -1⟩ : Sender)])] Z wd169 := hM171; clear hM171
     refine s1 hF173 6 (.slice ao167 (x6 ++ [(⟨(BitsS q93).1, -1⟩ : Sender)]).length cap168) ?_; intro a175 hF176; clear hF173
     refine nlH (hQ153 _ _ ?_); clear hQ153 hQ153Q
     have hF177 : Fr 149 [] [⟨4, [], .slice none 0 0⟩, ⟨6, [], .slice ao167 (x6 ++ [(⟨(BitsS q93).1, -1⟩ : Sender)]).length cap168⟩, ⟨7, [], .int .i64 x7⟩, ⟨10, [], str ((BitsS q93).1)⟩, ⟨28, [], .slice ao1 u0.length cap2⟩, ⟨29, [], .int .i64 (u0.length : Int)⟩, ⟨30, [], .int .i64 x30⟩] a175 := hF176.region (by kernel_rfl) (by kernel_rfl); clear hF176
     refine rgH ?_; intro hQ178Q hQ178
     refine s1 hF177 47 (.int .i64 x7) ?_; intro a179 hF180; clear hF177
     refine s1 hF180 48 (str ((BitsS q93).1)) ?_; intro a181 hF182; clear hF180
     refine s1 hF182 49 (.int .i64 (((BitsS q93).1).length : Int)) ?_; intro a183 hF184; clear hF182
     refine st hF184 (.int .i64 (max x7 (((BitsS q93).1).length : Int))) (nog rfl _) rfl (by kernel_rfl) (re_ (p0 hF184 (r := .ok (.value (.int .i64 (if x7 < (((BitsS q93).1).length : Int) then (((BitsS q93).1).length : Int) else x7))) wd169) (by kernel_rfl)) (by rw [imax])) ?_; intro a185 hF186; clear hF184
     refine s1 hF186 7 (.int .i64 (max x7 (((BitsS q93).1).length : Int))) ?_; intro a187 hF188; clear hF186
     refine nlH (hQ178 _ _ ?_); clear hQ178 hQ178Q
     refine ibn ?_
     refine thn ?_
     refine rgH ?_; intro hQ189Q hQ189
     refine s1 hF188 51 (.int .i64 (w64 (x30 + 1))) ?_; intro a190 hF191; clear hF188
     refine s1 hF191 30 (.int .i64 (w64 (x30 + 1))) ?_; intro a192 hF193; clear hF191
     refine nlH (hQ189 _ _ ?_); clear hQ189 hQ189Q
     refine rd ?_
     exact ⟨⟨x6 ++ [(⟨(BitsS q93).1, -1⟩ : Sender)], max x7 (((BitsS q93).1).length : Int), w64 (x30 + 1), ao167, cap168⟩, hp166.1, hp166.2, (hF193.region (by kernel_rfl) (by kernel_rfl)).anyβ _ (by kernel_rfl), hM174.keep (List.Sublist.cons _ (List.Sublist.cons _ (List.Sublist.cons_cons _ (List.Sublist.slnil))))⟩
   · -- no
    have hp194 := hp81.2 hb85; clear hp81
    refine wp_exit ?_
    refine thx ?_
    refine thx ?_
    refine ibx ?_
    refine thn ?_
    refine sqH ?_; intro hQ195Q hQ195
    refine sn hF84 hM80 (fun b => .slice (some ⟨b, 0, none⟩) 0 0) [] 5 (nog rfl _) rfl (by kernel_rfl) (by kernel_rfl) ?_; intro b196 a197 wd199 hF198 hM200; clear hF84 hM80
    refine s1 hF198 12 (.slice (some ⟨b196, 0, none⟩) 0 0) ?_; intro a201 hF202; clear hF198
    refine nlH (hQ195 _ _ ?_); clear hQ195 hQ195Q
    refine wp_seq ?_
    refine sqH ?_; intro hQ203Q hQ203
    refine s1 hF202 53 (.int .i64 x7) ?_; intro a204 hF205; clear hF202
    refine s1 hF205 54 (.int .i64 0) ?_; intro a206 hF207; clear hF205
    refine nlH (hQ203 _ _ ?_); clear hQ203 hQ203Q
    refine wp_block ?_
    have hF208 : Fr 149 [] [⟨4, [], .slice none 0 0⟩, ⟨6, [], .slice aox6 x6.length capx6⟩, ⟨12, [], .slice (some ⟨b196, 0, none⟩) 0 0⟩, ⟨53, [], .int .i64 x7⟩, ⟨54, [], .int .i64 0⟩] a206 := hF207.region (by kernel_rfl) (by kernel_rfl); clear hF207
    have hM210 : Mem w.heap.size [] w Z [.own (tyInt .u8) 5 (some ⟨b196, 0, none⟩) 0 ([] : List Int), .own tySender 75 aox6 capx6 x6] Z wd199 := hM200.rowOwn (T := (tyInt .u8)) (xs := ([] : List Int)) 0 rfl (by decide) (by show 0 ≤ lim; decide) (RepAll.nil _ _); clear hM200
    have hF211 : Fr 149 [] [⟨4, [], .slice none 0 0⟩, ⟨6, [], .slice aox6 x6.length capx6⟩, ⟨12, [], .slice (some ⟨b196, 0, none⟩) ([] : List Int).length 0⟩, ⟨53, [], .int .i64 x7⟩, ⟨54, [], .int .i64 0⟩] a206 := hF208.region (by kernel_rfl) (by kernel_rfl); clear hF208
    obtain ⟨inv209, mu209, hI214, hr213⟩ := hp194
    refine lp (ι := (List Int) × Int × (List Sender) × (Option Addr) × Nat) (fun (s : (List Int) × Int × (List Sender) × (Option Addr) × Nat) => [⟨4, [], .slice none 0 0⟩, ⟨6, [], .slice aox6 s.2.2.1.length capx6⟩, ⟨12, [], .slice s.2.2.2.1 s.1.length s.2.2.2.2⟩, ⟨53, [], .int .i64 x7⟩, ⟨54, [], .int .i64 s.2.1⟩]) (fun (s : (List Int) × Int × (List Sender) × (Option Addr) × Nat) => [.own (tyInt .u8) 5 s.2.2.2.1 s.2.2.2.2 s.1, .own tySender 75 aox6 capx6 s.2.2.1]) (fun (s : (List Int) × Int × (List Sender) × (Option Addr) × Nat) => Z) (fun (s : (List Int) × Int × (List Sender) × (Option Addr) × Nat) => inv209 s.1 s.2.1 s.2.2.1) (fun (s : (List Int) × Int × (List Sender) × (Option Addr) × Nat) => mu209 s.1 s.2.1 s.2.2.1) ⟨([] : List Int), 0, x6, (some ⟨b196, 0, none⟩), 0⟩ hI214 (by exact hF211.region (by kernel_rfl) (by kernel_rfl)) (by exact hM210) ?_
    rintro ⟨x12, x54, zaox6, aox12, capx12⟩ hI212 a216 wd217 hF218 hM219
    have hF220 : Fr 149 [] [⟨4, [], .slice none 0 0⟩, ⟨6, [], .slice aox6 zaox6.length capx6⟩, ⟨12, [], .slice aox12 x12.length capx12⟩, ⟨53, [], .int .i64 x7⟩, ⟨54, [], .int .i64 x54⟩] a216 := hF218; clear hF218 hF211
    have hM221 : Mem w.heap.size [] w Z [.own (tyInt .u8) 5 aox12 capx12 x12, .own tySender 75 aox6 capx6 zaox6] Z wd217 := hM219; clear hM219 hM210
    have hp222 := hr213 x12 x54 zaox6 hI212
    refine sqH ?_; intro hQ223Q hQ223
    refine s1 hF220 55 (.bool (decide (x54 < x7))) ?_; intro a224 hF225; clear hF220
    refine nlH (hQ223 _ _ ?_); clear hQ223 hQ223Q
    refine wp_seq ?_
    refine cd hF225 (t := decide (x54 < x7)) (by kernel_rfl) (fun hb226 => ?_) (fun hb226 => ?_)
    · -- yes
     have hp227 := hp222.1 hb226; clear hp222
     refine wp_skip ?_
     refine thn ?_
     have hF228 : Fr 149 [] [⟨4, [], .slice none 0 0⟩, ⟨6, [], .slice aox6 zaox6.length capx6⟩, ⟨12, [], .slice aox12 x12.length capx12⟩, ⟨53, [], .int .i64 x7⟩, ⟨54, [], .int .i64 x54⟩] a224 := hF225.region (by kernel_rfl) (by kernel_rfl); clear hF225
     have hF230 : Fr 149 [] [⟨4, [], .slice none 0 0⟩, ⟨6, [], .slice aox6 zaox6.length capx6⟩, ⟨12, [], .slice aox12 x12.length capx12⟩, ⟨53, [], .int .i64 x7⟩, ⟨54, [], .int .i64 x54⟩] a224 := hF228.region (by kernel_rfl) (by kernel_rfl); clear hF228
     obtain ⟨inv229, hp231, hp232⟩ := hp227
     refine wp_seq_k fun KJ233 hKJ234 => ?_
     have hJ235 : ∀ (x12v : List Int) (zaox6v : List Sender) (aox12v : Option Addr) (capx12v : Nat), inv229 x12v zaox6v → ∀ a1 w1, Fr 149 [] [⟨4, [], .slice none 0 0⟩, ⟨6, [], .slice aox6 zaox6v.length capx6⟩, ⟨12, [], .slice aox12v x12v.length capx12v⟩, ⟨53, [], .int .i64 x7⟩, ⟨54, [], .int .i64 x54⟩] a1 → Mem w.heap.size [] w Z [.own (tyInt .u8) 5 aox12v capx12v x12v, .own tySender 75 aox6 capx6 zaox6v] Z w1 → KJ233 a1 w1 := by
      rintro x12v zaox6v aox12v capx12v hI240 a236 wd237 hF238 hM239; clear hF230 hM221
      refine hKJ234 _ _ ?_; clear hKJ234
      have hp241 := hp232 x12v zaox6v hI240
      refine rgH ?_; intro hQ242Q hQ242
      refine s1 hF238 123 (.int .i64 (w64 (x54 + 1))) ?_; intro a243 hF244; clear hF238
      refine s1 hF244 54 (.int .i64 (w64 (x54 + 1))) ?_; intro a245 hF246; clear hF244
      refine nlH (hQ242 _ _ ?_); clear hQ242 hQ242Q
      refine rd ?_
      exact ⟨⟨x12v, w64 (x54 + 1), zaox6v, aox12v, capx12v⟩, hp241.1, hp241.2, (hF246.region (by kernel_rfl) (by kernel_rfl)).anyβ _ (by kernel_rfl), hM239.keep (List.Sublist.cons_cons _ (List.Sublist.cons_cons _ (List.Sublist.slnil)))⟩
     refine wp_block ?_
     refine sqH ?_; intro hQ247Q hQ247
     refine s1 hF230 56 (.int .i64 x54) ?_; intro a248 hF249; clear hF230
     refine s1 hF249 13 (.int .i64 x54) ?_; intro a250 hF251; clear hF249
     refine nlH (hQ247 _ _ ?_); clear hQ247 hQ247Q
     refine sqH ?_; intro hQ252Q hQ252
     refine s1 hF251 14 (.int .u8 49) ?_; intro a253 hF254; clear hF251
     refine s1 hF254 15 (.bool false) ?_; intro a255 hF256; clear hF254
     refine nlH (hQ252 _ _ ?_); clear hQ252 hQ252Q
     refine wp_seq ?_
     refine sqH ?_; intro hQ257Q hQ257
     refine s1 hF256 57 (.slice aox6 zaox6.length capx6) ?_; intro a258 hF259; clear hF256
     refine s1 hF259 58 (.int .i64 (zaox6.length : Int)) ?_; intro a260 hF261; clear hF259
     refine s1 hF261 59 (.int .i64 0) ?_; intro a262 hF263; clear hF261
     refine nlH (hQ257 _ _ ?_); clear hQ257 hQ257Q
     refine wp_block ?_
     have hF264 : Fr 149 [] [⟨4, [], .slice none 0 0⟩, ⟨6, [], .slice aox6 zaox6.length capx6⟩, ⟨12, [], .slice aox12 x12.length capx12⟩, ⟨13, [], .int .i64 x54⟩, ⟨14, [], .int .u8 49⟩, ⟨15, [], .bool false⟩, ⟨53, [], .int .i64 x7⟩, ⟨54, [], .int .i64 x54⟩, ⟨57, [], .slice aox6 zaox6.length capx6⟩, ⟨58, [], .int .i64 (zaox6.length : Int)⟩, ⟨59, [], .int .i64 0⟩] a262 := hF263.region (by kernel_rfl) (by kernel_rfl); clear hF263
     have hF266 : Fr 149 [] [⟨4, [], .slice none 0 0⟩, ⟨6, [], .slice aox6 zaox6.length capx6⟩, ⟨12, [], .slice aox12 x12.length capx12⟩, ⟨13, [], .int .i64 x54⟩, ⟨14, [], .int .u8 49⟩, ⟨15, [], .bool false⟩, ⟨53, [], .int .i64 x7⟩, ⟨54, [], .int .i64 x54⟩, ⟨57, [], .slice aox6 zaox6.length capx6⟩, ⟨58, [], .int .i64 (zaox6.length : Int)⟩, ⟨59, [], .int .i64 0⟩] a262 := hF264.region (by kernel_rfl) (by kernel_rfl); clear hF264
     obtain ⟨inv265, mu265, hI269, hr268⟩ := hp231
     refine lp (ι := Int × Bool × Int) (fun (s : Int × Bool × Int) => [⟨4, [], .slice none 0 0⟩, ⟨6, [], .slice aox6 zaox6.length capx6⟩, ⟨12, [], .slice aox12 x12.length capx12⟩, ⟨13, [], .int .i64 x54⟩, ⟨14, [], .int .u8 s.1⟩, ⟨15, [], .bool s.2.1⟩, ⟨53, [], .int .i64 x7⟩, ⟨54, [], .int .i64 x54⟩, ⟨57, [], .slice aox6 zaox6.length capx6⟩, ⟨58, [], .int .i64 (zaox6.length : Int)⟩, ⟨59, [], .int .i64 s.2.2⟩]) (fun (s : Int × Bool × Int) => [.own (tyInt .u8) 5 aox12 capx12 x12, .own tySender 75 aox6 capx6 zaox6]) (fun (s : Int × Bool × Int) => Z) (fun (s : Int × Bool × Int) => inv265 s.1 s.2.1 s.2.2) (fun (s : Int × Bool × Int) => mu265 s.1 s.2.1 s.2.2) ⟨49, false, 0⟩ hI269 (by exact hF266.region (by kernel_rfl) (by kernel_rfl)) (by exact hM221) ?_
     rintro ⟨x14, x15, x59⟩ hI267 a271 wd272 hF273 hM274
     have hF275 : Fr 149 [] [⟨4, [], .slice none 0 0⟩, ⟨6, [], .slice aox6 zaox6.length capx6⟩, ⟨12, [], .slice aox12 x12.length capx12⟩, ⟨13, [], .int .i64 x54⟩, ⟨14, [], .int .u8 x14⟩, ⟨15, [], .bool x15⟩, ⟨53, [], .int .i64 x7⟩, ⟨54, [], .int .i64 x54⟩, ⟨57, [], .slice aox6 zaox6.length capx6⟩, ⟨58, [], .int .i64 (zaox6.length : Int)⟩, ⟨59, [], .int .i64 x59⟩] a271 := hF273; clear hF273 hF266
     have hM276 : Mem w.heap.size [] w Z [.own (tyInt .u8) 5 aox12 capx12 x12, .own tySender 75 aox6 capx6 zaox6] Z wd272 := hM274; clear hM274 hM221
     have hp277 := hr268 x14 x15 x59 hI267
     refine sqH ?_; intro hQ278Q hQ278
     refine s1 hF275 60 (.bool (decide (x59 < (zaox6.length : Int)))) ?_; intro a279 hF280; clear hF275
     refine nlH (hQ278 _ _ ?_); clear hQ278 hQ278Q
     refine wp_seq ?_
     refine cd hF280 (t := decide (x59 < (zaox6.length : Int))) (by kernel_rfl) (fun hb281 => ?_) (fun hb281 => ?_)
     · -- yes
      have hp282 := hp277.1 hb281; clear hp277
      refine wp_skip ?_
      refine thn ?_
      have hF283 : Fr 149 [] [⟨4, [], .slice none 0 0⟩, ⟨6, [], .slice aox6 zaox6.length capx6⟩, ⟨12, [], .slice aox12 x12.length capx12⟩, ⟨13, [], .int .i64 x54⟩, ⟨14, [], .int .u8 x14⟩, ⟨15, [], .bool x15⟩, ⟨53, [], .int .i64 x7⟩, ⟨54, [], .int .i64 x54⟩, ⟨57, [], .slice aox6 zaox6.length capx6⟩, ⟨58, [], .int .i64 (zaox6.length : Int)⟩, ⟨59, [], .int .i64 x59⟩] a279 := hF280.region (by kernel_rfl) (by kernel_rfl); clear hF280
      have hF285 : Fr 149 [] [⟨4, [], .slice none 0 0⟩, ⟨6, [], .slice aox6 zaox6.length capx6⟩, ⟨12, [], .slice aox12 x12.length capx12⟩, ⟨13, [], .int .i64 x54⟩, ⟨14, [], .int .u8 x14⟩, ⟨15, [], .bool x15⟩, ⟨53, [], .int .i64 x7⟩, ⟨54, [], .int .i64 x54⟩, ⟨57, [], .slice aox6 zaox6.length capx6⟩, ⟨58, [], .int .i64 (zaox6.length : Int)⟩, ⟨59, [], .int .i64 x59⟩] a279 := hF283.region (by kernel_rfl) (by kernel_rfl); clear hF283
      obtain ⟨inv284, hp286, hp287⟩ := hp282
      refine wp_seq_k fun KJ288 hKJ289 => ?_
      have hJ290 : ∀ (x14v : Int) (x15v : Bool), inv284 x14v x15v → ∀ a1 w1, Fr 149 [] [⟨4, [], .slice none 0 0⟩, ⟨6, [], .slice aox6 zaox6.length capx6⟩, ⟨12, [], .slice aox12 x12.length capx12⟩, ⟨13, [], .int .i64 x54⟩, ⟨14, [], .int .u8 x14v⟩, ⟨15, [], .bool x15v⟩, ⟨53, [], .int .i64 x7⟩, ⟨54, [], .int .i64 x54⟩, ⟨57, [], .slice aox6 zaox6.length capx6⟩, ⟨58, [], .int .i64 (zaox6.length : Int)⟩, ⟨59, [], .int .i64 x59⟩] a1 → Mem w.heap.size [] w Z [.own (tyInt .u8) 5 aox12 capx12 x12, .own tySender 75 aox6 capx6 zaox6] Z w1 → KJ288 a1 w1 := by
       rintro x14v x15v hI295 a291 wd292 hF293 hM294; clear hF285 hM276
       refine hKJ289 _ _ ?_; clear hKJ289
       have hp296 := hp287 x14v x15v hI295
       refine rgH ?_; intro hQ297Q hQ297
       refine s1 hF293 79 (.int .i64 (w64 (x59 + 1))) ?_; intro a298 hF299; clear hF293
       refine s1 hF299 59 (.int .i64 (w64 (x59 + 1))) ?_; intro a300 hF301; clear hF299
       refine nlH (hQ297 _ _ ?_); clear hQ297 hQ297Q
       refine rd ?_
       exact ⟨⟨x14v, x15v, w64 (x59 + 1)⟩, hp296.1, hp296.2, (hF301.region (by kernel_rfl) (by kernel_rfl)).anyβ _ (by kernel_rfl), hM294.keep (List.Sublist.cons_cons _ (List.Sublist.cons_cons _ (List.Sublist.slnil)))⟩
      refine wp_block ?_
      refine sqH ?_; intro hQ302Q hQ302
      have hc303 := hp286.1; have hp304 := hp286.2; clear hp286
      refine ixo hF285 hM276 1 (T := tySender) (xs := zaox6) x59 hc303 (k := .i64) (e := 75) (bytes := 24) (nog rfl _) rfl (by kernel_rfl) rfl (by kernel_rfl) (by kernel_rfl) rfl (by kernel_rfl) ?_; intro g305 a307 hg306 hF308; clear hF285
      subst hg306
      have hF309 : Fr 149 [] [⟨4, [], .slice none 0 0⟩, ⟨6, [], .slice (some ⟨g305, 0, none⟩) zaox6.length capx6⟩, ⟨12, [], .slice aox12 x12.length capx12⟩, ⟨13, [], .int .i64 x54⟩, ⟨14, [], .int .u8 x14⟩, ⟨15, [], .bool x15⟩, ⟨53, [], .int .i64 x7⟩, ⟨54, [], .int .i64 x54⟩, ⟨57, [], .slice (some ⟨g305, 0, none⟩) zaox6.length capx6⟩, ⟨58, [], .int .i64 (zaox6.length : Int)⟩, ⟨59, [], .int .i64 x59⟩, ⟨61, [], .pointer (some ⟨g305, x59.toNat * 2, none⟩)⟩] a307 := hF308.region (by kernel_rfl) (by kernel_rfl); clear hF308
      have hM310 : Mem w.heap.size [] w Z [.own (tyInt .u8) 5 aox12 capx12 x12, .own tySender 75 (some ⟨g305, 0, none⟩) capx6 zaox6] Z wd272 := hM276; clear hM276
      obtain ⟨q311, hq312⟩ : ∃ q, zaox6[x59.toNat]? = some q := ⟨_, List.getElem?_eq_getElem (by first | omega | (simp only [List.length_set] at *; omega))⟩; have hp313 := hp304 q311 hq312; clear hp304
      obtain ⟨cs314, hT315, hcl316⟩ := own_el hM310 1 (T := tySender) (xs := zaox6) rfl x59.toNat hq312
      obtain rfl : cs314 = ([str q311.row, .int .i64 q311.lost] : List Value) := hT315
      refine lc2 hF309 62 2 [str q311.row, .int .i64 q311.lost] hcl316 rfl ?_; intro a317 hF318; clear hF309
      refine sn hF318 hM310 (fun b => .pointer (some ⟨b, 0, none⟩)) [str [], .int .i64 0] 75 (nog rfl _) rfl (by kernel_rfl) (by kernel_rfl) ?_; intro b319 a320 wd322 hF321 hM323; clear hF318 hM310
      refine sr hF321 hM323 0 [str q311.row, .int .i64 q311.lost] (b := b319) (off := 0) (cs := [str [], .int .i64 0]) (ty := 75) (u := .agg #[str q311.row, .int .i64 q311.lost]) (nog rfl _) rfl rfl (by kernel_rfl) (by kernel_rfl) (by kernel_rfl) (by kernel_rfl) (by kernel_rfl) (by kernel_rfl) (by kernel_rfl) ?_; intro wd324 hM325; clear hM323
      have hM326 : Mem w.heap.size [] w Z [.row b319 [str q311.row, .int .i64 q311.lost] 75, .own (tyInt .u8) 5 aox12 capx12 x12, .own tySender 75 (some ⟨g305, 0, none⟩) capx6 zaox6] Z wd324 := hM325; clear hM325
      refine nlH (hQ302 _ _ ?_); clear hQ302 hQ302Q
      refine sqH ?_; intro hQ327Q hQ327
      refine s1 hF321 63 (.pointer (some ⟨b319, 1, none⟩)) ?_; intro a328 hF329; clear hF321
      refine l1 hF329 hM326 64 0 1 (.int .i64 q311.lost) rfl rfl ?_; intro a330 hF331; clear hF329
      refine s1 hF331 65 (.bool (decide (q311.lost < 0))) ?_; intro a332 hF333; clear hF331
      refine s1 hF333 66 (.bool (decide (q311.lost < 0))) ?_; intro a334 hF335; clear hF333
      have hF336 := hF335.atom ((decide (q311.lost < 0)) == true) (by kernel_rfl); clear hF335
      refine gp hF336 67 0 [] (decide (q311.lost < 0)) (.int .i64 x54) rfl rfl ?_; intro a337 hF338; clear hF336
      refine gp hF338 68 0 [] (decide (q311.lost < 0)) (.pointer (some ⟨b319, 0, none⟩)) rfl rfl ?_; intro a339 hF340; clear hF338
      refine gd hF340 (str q311.row) (m := 0) (cj := []) (bj := decide (q311.lost < 0)) rfl rfl (by kernel_rfl) rfl (by kernel_rfl) (by kernel_rfl) (by kernel_rfl) (fun hg => ld hF340 hM326 0 (g := [0]) (b := b319) (off := 0) (cs := [str q311.row, .int .i64 q311.lost]) (ty := 75) rfl (by kernel_rfl) (by kernel_rfl) (by kernel_rfl) (by kernel_rfl) hg) ?_; intro a341 hF342; clear hF340
      refine gp hF342 70 0 [] (decide (q311.lost < 0)) (.int .i64 (q311.row.length : Int)) rfl rfl ?_; intro a343 hF344; clear hF342
      refine gp hF344 71 0 [] (decide (q311.lost < 0)) (.bool (decide (x54 < (q311.row.length : Int)))) rfl rfl ?_; intro a345 hF346; clear hF344
      refine st hF346 (.bool ((decide (q311.lost < 0)) && (decide (x54 < (q311.row.length : Int))))) (nog rfl _) rfl (by kernel_rfl) (pk_and hF346 (g := []) (m := 0) (b := decide (q311.lost < 0)) (v := decide (x54 < (q311.row.length : Int))) rfl (by kernel_rfl) (by kernel_rfl) (by kernel_rfl) rfl) ?_; intro a347 hF348; clear hF346
      refine nlH (hQ327 _ _ ?_); clear hQ327 hQ327Q
      refine cd hF348 (t := (decide (q311.lost < 0)) && (decide (x54 < (q311.row.length : Int)))) (by kernel_rfl) (fun hb349 => ?_) (fun hb349 => ?_)
      · -- yes
       have hp350 := hp313.1 hb349; clear hp313
       have hF351 : Fr 149 [] [⟨4, [], .slice none 0 0⟩, ⟨6, [], .slice (some ⟨g305, 0, none⟩) zaox6.length capx6⟩, ⟨12, [], .slice aox12 x12.length capx12⟩, ⟨13, [], .int .i64 x54⟩, ⟨14, [], .int .u8 x14⟩, ⟨17, [], .pointer (some ⟨b319, 0, none⟩)⟩, ⟨53, [], .int .i64 x7⟩, ⟨54, [], .int .i64 x54⟩, ⟨57, [], .slice (some ⟨g305, 0, none⟩) zaox6.length capx6⟩, ⟨58, [], .int .i64 (zaox6.length : Int)⟩, ⟨59, [], .int .i64 x59⟩] a347 := hF348.region (by kernel_rfl) (by kernel_rfl); clear hF348
       refine rgH ?_; intro hQ352Q hQ352
       refine s1 hF351 73 (.int .u8 x14) ?_; intro a353 hF354; clear hF351
       refine s1 hF354 74 (.pointer (some ⟨b319, 0, none⟩)) ?_; intro a355 hF356; clear hF354
       refine l1 hF356 hM326 75 0 0 (str q311.row) rfl rfl ?_; intro a357 hF358; clear hF356
       refine s1 hF358 76 (.int .i64 x54) ?_; intro a359 hF360; clear hF358
       have hc361 := hp350.1; have hp362 := hp350.2; clear hp350
       obtain ⟨c363, hq364⟩ : ∃ q, q311.row[x54.toNat]? = some q := ⟨_, List.getElem?_eq_getElem (by omega)⟩; have hp365 := hp362 c363 hq364
       refine st hF360 (.int .u8 (c363.toNat : Int)) (nog rfl _) rfl (by kernel_rfl) (stridx_run hF360 (k := .i64) rfl (by kernel_rfl) (by kernel_rfl) (by kernel_rfl) hc361.1 hq364) ?_; intro a366 hF367; clear hF360
       refine st hF367 (.int .u8 (min x14 (c363.toNat : Int))) (nog rfl _) rfl (by kernel_rfl) (re_ (p0 hF367 (r := .ok (.value (.int .u8 (if (c363.toNat : Int) < x14 then (c363.toNat : Int) else x14))) wd324) (by kernel_rfl)) (by rw [imin])) ?_; intro a368 hF369; clear hF367
       refine s1 hF369 14 (.int .u8 (min x14 (c363.toNat : Int))) ?_; intro a370 hF371; clear hF369
       refine s1 hF371 15 (.bool true) ?_; intro a372 hF373; clear hF371
       refine nlH (hQ352 _ _ ?_); clear hQ352 hQ352Q
       refine ibn ?_
       refine rd ?_
       exact hJ290 (min x14 (c363.toNat : Int)) true hp365 _ _ ((hF373.region (by kernel_rfl) (by kernel_rfl)).anyβ _ (by kernel_rfl)) (hM326.keep (List.Sublist.cons _ (List.Sublist.cons_cons _ (List.Sublist.cons_cons _ (List.Sublist.slnil)))))
      · -- no
       have hp374 := hp313.2 hb349; clear hp313
       refine wp_skip ?_
       refine ibn ?_
       refine rd ?_
       exact hJ290 x14 x15 hp374 _ _ ((hF348.region (by kernel_rfl) (by kernel_rfl)).anyβ _ (by kernel_rfl)) (hM326.keep (List.Sublist.cons _ (List.Sublist.cons_cons _ (List.Sublist.cons_cons _ (List.Sublist.slnil)))))
     · -- no
      have hp375 := hp277.2 hb281; clear hp277
      refine wp_exit ?_
      refine thx ?_
      refine thx ?_
      refine ibx ?_
      refine thn ?_
      refine wp_seq ?_
      refine sqH ?_; intro hQ376Q hQ376
      refine s1 hF280 80 (.bool x15) ?_; intro a377 hF378; clear hF280
      refine s1 hF378 81 (.bool (!x15)) ?_; intro a379 hF380; clear hF378
      refine nlH (hQ376 _ _ ?_); clear hQ376 hQ376Q
      refine cd hF380 (t := !x15) (by kernel_rfl) (fun hb381 => ?_) (fun hb381 => ?_)
      · -- yes
       have hp382 := hp375.1 hb381; clear hp375
       refine wp_exit ?_
       refine thx ?_
       refine ibo (by decide) ?_
       refine thx ?_
       refine thx ?_
       refine ibx ?_
       refine thn ?_
       refine sqH ?_; intro hQ383Q hQ383
       refine s1 hF380 3 (.int .i64 (-1)) ?_; intro a384 hF385; clear hF380
       refine nlH (hQ383 _ _ ?_); clear hQ383 hQ383Q
       refine wp_seq ?_
       refine sqH ?_; intro hQ386Q hQ386
       refine s1 hF385 124 (.slice aox6 zaox6.length capx6) ?_; intro a387 hF388; clear hF385
       refine s1 hF388 125 (.int .i64 (zaox6.length : Int)) ?_; intro a389 hF390; clear hF388
       refine s1 hF390 126 (.int .i64 0) ?_; intro a391 hF392; clear hF390
       refine nlH (hQ386 _ _ ?_); clear hQ386 hQ386Q
       refine wp_block ?_
       have hF393 : Fr 149 [] [⟨3, [], .int .i64 (-1)⟩, ⟨4, [], .slice none 0 0⟩, ⟨12, [], .slice aox12 x12.length capx12⟩, ⟨124, [], .slice aox6 zaox6.length capx6⟩, ⟨125, [], .int .i64 (zaox6.length : Int)⟩, ⟨126, [], .int .i64 0⟩] a391 := hF392.region (by kernel_rfl) (by kernel_rfl); clear hF392
       have hM395 : Mem w.heap.size [] w Z [.own (tyInt .i64) 3 none 0 ([] : List Int), .own (tyInt .u8) 5 aox12 capx12 x12, .own tySender 75 aox6 capx6 zaox6] Z wd272 := hM276.addNil (tyInt .i64) 3 (by decide); clear hM276
       have hF396 : Fr 149 [] [⟨3, [], .int .i64 (-1)⟩, ⟨4, [], .slice none ([] : List Int).length 0⟩, ⟨12, [], .slice aox12 x12.length capx12⟩, ⟨124, [], .slice aox6 zaox6.length capx6⟩, ⟨125, [], .int .i64 (zaox6.length : Int)⟩, ⟨126, [], .int .i64 0⟩] a391 := hF393.region (by kernel_rfl) (by kernel_rfl); clear hF393
       obtain ⟨inv394, mu394, hI399, hr398⟩ := hp382
       refine lp (ι := Int × (List Int) × Int × (Option Addr) × Nat) (fun (s : Int × (List Int) × Int × (Option Addr) × Nat) => [⟨3, [], .int .i64 s.1⟩, ⟨4, [], .slice s.2.2.2.1 s.2.1.length s.2.2.2.2⟩, ⟨12, [], .slice aox12 x12.length capx12⟩, ⟨124, [], .slice aox6 zaox6.length capx6⟩, ⟨125, [], .int .i64 (zaox6.length : Int)⟩, ⟨126, [], .int .i64 s.2.2.1⟩]) (fun (s : Int × (List Int) × Int × (Option Addr) × Nat) => [.own (tyInt .i64) 3 s.2.2.2.1 s.2.2.2.2 s.2.1, .own (tyInt .u8) 5 aox12 capx12 x12, .own tySender 75 aox6 capx6 zaox6]) (fun (s : Int × (List Int) × Int × (Option Addr) × Nat) => Z) (fun (s : Int × (List Int) × Int × (Option Addr) × Nat) => inv394 s.1 s.2.1 s.2.2.1) (fun (s : Int × (List Int) × Int × (Option Addr) × Nat) => mu394 s.1 s.2.1 s.2.2.1) ⟨-1, ([] : List Int), 0, none, 0⟩ hI399 (by exact hF396.region (by kernel_rfl) (by kernel_rfl)) (by exact hM395) ?_
       rintro ⟨x3, x4v, x126, aox4v, capx4v⟩ hI397 a401 wd402 hF403 hM404
       have hF405 : Fr 149 [] [⟨3, [], .int .i64 x3⟩, ⟨4, [], .slice aox4v x4v.length capx4v⟩, ⟨12, [], .slice aox12 x12.length capx12⟩, ⟨124, [], .slice aox6 zaox6.length capx6⟩, ⟨125, [], .int .i64 (zaox6.length : Int)⟩, ⟨126, [], .int .i64 x126⟩] a401 := hF403; clear hF403 hF396
       have hM406 : Mem w.heap.size [] w Z [.own (tyInt .i64) 3 aox4v capx4v x4v, .own (tyInt .u8) 5 aox12 capx12 x12, .own tySender 75 aox6 capx6 zaox6] Z wd402 := hM404; clear hM404 hM395
       have hp407 := hr398 x3 x4v x126 hI397
       refine sqH ?_; intro hQ408Q hQ408
       refine s1 hF405 127 (.bool (decide (x126 < (zaox6.length : Int)))) ?_; intro a409 hF410; clear hF405
       refine nlH (hQ408 _ _ ?_); clear hQ408 hQ408Q
       refine wp_seq ?_
       refine cd hF410 (t := decide (x126 < (zaox6.length : Int))) (by kernel_rfl) (fun hb411 => ?_) (fun hb411 => ?_)
       · -- yes
        have hp412 := hp407.1 hb411; clear hp407
        refine wp_skip ?_
        refine thn ?_
        refine wp_seq ?_
        refine wp_block ?_
        refine sqH ?_; intro hQ413Q hQ413
        refine s1 hF410 128 (.int .i64 x126) ?_; intro a414 hF415; clear hF410
        have hc416 := hp412.1; have hp417 := hp412.2; clear hp412
        refine ixo hF415 hM406 2 (T := tySender) (xs := zaox6) x126 hc416 (k := .i64) (e := 75) (bytes := 24) (nog rfl _) rfl (by kernel_rfl) rfl (by kernel_rfl) (by kernel_rfl) rfl (by kernel_rfl) ?_; intro g418 a420 hg419 hF421; clear hF415
        subst hg419
        have hF422 : Fr 149 [] [⟨3, [], .int .i64 x3⟩, ⟨4, [], .slice aox4v x4v.length capx4v⟩, ⟨12, [], .slice aox12 x12.length capx12⟩, ⟨124, [], .slice (some ⟨g418, 0, none⟩) zaox6.length capx6⟩, ⟨125, [], .int .i64 (zaox6.length : Int)⟩, ⟨126, [], .int .i64 x126⟩, ⟨127, [], .bool (decide (x126 < (zaox6.length : Int)))⟩, ⟨128, [], .int .i64 x126⟩, ⟨129, [], .pointer (some ⟨g418, x126.toNat * 2, none⟩)⟩] a420 := hF421.region (by kernel_rfl) (by kernel_rfl); clear hF421
        have hM423 : Mem w.heap.size [] w Z [.own (tyInt .i64) 3 aox4v capx4v x4v, .own (tyInt .u8) 5 aox12 capx12 x12, .own tySender 75 (some ⟨g418, 0, none⟩) capx6 zaox6] Z wd402 := hM406; clear hM406
        obtain ⟨q424, hq425⟩ : ∃ q, zaox6[x126.toNat]? = some q := ⟨_, List.getElem?_eq_getElem (by first | omega | (simp only [List.length_set] at *; omega))⟩; have hp426 := hp417 q424 hq425; clear hp417
        obtain ⟨cs427, hT428, hcl429⟩ := own_el hM423 2 (T := tySender) (xs := zaox6) rfl x126.toNat hq425
        obtain rfl : cs427 = ([str q424.row, .int .i64 q424.lost] : List Value) := hT428
        refine lc2 hF422 130 2 [str q424.row, .int .i64 q424.lost] hcl429 rfl ?_; intro a430 hF431; clear hF422
        refine sn hF431 hM423 (fun b => .pointer (some ⟨b, 0, none⟩)) [str [], .int .i64 0] 75 (nog rfl _) rfl (by kernel_rfl) (by kernel_rfl) ?_; intro b432 a433 wd435 hF434 hM436; clear hF431 hM423
        refine s1 hF434 20 (.int .i64 x126) ?_; intro a437 hF438; clear hF434
        refine sr hF438 hM436 0 [str q424.row, .int .i64 q424.lost] (b := b432) (off := 0) (cs := [str [], .int .i64 0]) (ty := 75) (u := .agg #[str q424.row, .int .i64 q424.lost]) (nog rfl _) rfl rfl (by kernel_rfl) (by kernel_rfl) (by kernel_rfl) (by kernel_rfl) (by kernel_rfl) (by kernel_rfl) (by kernel_rfl) ?_; intro wd439 hM440; clear hM436
        have hM441 : Mem w.heap.size [] w Z [.row b432 [str q424.row, .int .i64 q424.lost] 75, .own (tyInt .i64) 3 aox4v capx4v x4v, .own (tyInt .u8) 5 aox12 capx12 x12, .own tySender 75 (some ⟨g418, 0, none⟩) capx6 zaox6] Z wd439 := hM440; clear hM440
        refine nlH (hQ413 _ _ ?_); clear hQ413 hQ413Q
        have hF442 : Fr 149 [] [⟨3, [], .int .i64 x3⟩, ⟨4, [], .slice aox4v x4v.length capx4v⟩, ⟨12, [], .slice aox12 x12.length capx12⟩, ⟨20, [], .int .i64 x126⟩, ⟨21, [], .pointer (some ⟨b432, 0, none⟩)⟩, ⟨124, [], .slice (some ⟨g418, 0, none⟩) zaox6.length capx6⟩, ⟨125, [], .int .i64 (zaox6.length : Int)⟩, ⟨126, [], .int .i64 x126⟩] a437 := hF438.region (by kernel_rfl) (by kernel_rfl); clear hF438
        have hF444 : Fr 149 [] [⟨3, [], .int .i64 x3⟩, ⟨4, [], .slice aox4v x4v.length capx4v⟩, ⟨12, [], .slice aox12 x12.length capx12⟩, ⟨20, [], .int .i64 x126⟩, ⟨21, [], .pointer (some ⟨b432, 0, none⟩)⟩, ⟨124, [], .slice (some ⟨g418, 0, none⟩) zaox6.length capx6⟩, ⟨125, [], .int .i64 (zaox6.length : Int)⟩, ⟨126, [], .int .i64 x126⟩] a437 := hF442.region (by kernel_rfl) (by kernel_rfl); clear hF442
        obtain ⟨inv443, hp445, hp446⟩ := hp426
        refine wp_seq_k fun KJ447 hKJ448 => ?_
        have hJ449 : ∀ (x3v : Int) (x4vv : List Int) (aox4vv : Option Addr) (capx4vv : Nat), inv443 x3v x4vv → ∀ a1 w1, Fr 149 [] [⟨3, [], .int .i64 x3v⟩, ⟨4, [], .slice aox4vv x4vv.length capx4vv⟩, ⟨12, [], .slice aox12 x12.length capx12⟩, ⟨21, [], .pointer (some ⟨b432, 0, none⟩)⟩, ⟨124, [], .slice (some ⟨g418, 0, none⟩) zaox6.length capx6⟩, ⟨125, [], .int .i64 (zaox6.length : Int)⟩, ⟨126, [], .int .i64 x126⟩] a1 → Mem w.heap.size [] w Z [.row b432 [str q424.row, .int .i64 q424.lost] 75, .own (tyInt .i64) 3 aox4vv capx4vv x4vv, .own (tyInt .u8) 5 aox12 capx12 x12, .own tySender 75 (some ⟨g418, 0, none⟩) capx6 zaox6] Z w1 → KJ447 a1 w1 := by
         rintro x3v x4vv aox4vv capx4vv hI454 a450 wd451 hF452 hM453; clear hF444 hM441
         refine hKJ448 _ _ ?_; clear hKJ448
         have hp455 := hp446 x3v x4vv hI454
         refine rgH ?_; intro hQ456Q hQ456
         refine s1 hF452 139 (.slice aox4vv x4vv.length capx4vv) ?_; intro a457 hF458; clear hF452
         refine s1 hF458 140 (.pointer (some ⟨b432, 1, none⟩)) ?_; intro a459 hF460; clear hF458
         refine l1 hF460 hM453 141 0 1 (.int .i64 q424.lost) rfl rfl ?_; intro a461 hF462; clear hF460
         refine sn hF462 hM453 (fun b => .slice (some ⟨b, 0, none⟩) 1 1) [.int .i64 q424.lost] 3 (nog rfl _) rfl (by kernel_rfl) (by kernel_rfl) ?_; intro b463 a464 wd466 hF465 hM467; clear hF462 hM453
         have hc468 := hp455.1; have hp469 := hp455.2; clear hp455
         refine ap hF465 hM467 2 (T := (tyInt .i64)) (xs := x4vv) (ys := [q424.lost]) (ao := aox4vv) (cap := capx4vv) (ao2 := (some ⟨b463, 0, none⟩)) (cap2 := 1) (t := 39) (e := 3) (bytes := 8) (nog rfl _) rfl (by kernel_rfl) rfl (by kernel_rfl) (by kernel_rfl) (by kernel_rfl) rfl (Src.row hM467 0 rfl (RepAll.one (T := (tyInt .i64)) (x := q424.lost) rfl)) hc468 ?_; intro ao470 cap471 a475 wd472 hnil473 hF476 hM474; clear hF465 hM467
         have hM477 : Mem w.heap.size [] w Z [.row b463 [.int .i64 q424.lost] 3, .row b432 [str q424.row, .int .i64 q424.lost] 75, .own (tyInt .i64) 3 ao470 cap471 (x4vv ++ [q424.lost]), .own (tyInt .u8) 5 aox12 capx12 x12, .own tySender 75 (some ⟨g418, 0, none⟩) capx6 zaox6] Z wd472 := hM474; clear hM474
         refine s1 hF476 4 (.slice ao470 (x4vv ++ [q424.lost]).length cap471) ?_; intro a478 hF479; clear hF476
         refine nlH (hQ456 _ _ ?_); clear hQ456 hQ456Q
         refine ibn ?_
         refine thn ?_
         refine rgH ?_; intro hQ480Q hQ480
         refine s1 hF479 144 (.int .i64 (w64 (x126 + 1))) ?_; intro a481 hF482; clear hF479
         refine s1 hF482 126 (.int .i64 (w64 (x126 + 1))) ?_; intro a483 hF484; clear hF482
         refine nlH (hQ480 _ _ ?_); clear hQ480 hQ480Q
         refine rd ?_
         exact ⟨⟨x3v, x4vv ++ [q424.lost], w64 (x126 + 1), ao470, cap471⟩, hp469.1, hp469.2, (hF484.region (by kernel_rfl) (by kernel_rfl)).anyβ _ (by kernel_rfl), hM477.keep (List.Sublist.cons _ (List.Sublist.cons _ (List.Sublist.cons_cons _ (List.Sublist.cons_cons _ (List.Sublist.cons_cons _ (List.Sublist.slnil))))))⟩
        refine wp_block ?_
        refine sqH ?_; intro hQ485Q hQ485
        refine s1 hF444 133 (.pointer (some ⟨b432, 1, none⟩)) ?_; intro a486 hF487; clear hF444
        refine l1 hF487 hM441 134 0 1 (.int .i64 q424.lost) rfl rfl ?_; intro a488 hF489; clear hF487
        refine s1 hF489 135 (.bool (decide (q424.lost ≥ 0))) ?_; intro a490 hF491; clear hF489
        refine s1 hF491 132 (.bool (decide (q424.lost ≥ 0))) ?_; intro a492 hF493; clear hF491
        refine nlH (hQ485 _ _ ?_); clear hQ485 hQ485Q
        refine cd hF493 (t := decide (q424.lost ≥ 0)) (by kernel_rfl) (fun hb494 => ?_) (fun hb494 => ?_)
        · -- yes
         have hp495 := hp445.1 hb494; clear hp445
         refine wp_skip ?_
         refine ibn ?_
         refine rd ?_
         exact hJ449 x3 x4v aox4v capx4v hp495 _ _ ((hF493.region (by kernel_rfl) (by kernel_rfl)).anyβ _ (by kernel_rfl)) (hM441.keep (List.Sublist.cons_cons _ (List.Sublist.cons_cons _ (List.Sublist.cons_cons _ (List.Sublist.cons_cons _ (List.Sublist.slnil))))))
        · -- no
         have hp496 := hp445.2 hb494; clear hp445
         refine sqH ?_; intro hQ497Q hQ497
         refine s1 hF493 137 (.int .i64 x3) ?_; intro a498 hF499; clear hF493
         refine s1 hF499 138 (.bool (decide (x3 ≥ 0))) ?_; intro a500 hF501; clear hF499
         refine s1 hF501 136 (.bool (decide (x3 ≥ 0))) ?_; intro a502 hF503; clear hF501
         refine nlH (hQ497 _ _ ?_); clear hQ497 hQ497Q
         refine cd hF503 (t := decide (x3 ≥ 0)) (by kernel_rfl) (fun hb504 => ?_) (fun hb504 => ?_)
         · -- yes
          have hp505 := hp496.1 hb504; clear hp496
          refine sqH ?_; intro hQ506Q hQ506
          refine s1 hF503 2 (str []) ?_; intro a507 hF508; clear hF503
          refine s1 hF508 3 (.int .i64 0) ?_; intro a509 hF510; clear hF508
          refine s1 hF510 4 (.slice none 0 0) ?_; intro a511 hF512; clear hF510
          refine s1 hF512 5 (.int .i64 9) ?_; intro a513 hF514; clear hF512
          refine nlH (hQ506 _ _ ?_); clear hQ506 hQ506Q
          refine wp_ret ?_
          refine ibr ?_
          refine thr ?_
          refine ibr ?_
          refine thr ?_
          refine thr ?_
          refine ibr ?_
          refine thr ?_
          have hM515 : Mem w.heap.size [] w Z [.own (tyInt .i64) 3 none 0 ([] : List Int), .row b432 [str q424.row, .int .i64 q424.lost] 75, .own (tyInt .i64) 3 aox4v capx4v x4v, .own (tyInt .u8) 5 aox12 capx12 x12, .own tySender 75 (some ⟨g418, 0, none⟩) capx6 zaox6] Z wd439 := hM441.addNil (tyInt .i64) 3 (by decide); clear hM441
          refine rt (fn := Tryd.f18) (v := .tuple #[str [], .int .i64 0, .slice none ([] : List Int).length 0, .int .i64 9]) hF514 (re4 hF514 (fn := Tryd.f18) rfl (by kernel_rfl) (by kernel_rfl) (by kernel_rfl) (by kernel_rfl)) ?_
          exact ⟨([], 0, ([] : List Int), 9), none, 0, Z, rfl, hp505, hM515.keep (List.Sublist.cons_cons _ (List.Sublist.cons _ (List.Sublist.cons _ (List.Sublist.cons _ (List.Sublist.cons _ (List.Sublist.slnil))))))⟩
         · -- no
          have hp516 := hp496.2 hb504; clear hp496
          refine rgH ?_; intro hQ517Q hQ517
          refine s1 hF503 131 (.int .i64 x126) ?_; intro a518 hF519; clear hF503
          refine s1 hF519 3 (.int .i64 x126) ?_; intro a520 hF521; clear hF519
          refine nlH (hQ517 _ _ ?_); clear hQ517 hQ517Q
          refine ibn ?_
          refine rd ?_
          exact hJ449 x126 x4v aox4v capx4v hp516 _ _ ((hF521.region (by kernel_rfl) (by kernel_rfl)).anyβ _ (by kernel_rfl)) (hM441.keep (List.Sublist.cons_cons _ (List.Sublist.cons_cons _ (List.Sublist.cons_cons _ (List.Sublist.cons_cons _ (List.Sublist.slnil))))))
       · -- no
        have hp522 := hp407.2 hb411; clear hp407
        refine wp_exit ?_
        refine thx ?_
        refine thx ?_
        refine ibx ?_
        refine thn ?_
        refine sqH ?_; intro hQ523Q hQ523
        refine s1 hF410 145 (.slice aox12 x12.length capx12) ?_; intro a524 hF525; clear hF410
        refine st hF525 (str (bstr x12)) (nog rfl _) rfl (by kernel_rfl) ((by obtain ⟨Z9, hle9, hon9, hs9⟩ := hM406.lend 1 rfl; exact bstr_op hF525 (g := []) (e := 5) (ao := aox12) (cap := capx12) (xs := x12) rfl (by kernel_rfl) (by kernel_rfl) (by kernel_rfl) (by kernel_rfl)  hs9 hon9 rfl)) ?_; intro a526 hF527; clear hF525
        refine s1 hF527 147 (.int .i64 x3) ?_; intro a528 hF529; clear hF527
        refine s1 hF529 148 (.slice aox4v x4v.length capx4v) ?_; intro a530 hF531; clear hF529
        refine s1 hF531 2 (str (bstr x12)) ?_; intro a532 hF533; clear hF531
        refine s1 hF533 3 (.int .i64 x3) ?_; intro a534 hF535; clear hF533
        refine s1 hF535 4 (.slice aox4v x4v.length capx4v) ?_; intro a536 hF537; clear hF535
        refine s1 hF537 5 (.int .i64 0) ?_; intro a538 hF539; clear hF537
        refine nlH (hQ523 _ _ ?_); clear hQ523 hQ523Q
        refine wp_ret ?_
        refine rt (fn := Tryd.f18) (v := .tuple #[str (bstr x12), .int .i64 x3, .slice aox4v x4v.length capx4v, .int .i64 0]) hF539 (re4 hF539 (fn := Tryd.f18) rfl (by kernel_rfl) (by kernel_rfl) (by kernel_rfl) (by kernel_rfl)) ?_
        exact ⟨(bstr x12, x3, x4v, 0), aox4v, capx4v, Z, rfl, hp522, hM406.keep (List.Sublist.cons_cons _ (List.Sublist.cons _ (List.Sublist.cons _ (List.Sublist.slnil))))⟩
      · -- no
       have hp540 := hp375.2 hb381; clear hp375
       refine wp_skip ?_
       refine thn ?_
       refine sqH ?_; intro hQ541Q hQ541
       refine s1 hF380 82 (.slice aox12 x12.length capx12) ?_; intro a542 hF543; clear hF380
       refine s1 hF543 83 (.int .u8 x14) ?_; intro a544 hF545; clear hF543
       refine sn hF545 hM276 (fun b => .slice (some ⟨b, 0, none⟩) 1 1) [.int .u8 x14] 5 (nog rfl _) rfl (by kernel_rfl) (by kernel_rfl) ?_; intro b546 a547 wd549 hF548 hM550; clear hF545 hM276
       have hc551 := hp540.1; have hp552 := hp540.2; clear hp540
       refine ap hF548 hM550 1 (T := (tyInt .u8)) (xs := x12) (ys := [x14]) (ao := aox12) (cap := capx12) (ao2 := (some ⟨b546, 0, none⟩)) (cap2 := 1) (t := 22) (e := 5) (bytes := 1) (nog rfl _) rfl (by kernel_rfl) rfl (by kernel_rfl) (by kernel_rfl) (by kernel_rfl) rfl (Src.row hM550 0 rfl (RepAll.one (T := (tyInt .u8)) (x := x14) rfl)) hc551 ?_; intro ao553 cap554 a558 wd555 hnil556 hF559 hM557; clear hF548 hM550
       have hM560 : Mem w.heap.size [] w Z [.row b546 [.int .u8 x14] 5, .own (tyInt .u8) 5 ao553 cap554 (x12 ++ [x14]), .own tySender 75 aox6 capx6 zaox6] Z wd555 := hM557; clear hM557
       refine s1 hF559 12 (.slice ao553 (x12 ++ [x14]).length cap554) ?_; intro a561 hF562; clear hF559
       refine nlH (hQ541 _ _ ?_); clear hQ541 hQ541Q
       refine sqH ?_; intro hQ563Q hQ563
       refine s1 hF562 86 (.slice aox6 zaox6.length capx6) ?_; intro a564 hF565; clear hF562
       refine s1 hF565 87 (.int .i64 (zaox6.length : Int)) ?_; intro a566 hF567; clear hF565
       refine s1 hF567 88 (.int .i64 0) ?_; intro a568 hF569; clear hF567
       refine nlH (hQ563 _ _ ?_); clear hQ563 hQ563Q
       refine wp_block ?_
       have hF570 : Fr 149 [] [⟨4, [], .slice none 0 0⟩, ⟨6, [], .slice aox6 zaox6.length capx6⟩, ⟨12, [], .slice ao553 (x12 ++ [x14]).length cap554⟩, ⟨13, [], .int .i64 x54⟩, ⟨14, [], .int .u8 x14⟩, ⟨53, [], .int .i64 x7⟩, ⟨54, [], .int .i64 x54⟩, ⟨87, [], .int .i64 (zaox6.length : Int)⟩, ⟨88, [], .int .i64 0⟩] a568 := hF569.region (by kernel_rfl) (by kernel_rfl); clear hF569
       have hF572 : Fr 149 [] [⟨4, [], .slice none 0 0⟩, ⟨6, [], .slice aox6 zaox6.length capx6⟩, ⟨12, [], .slice ao553 (x12 ++ [x14]).length cap554⟩, ⟨13, [], .int .i64 x54⟩, ⟨14, [], .int .u8 x14⟩, ⟨53, [], .int .i64 x7⟩, ⟨54, [], .int .i64 x54⟩, ⟨87, [], .int .i64 (zaox6.length : Int)⟩, ⟨88, [], .int .i64 0⟩] a568 := hF570.region (by kernel_rfl) (by kernel_rfl); clear hF570
       obtain ⟨inv571, mu571, hI575, hr574⟩ := hp552
       refine lp (ι := Int × (List Sender)) (fun (s : Int × (List Sender)) => [⟨4, [], .slice none 0 0⟩, ⟨6, [], .slice aox6 s.2.length capx6⟩, ⟨12, [], .slice ao553 (x12 ++ [x14]).length cap554⟩, ⟨13, [], .int .i64 x54⟩, ⟨14, [], .int .u8 x14⟩, ⟨53, [], .int .i64 x7⟩, ⟨54, [], .int .i64 x54⟩, ⟨87, [], .int .i64 (zaox6.length : Int)⟩, ⟨88, [], .int .i64 s.1⟩]) (fun (s : Int × (List Sender)) => [.row b546 [.int .u8 x14] 5, .own (tyInt .u8) 5 ao553 cap554 (x12 ++ [x14]), .own tySender 75 aox6 capx6 s.2]) (fun (s : Int × (List Sender)) => Z) (fun (s : Int × (List Sender)) => inv571 s.1 s.2) (fun (s : Int × (List Sender)) => mu571 s.1 s.2) ⟨0, zaox6⟩ hI575 (by exact hF572.region (by kernel_rfl) (by kernel_rfl)) (by exact hM560) ?_
       rintro ⟨x88, zaox6vv⟩ hI573 a577 wd578 hF579 hM580
       have hF581 : Fr 149 [] [⟨4, [], .slice none 0 0⟩, ⟨6, [], .slice aox6 zaox6vv.length capx6⟩, ⟨12, [], .slice ao553 (x12 ++ [x14]).length cap554⟩, ⟨13, [], .int .i64 x54⟩, ⟨14, [], .int .u8 x14⟩, ⟨53, [], .int .i64 x7⟩, ⟨54, [], .int .i64 x54⟩, ⟨87, [], .int .i64 (zaox6.length : Int)⟩, ⟨88, [], .int .i64 x88⟩] a577 := hF579; clear hF579 hF572
       have hM582 : Mem w.heap.size [] w Z [.row b546 [.int .u8 x14] 5, .own (tyInt .u8) 5 ao553 cap554 (x12 ++ [x14]), .own tySender 75 aox6 capx6 zaox6vv] Z wd578 := hM580; clear hM580 hM560
       have hp583 := hr574 x88 zaox6vv hI573
       refine sqH ?_; intro hQ584Q hQ584
       refine s1 hF581 89 (.bool (decide (x88 < (zaox6.length : Int)))) ?_; intro a585 hF586; clear hF581
       refine nlH (hQ584 _ _ ?_); clear hQ584 hQ584Q
       refine wp_seq ?_
       refine cd hF586 (t := decide (x88 < (zaox6.length : Int))) (by kernel_rfl) (fun hb587 => ?_) (fun hb587 => ?_)
       · -- yes
        have hp588 := hp583.1 hb587; clear hp583
        refine wp_skip ?_
        refine thn ?_
        have hF589 : Fr 149 [] [⟨4, [], .slice none 0 0⟩, ⟨6, [], .slice aox6 zaox6vv.length capx6⟩, ⟨12, [], .slice ao553 (x12 ++ [x14]).length cap554⟩, ⟨13, [], .int .i64 x54⟩, ⟨14, [], .int .u8 x14⟩, ⟨53, [], .int .i64 x7⟩, ⟨54, [], .int .i64 x54⟩, ⟨87, [], .int .i64 (zaox6.length : Int)⟩, ⟨88, [], .int .i64 x88⟩] a585 := hF586.region (by kernel_rfl) (by kernel_rfl); clear hF586
        have hF591 : Fr 149 [] [⟨4, [], .slice none 0 0⟩, ⟨6, [], .slice aox6 zaox6vv.length capx6⟩, ⟨12, [], .slice ao553 (x12 ++ [x14]).length cap554⟩, ⟨13, [], .int .i64 x54⟩, ⟨14, [], .int .u8 x14⟩, ⟨53, [], .int .i64 x7⟩, ⟨54, [], .int .i64 x54⟩, ⟨87, [], .int .i64 (zaox6.length : Int)⟩, ⟨88, [], .int .i64 x88⟩] a585 := hF589.region (by kernel_rfl) (by kernel_rfl); clear hF589
        obtain ⟨inv590, hp592, hp593⟩ := hp588
        refine wp_seq_k fun KJ594 hKJ595 => ?_
        have hJ596 : ∀ (zaox6vvv : List Sender), inv590 zaox6vvv → ∀ a1 w1, Fr 149 [] [⟨4, [], .slice none 0 0⟩, ⟨6, [], .slice aox6 zaox6vvv.length capx6⟩, ⟨12, [], .slice ao553 (x12 ++ [x14]).length cap554⟩, ⟨13, [], .int .i64 x54⟩, ⟨14, [], .int .u8 x14⟩, ⟨53, [], .int .i64 x7⟩, ⟨54, [], .int .i64 x54⟩, ⟨87, [], .int .i64 (zaox6.length : Int)⟩, ⟨88, [], .int .i64 x88⟩] a1 → Mem w.heap.size [] w Z [.row b546 [.int .u8 x14] 5, .own (tyInt .u8) 5 ao553 cap554 (x12 ++ [x14]), .own tySender 75 aox6 capx6 zaox6vvv] Z w1 → KJ594 a1 w1 := by
         rintro zaox6vvv hI601 a597 wd598 hF599 hM600; clear hF591 hM582
         refine hKJ595 _ _ ?_; clear hKJ595
         have hp602 := hp593 zaox6vvv hI601
         refine rgH ?_; intro hQ603Q hQ603
         refine s1 hF599 122 (.int .i64 (w64 (x88 + 1))) ?_; intro a604 hF605; clear hF599
         refine s1 hF605 88 (.int .i64 (w64 (x88 + 1))) ?_; intro a606 hF607; clear hF605
         refine nlH (hQ603 _ _ ?_); clear hQ603 hQ603Q
         refine rd ?_
         exact ⟨⟨w64 (x88 + 1), zaox6vvv⟩, hp602.1, hp602.2, (hF607.region (by kernel_rfl) (by kernel_rfl)).anyβ _ (by kernel_rfl), hM600.keep (List.Sublist.cons_cons _ (List.Sublist.cons_cons _ (List.Sublist.cons_cons _ (List.Sublist.slnil))))⟩
        refine wp_block ?_
        refine sqH ?_; intro hQ608Q hQ608
        refine s1 hF591 90 (.int .i64 x88) ?_; intro a609 hF610; clear hF591
        refine s1 hF610 18 (.int .i64 x88) ?_; intro a611 hF612; clear hF610
        refine nlH (hQ608 _ _ ?_); clear hQ608 hQ608Q
        refine sqH ?_; intro hQ613Q hQ613
        refine s1 hF612 91 (.slice aox6 zaox6vv.length capx6) ?_; intro a614 hF615; clear hF612
        refine s1 hF615 92 (.int .i64 x88) ?_; intro a616 hF617; clear hF615
        have hc618 := hp592.1; have hp619 := hp592.2; clear hp592
        refine ixo hF617 hM582 2 (T := tySender) (xs := zaox6vv) x88 hc618 (k := .i64) (e := 75) (bytes := 24) (nog rfl _) rfl (by kernel_rfl) rfl (by kernel_rfl) (by kernel_rfl) rfl (by kernel_rfl) ?_; intro g620 a622 hg621 hF623; clear hF617
        subst hg621
        have hF624 : Fr 149 [] [⟨4, [], .slice none 0 0⟩, ⟨6, [], .slice (some ⟨g620, 0, none⟩) zaox6vv.length capx6⟩, ⟨12, [], .slice ao553 (x12 ++ [x14]).length cap554⟩, ⟨13, [], .int .i64 x54⟩, ⟨14, [], .int .u8 x14⟩, ⟨18, [], .int .i64 x88⟩, ⟨53, [], .int .i64 x7⟩, ⟨54, [], .int .i64 x54⟩, ⟨87, [], .int .i64 (zaox6.length : Int)⟩, ⟨88, [], .int .i64 x88⟩, ⟨90, [], .int .i64 x88⟩, ⟨91, [], .slice (some ⟨g620, 0, none⟩) zaox6vv.length capx6⟩, ⟨92, [], .int .i64 x88⟩, ⟨93, [], .pointer (some ⟨g620, x88.toNat * 2, none⟩)⟩] a622 := hF623.region (by kernel_rfl) (by kernel_rfl); clear hF623
        have hM625 : Mem w.heap.size [] w Z [.row b546 [.int .u8 x14] 5, .own (tyInt .u8) 5 ao553 cap554 (x12 ++ [x14]), .own tySender 75 (some ⟨g620, 0, none⟩) capx6 zaox6vv] Z wd578 := hM582; clear hM582
        refine s1 hF624 19 (.pointer (some ⟨g620, x88.toNat * 2, none⟩)) ?_; intro a626 hF627; clear hF624
        refine nlH (hQ613 _ _ ?_); clear hQ613 hQ613Q
        refine sqH ?_; intro hQ628Q hQ628
        refine s1 hF627 94 (.pointer (some ⟨g620, x88.toNat * 2, none⟩)) ?_; intro a629 hF630; clear hF627
        refine s1 hF630 95 (.pointer (some ⟨g620, x88.toNat * 2, none⟩)) ?_; intro a631 hF632; clear hF630
        refine s1 hF632 96 (.pointer (some ⟨g620, x88.toNat * 2 + 1, none⟩)) ?_; intro a633 hF634; clear hF632
        obtain ⟨q635, hq636⟩ : ∃ q, zaox6vv[x88.toNat]? = some q := ⟨_, List.getElem?_eq_getElem (by first | omega | (simp only [List.length_set] at *; omega))⟩; have hp637 := hp619 q635 hq636; clear hp619
        obtain ⟨cs638, hT639, hcl640⟩ := own_el hM625 2 (T := tySender) (xs := zaox6vv) rfl x88.toNat hq636
        obtain rfl : cs638 = ([str q635.row, .int .i64 q635.lost] : List Value) := hT639
        refine lc1 hF634 97 (.int .i64 q635.lost) (hcl640 1 _ rfl) rfl ?_; intro a641 hF642; clear hF634
        refine s1 hF642 98 (.bool (decide (q635.lost < 0))) ?_; intro a643 hF644; clear hF642
        refine s1 hF644 99 (.bool (decide (q635.lost < 0))) ?_; intro a645 hF646; clear hF644
        have hF647 := hF646.atom ((decide (q635.lost < 0)) == true) (by kernel_rfl); clear hF646
        refine gp hF647 100 0 [] (decide (q635.lost < 0)) (.int .i64 x54) rfl rfl ?_; intro a648 hF649; clear hF647
        refine gp hF649 101 0 [] (decide (q635.lost < 0)) (.pointer (some ⟨g620, x88.toNat * 2, none⟩)) rfl rfl ?_; intro a650 hF651; clear hF649
        refine gp hF651 102 0 [] (decide (q635.lost < 0)) (.pointer (some ⟨g620, x88.toNat * 2, none⟩)) rfl rfl ?_; intro a652 hF653; clear hF651
        refine gp hF653 103 0 [] (decide (q635.lost < 0)) (.pointer (some ⟨g620, x88.toNat * 2 + 0, none⟩)) rfl rfl ?_; intro a654 hF655; clear hF653
        rcases Bool.eq_false_or_eq_true (decide (q635.lost < 0)) with hb656 | hb656
        · -- true
         have hp657 := hp637.1 hb656; clear hp637
         have hF658 := hF655.reval (d := 99) (c := []) (v := .bool (decide (q635.lost < 0))) (by kernel_rfl) (.bool true) (by rw [hb656]); clear hF655
         have hF659 := hF658.setc (d := 100) (c := [0]) (v := .int .i64 x54) (by kernel_rfl) (v' := .int .i64 x54) (by rw [hb656]; kernel_rfl); clear hF658
         have hF660 := hF659.setc (d := 101) (c := [0]) (v := .pointer (some ⟨g620, x88.toNat * 2, none⟩)) (by kernel_rfl) (v' := .pointer (some ⟨g620, x88.toNat * 2, none⟩)) (by rw [hb656]; kernel_rfl); clear hF659
         have hF661 := hF660.setc (d := 102) (c := [0]) (v := .pointer (some ⟨g620, x88.toNat * 2, none⟩)) (by kernel_rfl) (v' := .pointer (some ⟨g620, x88.toNat * 2, none⟩)) (by rw [hb656]; kernel_rfl); clear hF660
         have hF662 := hF661.setc (d := 103) (c := [0]) (v := .pointer (some ⟨g620, x88.toNat * 2 + 0, none⟩)) (by kernel_rfl) (v' := .pointer (some ⟨g620, x88.toNat * 2 + 0, none⟩)) (by rw [hb656]; kernel_rfl); clear hF661
         obtain ⟨q663, hq664⟩ : ∃ q, zaox6vv[x88.toNat]? = some q := ⟨_, List.getElem?_eq_getElem (by first | omega | (simp only [List.length_set] at *; omega))⟩; have hp665 := hp657 q663 hq664; clear hp657
         obtain ⟨cs666, hT667, hcl668⟩ := own_el hM625 2 (T := tySender) (xs := zaox6vv) rfl x88.toNat hq664
         obtain rfl : cs666 = ([str q663.row, .int .i64 q663.lost] : List Value) := hT667
         refine lc1 hF662 104 (str q663.row) (hcl668 0 _ rfl) rfl ?_ (hw := (by rw [wanted_of hF662 (b := true) rfl rfl (by kernel_rfl) (by kernel_rfl)]; rfl)); intro a669 hF670; clear hF662
         refine st hF670 (.int .i64 (q663.row.length : Int)) (by rw [wanted_of hF670 (b := true) rfl rfl (by kernel_rfl) (by kernel_rfl)]; rfl) rfl (by kernel_rfl) (p0 hF670 (by kernel_rfl)) ?_; intro a671 hF672; clear hF670
         refine st hF672 (.bool (decide (x54 < (q663.row.length : Int)))) (by rw [wanted_of hF672 (b := true) rfl rfl (by kernel_rfl) (by kernel_rfl)]; rfl) rfl (by kernel_rfl) (p0 hF672 (by kernel_rfl)) ?_; intro a673 hF674; clear hF672
         refine s1 hF674 107 (.bool (decide (x54 < (q663.row.length : Int)))) ?_; intro a675 hF676; clear hF674
         refine s1 hF676 108 (.bool (decide (x54 < (q663.row.length : Int)))) ?_; intro a677 hF678; clear hF676
         have hF679 := hF678.atom ((decide (x54 < (q663.row.length : Int))) == true) (by kernel_rfl); clear hF678
         refine gp hF679 109 1 [] (decide (x54 < (q663.row.length : Int))) (.pointer (some ⟨g620, x88.toNat * 2, none⟩)) rfl rfl ?_; intro a680 hF681; clear hF679
         refine gp hF681 110 1 [] (decide (x54 < (q663.row.length : Int))) (.pointer (some ⟨g620, x88.toNat * 2, none⟩)) rfl rfl ?_; intro a682 hF683; clear hF681
         refine gp hF683 111 1 [] (decide (x54 < (q663.row.length : Int))) (.pointer (some ⟨g620, x88.toNat * 2 + 0, none⟩)) rfl rfl ?_; intro a684 hF685; clear hF683
         rcases Bool.eq_false_or_eq_true (decide (x54 < (q663.row.length : Int))) with hb686 | hb686
         · -- true
          have hp687 := hp665.1 hb686; clear hp665
          have hF688 := hF685.reval (d := 108) (c := []) (v := .bool (decide (x54 < (q663.row.length : Int)))) (by kernel_rfl) (.bool true) (by rw [hb686]); clear hF685
          have hF689 := hF688.setc (d := 109) (c := [1]) (v := .pointer (some ⟨g620, x88.toNat * 2, none⟩)) (by kernel_rfl) (v' := .pointer (some ⟨g620, x88.toNat * 2, none⟩)) (by rw [hb686]; kernel_rfl); clear hF688
          have hF690 := hF689.setc (d := 110) (c := [1]) (v := .pointer (some ⟨g620, x88.toNat * 2, none⟩)) (by kernel_rfl) (v' := .pointer (some ⟨g620, x88.toNat * 2, none⟩)) (by rw [hb686]; kernel_rfl); clear hF689
          have hF691 := hF690.setc (d := 111) (c := [1]) (v := .pointer (some ⟨g620, x88.toNat * 2 + 0, none⟩)) (by kernel_rfl) (v' := .pointer (some ⟨g620, x88.toNat * 2 + 0, none⟩)) (by rw [hb686]; kernel_rfl); clear hF690
          obtain ⟨q692, hq693⟩ : ∃ q, zaox6vv[x88.toNat]? = some q := ⟨_, List.getElem?_eq_getElem (by first | omega | (simp only [List.length_set] at *; omega))⟩; have hp694 := hp687 q692 hq693; clear hp687
          obtain ⟨cs695, hT696, hcl697⟩ := own_el hM625 2 (T := tySender) (xs := zaox6vv) rfl x88.toNat hq693
          obtain rfl : cs695 = ([str q692.row, .int .i64 q692.lost] : List Value) := hT696
          refine lc1 hF691 112 (str q692.row) (hcl697 0 _ rfl) rfl ?_ (hw := (by rw [wanted_of hF691 (b := true) rfl rfl (by kernel_rfl) (by kernel_rfl)]; rfl)); intro a698 hF699; clear hF691
          refine st hF699 (.int .i64 x54) (by rw [wanted_of hF699 (b := true) rfl rfl (by kernel_rfl) (by kernel_rfl)]; rfl) rfl (by kernel_rfl) (p0 hF699 (by kernel_rfl)) ?_; intro a700 hF701; clear hF699
          have hc702 := hp694.1; have hp703 := hp694.2; clear hp694
          obtain ⟨c704, hq705⟩ : ∃ q, q692.row[x54.toNat]? = some q := ⟨_, List.getElem?_eq_getElem (by omega)⟩; have hp706 := hp703 c704 hq705
          refine st hF701 (.int .u8 (c704.toNat : Int)) (by rw [wanted_of hF701 (b := true) rfl rfl (by kernel_rfl) (by kernel_rfl)]; rfl) rfl (by kernel_rfl) (stridx_run hF701 (k := .i64) rfl (by kernel_rfl) (by kernel_rfl) (by kernel_rfl) hc702.1 hq705) ?_; intro a707 hF708; clear hF701
          refine st hF708 (.int .u8 x14) (by rw [wanted_of hF708 (b := true) rfl rfl (by kernel_rfl) (by kernel_rfl)]; rfl) rfl (by kernel_rfl) (p0 hF708 (by kernel_rfl)) ?_; intro a709 hF710; clear hF708
          refine st hF710 (.bool ((c704.toNat : Int) != x14)) (by rw [wanted_of hF710 (b := true) rfl rfl (by kernel_rfl) (by kernel_rfl)]; rfl) rfl (by kernel_rfl) (p0 hF710 (by kernel_rfl)) ?_; intro a711 hF712; clear hF710
          refine s1 hF712 117 (.bool ((c704.toNat : Int) != x14)) ?_; intro a713 hF714; clear hF712
          refine nlH (hQ628 _ _ ?_); clear hQ628 hQ628Q
          refine cd hF714 (t := (c704.toNat : Int) != x14) (by kernel_rfl) (fun hb715 => ?_) (fun hb715 => ?_)
          · -- yes
           have hp716 := hp706.1 hb715; clear hp706
           have hF717 : Fr 149 [] [⟨4, [], .slice none 0 0⟩, ⟨6, [], .slice (some ⟨g620, 0, none⟩) zaox6vv.length capx6⟩, ⟨12, [], .slice ao553 (x12 ++ [x14]).length cap554⟩, ⟨13, [], .int .i64 x54⟩, ⟨14, [], .int .u8 x14⟩, ⟨19, [], .pointer (some ⟨g620, x88.toNat * 2, none⟩)⟩, ⟨53, [], .int .i64 x7⟩, ⟨54, [], .int .i64 x54⟩, ⟨87, [], .int .i64 (zaox6.length : Int)⟩, ⟨88, [], .int .i64 x88⟩] a713 := hF714.region (by kernel_rfl) (by kernel_rfl); clear hF714
           refine rgH ?_; intro hQ718Q hQ718
           refine s1 hF717 118 (.pointer (some ⟨g620, x88.toNat * 2, none⟩)) ?_; intro a719 hF720; clear hF717
           refine s1 hF720 119 (.int .i64 x54) ?_; intro a721 hF722; clear hF720
           refine s1 hF722 120 (.pointer (some ⟨g620, x88.toNat * 2, none⟩)) ?_; intro a723 hF724; clear hF722
           refine s1 hF724 121 (.pointer (some ⟨g620, x88.toNat * 2 + 1, none⟩)) ?_; intro a725 hF726; clear hF724
           obtain ⟨q729, hq730⟩ : ∃ q, zaox6vv[x88.toNat]? = some q := ⟨_, List.getElem?_eq_getElem (by first | omega | (simp only [List.length_set] at *; omega))⟩; have hp731 := hp716 q729 hq730; clear hp716
           refine soP hF726 hM625 2 (T := tySender) (xs := zaox6vv) x88.toNat 1 q729 (⟨q729.row, x54⟩ : Sender) hq730 (u := .int .i64 x54) (nog rfl _) rfl rfl (by kernel_rfl) rfl (by kernel_rfl) rfl (by kernel_rfl) (by kernel_rfl) (by kernel_rfl) (fun cs9 hT9 => by obtain rfl : cs9 = ([str q729.row, .int .i64 q729.lost] : List Value) := hT9; exact rfl) ?_; intro wd727 hM728; clear hM625
           have hF732 : Fr 149 [] [⟨4, [], .slice none 0 0⟩, ⟨6, [], .slice (some ⟨g620, 0, none⟩) (zaox6vv.set x88.toNat (⟨q729.row, x54⟩ : Sender)).length capx6⟩, ⟨12, [], .slice ao553 (x12 ++ [x14]).length cap554⟩, ⟨13, [], .int .i64 x54⟩, ⟨14, [], .int .u8 x14⟩, ⟨19, [], .pointer (some ⟨g620, x88.toNat * 2, none⟩)⟩, ⟨53, [], .int .i64 x7⟩, ⟨54, [], .int .i64 x54⟩, ⟨87, [], .int .i64 (zaox6.length : Int)⟩, ⟨88, [], .int .i64 x88⟩, ⟨118, [], .pointer (some ⟨g620, x88.toNat * 2, none⟩)⟩, ⟨119, [], .int .i64 x54⟩, ⟨120, [], .pointer (some ⟨g620, x88.toNat * 2, none⟩)⟩, ⟨121, [], .pointer (some ⟨g620, x88.toNat * 2 + 1, none⟩)⟩] a725 := by (try simp only [List.length_set] at hF726); (try simp only [List.length_set]); exact hF726.region (by kernel_rfl) (by kernel_rfl)
           clear hF726
           have hM733 : Mem w.heap.size [] w Z [.row b546 [.int .u8 x14] 5, .own (tyInt .u8) 5 ao553 cap554 (x12 ++ [x14]), .own tySender 75 (some ⟨g620, 0, none⟩) capx6 (zaox6vv.set x88.toNat (⟨q729.row, x54⟩ : Sender))] Z wd727 := hM728; clear hM728
           refine nlH (hQ718 _ _ ?_); clear hQ718 hQ718Q
           refine ibn ?_
           refine rd ?_
           exact hJ596 (zaox6vv.set x88.toNat (⟨q729.row, x54⟩ : Sender)) hp731 _ _ ((hF732.region (by kernel_rfl) (by kernel_rfl)).anyβ _ (by kernel_rfl)) (hM733.keep (List.Sublist.cons_cons _ (List.Sublist.cons_cons _ (List.Sublist.cons_cons _ (List.Sublist.slnil)))))
          · -- no
           have hp734 := hp706.2 hb715; clear hp706
           refine wp_skip ?_
           refine ibn ?_
           refine rd ?_
           exact hJ596 zaox6vv hp734 _ _ ((hF714.region (by kernel_rfl) (by kernel_rfl)).anyβ _ (by kernel_rfl)) (hM625.keep (List.Sublist.cons_cons _ (List.Sublist.cons_cons _ (List.Sublist.cons_cons _ (List.Sublist.slnil)))))
         · -- false
          have hp735 := hp665.2 hb686; clear hp665
          have hF736 := hF685.reval (d := 108) (c := []) (v := .bool (decide (x54 < (q663.row.length : Int)))) (by kernel_rfl) (.bool false) (by rw [hb686]); clear hF685
          have hF737 := hF736.setc (d := 109) (c := [1]) (v := .pointer (some ⟨g620, x88.toNat * 2, none⟩)) (by kernel_rfl) (v' := undef) (by rw [hb686]; kernel_rfl); clear hF736
          have hF738 := hF737.setc (d := 110) (c := [1]) (v := .pointer (some ⟨g620, x88.toNat * 2, none⟩)) (by kernel_rfl) (v' := undef) (by rw [hb686]; kernel_rfl); clear hF737
          have hF739 := hF738.setc (d := 111) (c := [1]) (v := .pointer (some ⟨g620, x88.toNat * 2 + 0, none⟩)) (by kernel_rfl) (v' := undef) (by rw [hb686]; kernel_rfl); clear hF738
          refine sk hF739 (b := false) rfl rfl (by kernel_rfl) (by kernel_rfl) rfl rfl (by kernel_rfl) ?_; intro a740 hF741; clear hF739
          refine sk hF741 (b := false) rfl rfl (by kernel_rfl) (by kernel_rfl) rfl rfl (by kernel_rfl) ?_; intro a742 hF743; clear hF741
          refine sk hF743 (b := false) rfl rfl (by kernel_rfl) (by kernel_rfl) rfl rfl (by kernel_rfl) ?_; intro a744 hF745; clear hF743
          refine sk hF745 (b := false) rfl rfl (by kernel_rfl) (by kernel_rfl) rfl rfl (by kernel_rfl) ?_; intro a746 hF747; clear hF745
          refine sk hF747 (b := false) rfl rfl (by kernel_rfl) (by kernel_rfl) rfl rfl (by kernel_rfl) ?_; intro a748 hF749; clear hF747
          refine s1 hF749 117 (.bool false) ?_; intro a750 hF751; clear hF749
          refine nlH (hQ628 _ _ ?_); clear hQ628 hQ628Q
          refine cdF hF751 (by kernel_rfl) ?_
          refine wp_skip ?_
          refine ibn ?_
          refine rd ?_
          exact hJ596 zaox6vv hp735 _ _ ((hF751.region (by kernel_rfl) (by kernel_rfl)).anyβ _ (by kernel_rfl)) (hM625.keep (List.Sublist.cons_cons _ (List.Sublist.cons_cons _ (List.Sublist.cons_cons _ (List.Sublist.slnil)))))
        · -- false
         have hp752 := hp637.2 hb656; clear hp637
         have hF753 := hF655.reval (d := 99) (c := []) (v := .bool (decide (q635.lost < 0))) (by kernel_rfl) (.bool false) (by rw [hb656]); clear hF655
         have hF754 := hF753.setc (d := 100) (c := [0]) (v := .int .i64 x54) (by kernel_rfl) (v' := undef) (by rw [hb656]; kernel_rfl); clear hF753
         have hF755 := hF754.setc (d := 101) (c := [0]) (v := .pointer (some ⟨g620, x88.toNat * 2, none⟩)) (by kernel_rfl) (v' := undef) (by rw [hb656]; kernel_rfl); clear hF754
         have hF756 := hF755.setc (d := 102) (c := [0]) (v := .pointer (some ⟨g620, x88.toNat * 2, none⟩)) (by kernel_rfl) (v' := undef) (by rw [hb656]; kernel_rfl); clear hF755
         have hF757 := hF756.setc (d := 103) (c := [0]) (v := .pointer (some ⟨g620, x88.toNat * 2 + 0, none⟩)) (by kernel_rfl) (v' := undef) (by rw [hb656]; kernel_rfl); clear hF756
         refine sk hF757 (b := false) rfl rfl (by kernel_rfl) (by kernel_rfl) rfl rfl (by kernel_rfl) ?_; intro a758 hF759; clear hF757
         refine sk hF759 (b := false) rfl rfl (by kernel_rfl) (by kernel_rfl) rfl rfl (by kernel_rfl) ?_; intro a760 hF761; clear hF759
         refine sk hF761 (b := false) rfl rfl (by kernel_rfl) (by kernel_rfl) rfl rfl (by kernel_rfl) ?_; intro a762 hF763; clear hF761
         refine s1 hF763 107 (.bool false) ?_; intro a764 hF765; clear hF763
         refine s1 hF765 108 (.bool false) ?_; intro a766 hF767; clear hF765
         refine sk hF767 (b := false) rfl rfl (by kernel_rfl) (by kernel_rfl) rfl rfl (by kernel_rfl) ?_; intro a768 hF769; clear hF767
         refine sk hF769 (b := false) rfl rfl (by kernel_rfl) (by kernel_rfl) rfl rfl (by kernel_rfl) ?_; intro a770 hF771; clear hF769
         refine sk hF771 (b := false) rfl rfl (by kernel_rfl) (by kernel_rfl) rfl rfl (by kernel_rfl) ?_; intro a772 hF773; clear hF771
         refine sk hF773 (b := false) rfl rfl (by kernel_rfl) (by kernel_rfl) rfl rfl (by kernel_rfl) ?_; intro a774 hF775; clear hF773
         refine sk hF775 (b := false) rfl rfl (by kernel_rfl) (by kernel_rfl) rfl rfl (by kernel_rfl) ?_; intro a776 hF777; clear hF775
         refine sk hF777 (b := false) rfl rfl (by kernel_rfl) (by kernel_rfl) rfl rfl (by kernel_rfl) ?_; intro a778 hF779; clear hF777
         refine sk hF779 (b := false) rfl rfl (by kernel_rfl) (by kernel_rfl) rfl rfl (by kernel_rfl) ?_; intro a780 hF781; clear hF779
         refine sk hF781 (b := false) rfl rfl (by kernel_rfl) (by kernel_rfl) rfl rfl (by kernel_rfl) ?_; intro a782 hF783; clear hF781
         refine s1 hF783 117 (.bool false) ?_; intro a784 hF785; clear hF783
         refine nlH (hQ628 _ _ ?_); clear hQ628 hQ628Q
         refine cdF hF785 (by kernel_rfl) ?_
         refine wp_skip ?_
         refine ibn ?_
         refine rd ?_
         exact hJ596 zaox6vv hp752 _ _ ((hF785.region (by kernel_rfl) (by kernel_rfl)).anyβ _ (by kernel_rfl)) (hM625.keep (List.Sublist.cons_cons _ (List.Sublist.cons_cons _ (List.Sublist.cons_cons _ (List.Sublist.slnil)))))
       · -- no
        have hp786 := hp583.2 hb587; clear hp583
        refine wp_exit ?_
        refine thx ?_
        refine thx ?_
        refine ibx ?_
        refine ibn ?_
        refine rd ?_
        exact hJ235 (x12 ++ [x14]) zaox6vv ao553 cap554 hp786 _ _ ((hF586.region (by kernel_rfl) (by kernel_rfl)).anyβ _ (by kernel_rfl)) (hM582.keep (List.Sublist.cons _ (List.Sublist.cons_cons _ (List.Sublist.cons_cons _ (List.Sublist.slnil)))))
    · -- no
     have hp787 := hp222.2 hb226; clear hp222
     refine wp_exit ?_
     refine thx ?_
     refine thx ?_
     refine ibx ?_
     refine thn ?_
     refine sqH ?_; intro hQ788Q hQ788
     refine s1 hF225 3 (.int .i64 (-1)) ?_; intro a789 hF790; clear hF225
     refine nlH (hQ788 _ _ ?_); clear hQ788 hQ788Q
     refine wp_seq ?_
     refine sqH ?_; intro hQ791Q hQ791
     refine s1 hF790 124 (.slice aox6 zaox6.length capx6) ?_; intro a792 hF793; clear hF790
     refine s1 hF793 125 (.int .i64 (zaox6.length : Int)) ?_; intro a794 hF795; clear hF793
     refine s1 hF795 126 (.int .i64 0) ?_; intro a796 hF797; clear hF795
     refine nlH (hQ791 _ _ ?_); clear hQ791 hQ791Q
     refine wp_block ?_
     have hF798 : Fr 149 [] [⟨3, [], .int .i64 (-1)⟩, ⟨4, [], .slice none 0 0⟩, ⟨12, [], .slice aox12 x12.length capx12⟩, ⟨124, [], .slice aox6 zaox6.length capx6⟩, ⟨125, [], .int .i64 (zaox6.length : Int)⟩, ⟨126, [], .int .i64 0⟩] a796 := hF797.region (by kernel_rfl) (by kernel_rfl); clear hF797
     have hM800 : Mem w.heap.size [] w Z [.own (tyInt .i64) 3 none 0 ([] : List Int), .own (tyInt .u8) 5 aox12 capx12 x12, .own tySender 75 aox6 capx6 zaox6] Z wd217 := hM221.addNil (tyInt .i64) 3 (by decide); clear hM221
     have hF801 : Fr 149 [] [⟨3, [], .int .i64 (-1)⟩, ⟨4, [], .slice none ([] : List Int).length 0⟩, ⟨12, [], .slice aox12 x12.length capx12⟩, ⟨124, [], .slice aox6 zaox6.length capx6⟩, ⟨125, [], .int .i64 (zaox6.length : Int)⟩, ⟨126, [], .int .i64 0⟩] a796 := hF798.region (by kernel_rfl) (by kernel_rfl); clear hF798
     obtain ⟨inv799, mu799, hI804, hr803⟩ := hp787
     refine lp (ι := Int × (List Int) × Int × (Option Addr) × Nat) (fun (s : Int × (List Int) × Int × (Option Addr) × Nat) => [⟨3, [], .int .i64 s.1⟩, ⟨4, [], .slice s.2.2.2.1 s.2.1.length s.2.2.2.2⟩, ⟨12, [], .slice aox12 x12.length capx12⟩, ⟨124, [], .slice aox6 zaox6.length capx6⟩, ⟨125, [], .int .i64 (zaox6.length : Int)⟩, ⟨126, [], .int .i64 s.2.2.1⟩]) (fun (s : Int × (List Int) × Int × (Option Addr) × Nat) => [.own (tyInt .i64) 3 s.2.2.2.1 s.2.2.2.2 s.2.1, .own (tyInt .u8) 5 aox12 capx12 x12, .own tySender 75 aox6 capx6 zaox6]) (fun (s : Int × (List Int) × Int × (Option Addr) × Nat) => Z) (fun (s : Int × (List Int) × Int × (Option Addr) × Nat) => inv799 s.1 s.2.1 s.2.2.1) (fun (s : Int × (List Int) × Int × (Option Addr) × Nat) => mu799 s.1 s.2.1 s.2.2.1) ⟨-1, ([] : List Int), 0, none, 0⟩ hI804 (by exact hF801.region (by kernel_rfl) (by kernel_rfl)) (by exact hM800) ?_
     rintro ⟨x3, x4v, x126, aox4v, capx4v⟩ hI802 a806 wd807 hF808 hM809
     have hF810 : Fr 149 [] [⟨3, [], .int .i64 x3⟩, ⟨4, [], .slice aox4v x4v.length capx4v⟩, ⟨12, [], .slice aox12 x12.length capx12⟩, ⟨124, [], .slice aox6 zaox6.length capx6⟩, ⟨125, [], .int .i64 (zaox6.length : Int)⟩, ⟨126, [], .int .i64 x126⟩] a806 := hF808; clear hF808 hF801
     have hM811 : Mem w.heap.size [] w Z [.own (tyInt .i64) 3 aox4v capx4v x4v, .own (tyInt .u8) 5 aox12 capx12 x12, .own tySender 75 aox6 capx6 zaox6] Z wd807 := hM809; clear hM809 hM800
     have hp812 := hr803 x3 x4v x126 hI802
     refine sqH ?_; intro hQ813Q hQ813
     refine s1 hF810 127 (.bool (decide (x126 < (zaox6.length : Int)))) ?_; intro a814 hF815; clear hF810
     refine nlH (hQ813 _ _ ?_); clear hQ813 hQ813Q
     refine wp_seq ?_
     refine cd hF815 (t := decide (x126 < (zaox6.length : Int))) (by kernel_rfl) (fun hb816 => ?_) (fun hb816 => ?_)
     · -- yes
      have hp817 := hp812.1 hb816; clear hp812
      refine wp_skip ?_
      refine thn ?_
      refine wp_seq ?_
      refine wp_block ?_
      refine sqH ?_; intro hQ818Q hQ818
      refine s1 hF815 128 (.int .i64 x126) ?_; intro a819 hF820; clear hF815
      have hc821 := hp817.1; have hp822 := hp817.2; clear hp817
      refine ixo hF820 hM811 2 (T := tySender) (xs := zaox6) x126 hc821 (k := .i64) (e := 75) (bytes := 24) (nog rfl _) rfl (by kernel_rfl) rfl (by kernel_rfl) (by kernel_rfl) rfl (by kernel_rfl) ?_; intro g823 a825 hg824 hF826; clear hF820
      subst hg824
      have hF827 : Fr 149 [] [⟨3, [], .int .i64 x3⟩, ⟨4, [], .slice aox4v x4v.length capx4v⟩, ⟨12, [], .slice aox12 x12.length capx12⟩, ⟨124, [], .slice (some ⟨g823, 0, none⟩) zaox6.length capx6⟩, ⟨125, [], .int .i64 (zaox6.length : Int)⟩, ⟨126, [], .int .i64 x126⟩, ⟨127, [], .bool (decide (x126 < (zaox6.length : Int)))⟩, ⟨128, [], .int .i64 x126⟩, ⟨129, [], .pointer (some ⟨g823, x126.toNat * 2, none⟩)⟩] a825 := hF826.region (by kernel_rfl) (by kernel_rfl); clear hF826
      have hM828 : Mem w.heap.size [] w Z [.own (tyInt .i64) 3 aox4v capx4v x4v, .own (tyInt .u8) 5 aox12 capx12 x12, .own tySender 75 (some ⟨g823, 0, none⟩) capx6 zaox6] Z wd807 := hM811; clear hM811
      obtain ⟨q829, hq830⟩ : ∃ q, zaox6[x126.toNat]? = some q := ⟨_, List.getElem?_eq_getElem (by first | omega | (simp only [List.length_set] at *; omega))⟩; have hp831 := hp822 q829 hq830; clear hp822
      obtain ⟨cs832, hT833, hcl834⟩ := own_el hM828 2 (T := tySender) (xs := zaox6) rfl x126.toNat hq830
      obtain rfl : cs832 = ([str q829.row, .int .i64 q829.lost] : List Value) := hT833
      refine lc2 hF827 130 2 [str q829.row, .int .i64 q829.lost] hcl834 rfl ?_; intro a835 hF836; clear hF827
      refine sn hF836 hM828 (fun b => .pointer (some ⟨b, 0, none⟩)) [str [], .int .i64 0] 75 (nog rfl _) rfl (by kernel_rfl) (by kernel_rfl) ?_; intro b837 a838 wd840 hF839 hM841; clear hF836 hM828
      refine s1 hF839 20 (.int .i64 x126) ?_; intro a842 hF843; clear hF839
      refine sr hF843 hM841 0 [str q829.row, .int .i64 q829.lost] (b := b837) (off := 0) (cs := [str [], .int .i64 0]) (ty := 75) (u := .agg #[str q829.row, .int .i64 q829.lost]) (nog rfl _) rfl rfl (by kernel_rfl) (by kernel_rfl) (by kernel_rfl) (by kernel_rfl) (by kernel_rfl) (by kernel_rfl) (by kernel_rfl) ?_; intro wd844 hM845; clear hM841
      have hM846 : Mem w.heap.size [] w Z [.row b837 [str q829.row, .int .i64 q829.lost] 75, .own (tyInt .i64) 3 aox4v capx4v x4v, .own (tyInt .u8) 5 aox12 capx12 x12, .own tySender 75 (some ⟨g823, 0, none⟩) capx6 zaox6] Z wd844 := hM845; clear hM845
      refine nlH (hQ818 _ _ ?_); clear hQ818 hQ818Q
      have hF847 : Fr 149 [] [⟨3, [], .int .i64 x3⟩, ⟨4, [], .slice aox4v x4v.length capx4v⟩, ⟨12, [], .slice aox12 x12.length capx12⟩, ⟨20, [], .int .i64 x126⟩, ⟨21, [], .pointer (some ⟨b837, 0, none⟩)⟩, ⟨124, [], .slice (some ⟨g823, 0, none⟩) zaox6.length capx6⟩, ⟨125, [], .int .i64 (zaox6.length : Int)⟩, ⟨126, [], .int .i64 x126⟩] a842 := hF843.region (by kernel_rfl) (by kernel_rfl); clear hF843
      have hF849 : Fr 149 [] [⟨3, [], .int .i64 x3⟩, ⟨4, [], .slice aox4v x4v.length capx4v⟩, ⟨12, [], .slice aox12 x12.length capx12⟩, ⟨20, [], .int .i64 x126⟩, ⟨21, [], .pointer (some ⟨b837, 0, none⟩)⟩, ⟨124, [], .slice (some ⟨g823, 0, none⟩) zaox6.length capx6⟩, ⟨125, [], .int .i64 (zaox6.length : Int)⟩, ⟨126, [], .int .i64 x126⟩] a842 := hF847.region (by kernel_rfl) (by kernel_rfl); clear hF847
      obtain ⟨inv848, hp850, hp851⟩ := hp831
      refine wp_seq_k fun KJ852 hKJ853 => ?_
      have hJ854 : ∀ (x3v : Int) (x4vv : List Int) (aox4vv : Option Addr) (capx4vv : Nat), inv848 x3v x4vv → ∀ a1 w1, Fr 149 [] [⟨3, [], .int .i64 x3v⟩, ⟨4, [], .slice aox4vv x4vv.length capx4vv⟩, ⟨12, [], .slice aox12 x12.length capx12⟩, ⟨21, [], .pointer (some ⟨b837, 0, none⟩)⟩, ⟨124, [], .slice (some ⟨g823, 0, none⟩) zaox6.length capx6⟩, ⟨125, [], .int .i64 (zaox6.length : Int)⟩, ⟨126, [], .int .i64 x126⟩] a1 → Mem w.heap.size [] w Z [.row b837 [str q829.row, .int .i64 q829.lost] 75, .own (tyInt .i64) 3 aox4vv capx4vv x4vv, .own (tyInt .u8) 5 aox12 capx12 x12, .own tySender 75 (some ⟨g823, 0, none⟩) capx6 zaox6] Z w1 → KJ852 a1 w1 := by
       rintro x3v x4vv aox4vv capx4vv hI859 a855 wd856 hF857 hM858; clear hF849 hM846
       refine hKJ853 _ _ ?_; clear hKJ853
       have hp860 := hp851 x3v x4vv hI859
       refine rgH ?_; intro hQ861Q hQ861
       refine s1 hF857 139 (.slice aox4vv x4vv.length capx4vv) ?_; intro a862 hF863; clear hF857
       refine s1 hF863 140 (.pointer (some ⟨b837, 1, none⟩)) ?_; intro a864 hF865; clear hF863
       refine l1 hF865 hM858 141 0 1 (.int .i64 q829.lost) rfl rfl ?_; intro a866 hF867; clear hF865
       refine sn hF867 hM858 (fun b => .slice (some ⟨b, 0, none⟩) 1 1) [.int .i64 q829.lost] 3 (nog rfl _) rfl (by kernel_rfl) (by kernel_rfl) ?_; intro b868 a869 wd871 hF870 hM872; clear hF867 hM858
       have hc873 := hp860.1; have hp874 := hp860.2; clear hp860
       refine ap hF870 hM872 2 (T := (tyInt .i64)) (xs := x4vv) (ys := [q829.lost]) (ao := aox4vv) (cap := capx4vv) (ao2 := (some ⟨b868, 0, none⟩)) (cap2 := 1) (t := 39) (e := 3) (bytes := 8) (nog rfl _) rfl (by kernel_rfl) rfl (by kernel_rfl) (by kernel_rfl) (by kernel_rfl) rfl (Src.row hM872 0 rfl (RepAll.one (T := (tyInt .i64)) (x := q829.lost) rfl)) hc873 ?_; intro ao875 cap876 a880 wd877 hnil878 hF881 hM879; clear hF870 hM872
       have hM882 : Mem w.heap.size [] w Z [.row b868 [.int .i64 q829.lost] 3, .row b837 [str q829.row, .int .i64 q829.lost] 75, .own (tyInt .i64) 3 ao875 cap876 (x4vv ++ [q829.lost]), .own (tyInt .u8) 5 aox12 capx12 x12, .own tySender 75 (some ⟨g823, 0, none⟩) capx6 zaox6] Z wd877 := hM879; clear hM879
       refine s1 hF881 4 (.slice ao875 (x4vv ++ [q829.lost]).length cap876) ?_; intro a883 hF884; clear hF881
       refine nlH (hQ861 _ _ ?_); clear hQ861 hQ861Q
       refine ibn ?_
       refine thn ?_
       refine rgH ?_; intro hQ885Q hQ885
       refine s1 hF884 144 (.int .i64 (w64 (x126 + 1))) ?_; intro a886 hF887; clear hF884
       refine s1 hF887 126 (.int .i64 (w64 (x126 + 1))) ?_; intro a888 hF889; clear hF887
       refine nlH (hQ885 _ _ ?_); clear hQ885 hQ885Q
       refine rd ?_
       exact ⟨⟨x3v, x4vv ++ [q829.lost], w64 (x126 + 1), ao875, cap876⟩, hp874.1, hp874.2, (hF889.region (by kernel_rfl) (by kernel_rfl)).anyβ _ (by kernel_rfl), hM882.keep (List.Sublist.cons _ (List.Sublist.cons _ (List.Sublist.cons_cons _ (List.Sublist.cons_cons _ (List.Sublist.cons_cons _ (List.Sublist.slnil))))))⟩
      refine wp_block ?_
      refine sqH ?_; intro hQ890Q hQ890
      refine s1 hF849 133 (.pointer (some ⟨b837, 1, none⟩)) ?_; intro a891 hF892; clear hF849
      refine l1 hF892 hM846 134 0 1 (.int .i64 q829.lost) rfl rfl ?_; intro a893 hF894; clear hF892
      refine s1 hF894 135 (.bool (decide (q829.lost ≥ 0))) ?_; intro a895 hF896; clear hF894
      refine s1 hF896 132 (.bool (decide (q829.lost ≥ 0))) ?_; intro a897 hF898; clear hF896
      refine nlH (hQ890 _ _ ?_); clear hQ890 hQ890Q
      refine cd hF898 (t := decide (q829.lost ≥ 0)) (by kernel_rfl) (fun hb899 => ?_) (fun hb899 => ?_)
      · -- yes
       have hp900 := hp850.1 hb899; clear hp850
       refine wp_skip ?_
       refine ibn ?_
       refine rd ?_
       exact hJ854 x3 x4v aox4v capx4v hp900 _ _ ((hF898.region (by kernel_rfl) (by kernel_rfl)).anyβ _ (by kernel_rfl)) (hM846.keep (List.Sublist.cons_cons _ (List.Sublist.cons_cons _ (List.Sublist.cons_cons _ (List.Sublist.cons_cons _ (List.Sublist.slnil))))))
      · -- no
       have hp901 := hp850.2 hb899; clear hp850
       refine sqH ?_; intro hQ902Q hQ902
       refine s1 hF898 137 (.int .i64 x3) ?_; intro a903 hF904; clear hF898
       refine s1 hF904 138 (.bool (decide (x3 ≥ 0))) ?_; intro a905 hF906; clear hF904
       refine s1 hF906 136 (.bool (decide (x3 ≥ 0))) ?_; intro a907 hF908; clear hF906
       refine nlH (hQ902 _ _ ?_); clear hQ902 hQ902Q
       refine cd hF908 (t := decide (x3 ≥ 0)) (by kernel_rfl) (fun hb909 => ?_) (fun hb909 => ?_)
       · -- yes
        have hp910 := hp901.1 hb909; clear hp901
        refine sqH ?_; intro hQ911Q hQ911
        refine s1 hF908 2 (str []) ?_; intro a912 hF913; clear hF908
        refine s1 hF913 3 (.int .i64 0) ?_; intro a914 hF915; clear hF913
        refine s1 hF915 4 (.slice none 0 0) ?_; intro a916 hF917; clear hF915
        refine s1 hF917 5 (.int .i64 9) ?_; intro a918 hF919; clear hF917
        refine nlH (hQ911 _ _ ?_); clear hQ911 hQ911Q
        refine wp_ret ?_
        refine ibr ?_
        refine thr ?_
        refine ibr ?_
        refine thr ?_
        refine thr ?_
        refine ibr ?_
        refine thr ?_
        have hM920 : Mem w.heap.size [] w Z [.own (tyInt .i64) 3 none 0 ([] : List Int), .row b837 [str q829.row, .int .i64 q829.lost] 75, .own (tyInt .i64) 3 aox4v capx4v x4v, .own (tyInt .u8) 5 aox12 capx12 x12, .own tySender 75 (some ⟨g823, 0, none⟩) capx6 zaox6] Z wd844 := hM846.addNil (tyInt .i64) 3 (by decide); clear hM846
        refine rt (fn := Tryd.f18) (v := .tuple #[str [], .int .i64 0, .slice none ([] : List Int).length 0, .int .i64 9]) hF919 (re4 hF919 (fn := Tryd.f18) rfl (by kernel_rfl) (by kernel_rfl) (by kernel_rfl) (by kernel_rfl)) ?_
        exact ⟨([], 0, ([] : List Int), 9), none, 0, Z, rfl, hp910, hM920.keep (List.Sublist.cons_cons _ (List.Sublist.cons _ (List.Sublist.cons _ (List.Sublist.cons _ (List.Sublist.cons _ (List.Sublist.slnil))))))⟩
       · -- no
        have hp921 := hp901.2 hb909; clear hp901
        refine rgH ?_; intro hQ922Q hQ922
        refine s1 hF908 131 (.int .i64 x126) ?_; intro a923 hF924; clear hF908
        refine s1 hF924 3 (.int .i64 x126) ?_; intro a925 hF926; clear hF924
        refine nlH (hQ922 _ _ ?_); clear hQ922 hQ922Q
        refine ibn ?_
        refine rd ?_
        exact hJ854 x126 x4v aox4v capx4v hp921 _ _ ((hF926.region (by kernel_rfl) (by kernel_rfl)).anyβ _ (by kernel_rfl)) (hM846.keep (List.Sublist.cons_cons _ (List.Sublist.cons_cons _ (List.Sublist.cons_cons _ (List.Sublist.cons_cons _ (List.Sublist.slnil))))))
     · -- no
      have hp927 := hp812.2 hb816; clear hp812
      refine wp_exit ?_
      refine thx ?_
      refine thx ?_
      refine ibx ?_
      refine thn ?_
      refine sqH ?_; intro hQ928Q hQ928
      refine s1 hF815 145 (.slice aox12 x12.length capx12) ?_; intro a929 hF930; clear hF815
      refine st hF930 (str (bstr x12)) (nog rfl _) rfl (by kernel_rfl) ((by obtain ⟨Z9, hle9, hon9, hs9⟩ := hM811.lend 1 rfl; exact bstr_op hF930 (g := []) (e := 5) (ao := aox12) (cap := capx12) (xs := x12) rfl (by kernel_rfl) (by kernel_rfl) (by kernel_rfl) (by kernel_rfl)  hs9 hon9 rfl)) ?_; intro a931 hF932; clear hF930
      refine s1 hF932 147 (.int .i64 x3) ?_; intro a933 hF934; clear hF932
      refine s1 hF934 148 (.slice aox4v x4v.length capx4v) ?_; intro a935 hF936; clear hF934
      refine s1 hF936 2 (str (bstr x12)) ?_; intro a937 hF938; clear hF936
      refine s1 hF938 3 (.int .i64 x3) ?_; intro a939 hF940; clear hF938
      refine s1 hF940 4 (.slice aox4v x4v.length capx4v) ?_; intro a941 hF942; clear hF940
      refine s1 hF942 5 (.int .i64 0) ?_; intro a943 hF944; clear hF942
      refine nlH (hQ928 _ _ ?_); clear hQ928 hQ928Q
      refine wp_ret ?_
      refine rt (fn := Tryd.f18) (v := .tuple #[str (bstr x12), .int .i64 x3, .slice aox4v x4v.length capx4v, .int .i64 0]) hF944 (re4 hF944 (fn := Tryd.f18) rfl (by kernel_rfl) (by kernel_rfl) (by kernel_rfl) (by kernel_rfl)) ?_
      exact ⟨(bstr x12, x3, x4v, 0), aox4v, capx4v, Z, rfl, hp927, hM811.keep (List.Sublist.cons_cons _ (List.Sublist.cons _ (List.Sublist.cons _ (List.Sublist.slnil))))⟩

set_option maxRecDepth 100000 in
set_option maxHeartbeats 0 in
theorem wfirst_walk (u0 : List Frame) (ao1 : Option Addr) (cap2 : Nat) (Z : Fz) (w : World) (hs3 : SlR tyFrame Z ao1 cap2 u0) (hZ : Z.on w) {K : (Int × Int) → Prop} (hp : wfirst_vc u0 K) : Calls Tryd.prog 24 #[.slice ao1 u0.length cap2] w fun e w' => ∃ r : Int × Int, e = .returned (.tuple #[.int .i64 r.1, .int .i64 r.2]) ∧ K r ∧ Below w.heap.size w w' := by
 refine enter0 Tryd.func24 rfl rfl (by kernel_rfl) ?_; intro a0 hF0; have hM0 := Mem.start w Z hZ; have hle0 := Fz.le.refl Z
 have hp4 := hp (hs3.small); clear hp
 refine sqH ?_; intro hQ5Q hQ5
 refine s1 hF0 2 (.int .i64 0) ?_; intro a6 hF7; clear hF0
 refine s1 hF7 3 (.int .i64 0) ?_; intro a8 hF9; clear hF7
 refine nlH (hQ5 _ _ ?_); clear hQ5 hQ5Q
 refine wp_seq ?_
 refine sqH ?_; intro hQ10Q hQ10
 refine s1 hF9 11 (.slice ao1 u0.length cap2) ?_; intro a11 hF12; clear hF9
 refine s1 hF12 12 (.int .i64 (u0.length : Int)) ?_; intro a13 hF14; clear hF12
 refine s1 hF14 13 (.bool (decide ((u0.length : Int) > 6))) ?_; intro a15 hF16; clear hF14
 refine nlH (hQ10 _ _ ?_); clear hQ10 hQ10Q
 refine cd hF16 (t := decide ((u0.length : Int) > 6)) (by kernel_rfl) (fun hb17 => ?_) (fun hb17 => ?_)
 · -- yes
  have hp18 := hp4.1 hb17; clear hp4
  refine sqH ?_; intro hQ19Q hQ19
  refine s1 hF16 2 (.int .i64 0) ?_; intro a20 hF21; clear hF16
  refine s1 hF21 3 (.int .i64 2) ?_; intro a22 hF23; clear hF21
  refine nlH (hQ19 _ _ ?_); clear hQ19 hQ19Q
  refine wp_ret ?_
  refine thr ?_
  refine rt (fn := Tryd.f24) (v := .tuple #[.int .i64 0, .int .i64 2]) hF23 (re2 hF23 (fn := Tryd.f24) rfl (by kernel_rfl) (by kernel_rfl)) ?_
  exact ⟨(0, 2), rfl, hp18, hM0.below⟩
 · -- no
  have hp24 := hp4.2 hb17; clear hp4
  refine wp_skip ?_
  refine thn ?_
  refine sqH ?_; intro hQ25Q hQ25
  refine s1 hF16 4 (.int .i64 (-1)) ?_; intro a26 hF27; clear hF16
  refine s1 hF27 5 (str []) ?_; intro a28 hF29; clear hF27
  refine s1 hF29 6 (.bool false) ?_; intro a30 hF31; clear hF29
  refine nlH (hQ25 _ _ ?_); clear hQ25 hQ25Q
  refine wp_seq ?_
  refine sqH ?_; intro hQ32Q hQ32
  refine s1 hF31 14 (.slice ao1 u0.length cap2) ?_; intro a33 hF34; clear hF31
  refine s1 hF34 15 (.int .i64 (u0.length : Int)) ?_; intro a35 hF36; clear hF34
  refine s1 hF36 16 (.int .i64 0) ?_; intro a37 hF38; clear hF36
  refine nlH (hQ32 _ _ ?_); clear hQ32 hQ32Q
  refine wp_block ?_
  have hF39 : Fr 48 [] [⟨4, [], .int .i64 (-1)⟩, ⟨5, [], str []⟩, ⟨6, [], .bool false⟩, ⟨14, [], .slice ao1 u0.length cap2⟩, ⟨15, [], .int .i64 (u0.length : Int)⟩, ⟨16, [], .int .i64 0⟩] a37 := hF38.region (by kernel_rfl) (by kernel_rfl); clear hF38
  have hF41 : Fr 48 [] [⟨4, [], .int .i64 (-1)⟩, ⟨5, [], str []⟩, ⟨6, [], .bool false⟩, ⟨14, [], .slice ao1 u0.length cap2⟩, ⟨15, [], .int .i64 (u0.length : Int)⟩, ⟨16, [], .int .i64 0⟩] a37 := hF39.region (by kernel_rfl) (by kernel_rfl); clear hF39
  obtain ⟨inv40, mu40, hI44, hr43⟩ := hp24
  refine lp (ι := Int × (List UInt8) × Bool × Int) (fun (s : Int × (List UInt8) × Bool × Int) => [⟨4, [], .int .i64 s.1⟩, ⟨5, [], str s.2.1⟩, ⟨6, [], .bool s.2.2.1⟩, ⟨14, [], .slice ao1 u0.length cap2⟩, ⟨15, [], .int .i64 (u0.length : Int)⟩, ⟨16, [], .int .i64 s.2.2.2⟩]) (fun (s : Int × (List UInt8) × Bool × Int) => []) (fun (s : Int × (List UInt8) × Bool × Int) => Z) (fun (s : Int × (List UInt8) × Bool × Int) => inv40 s.1 s.2.1 s.2.2.1 s.2.2.2) (fun (s : Int × (List UInt8) × Bool × Int) => mu40 s.1 s.2.1 s.2.2.1 s.2.2.2) ⟨-1, [], false, 0⟩ hI44 (by exact hF41.region (by kernel_rfl) (by kernel_rfl)) (by exact hM0) ?_
  rintro ⟨x4, x5, x6, x16⟩ hI42 a46 wd47 hF48 hM49
  have hF50 : Fr 48 [] [⟨4, [], .int .i64 x4⟩, ⟨5, [], str x5⟩, ⟨6, [], .bool x6⟩, ⟨14, [], .slice ao1 u0.length cap2⟩, ⟨15, [], .int .i64 (u0.length : Int)⟩, ⟨16, [], .int .i64 x16⟩] a46 := hF48; clear hF48 hF41
  have hM51 : Mem w.heap.size [] w Z [] Z wd47 := hM49; clear hM49 hM0
  have hp52 := hr43 x4 x5 x6 x16 hI42
  refine sqH ?_; intro hQ53Q hQ53
  refine s1 hF50 17 (.bool (decide (x16 < (u0.length : Int)))) ?_; intro a54 hF55; clear hF50
  refine nlH (hQ53 _ _ ?_); clear hQ53 hQ53Q
  refine wp_seq ?_
  refine cd hF55 (t := decide (x16 < (u0.length : Int))) (by kernel_rfl) (fun hb56 => ?_) (fun hb56 => ?_)
  · -- yes
   have hp57 := hp52.1 hb56; clear hp52
   refine wp_skip ?_
   refine thn ?_
   have hF58 : Fr 48 [] [⟨4, [], .int .i64 x4⟩, ⟨5, [], str x5⟩, ⟨6, [], .bool x6⟩, ⟨14, [], .slice ao1 u0.length cap2⟩, ⟨15, [], .int .i64 (u0.length : Int)⟩, ⟨16, [], .int .i64 x16⟩] a54 := hF55.region (by kernel_rfl) (by kernel_rfl); clear hF55
   have hF60 : Fr 48 [] [⟨4, [], .int .i64 x4⟩, ⟨5, [], str x5⟩, ⟨6, [], .bool x6⟩, ⟨14, [], .slice ao1 u0.length cap2⟩, ⟨15, [], .int .i64 (u0.length : Int)⟩, ⟨16, [], .int .i64 x16⟩] a54 := hF58.region (by kernel_rfl) (by kernel_rfl); clear hF58
   obtain ⟨inv59, hp61, hp62⟩ := hp57
   refine wp_seq_k fun KJ63 hKJ64 => ?_
   have hJ65 : ∀ (x4v : Int) (x5v : List UInt8) (x6v : Bool), inv59 x4v x5v x6v → ∀ a1 w1, Fr 48 [] [⟨4, [], .int .i64 x4v⟩, ⟨5, [], str x5v⟩, ⟨6, [], .bool x6v⟩, ⟨14, [], .slice ao1 u0.length cap2⟩, ⟨15, [], .int .i64 (u0.length : Int)⟩, ⟨16, [], .int .i64 x16⟩] a1 → Mem w.heap.size [] w Z [] Z w1 → KJ63 a1 w1 := by
    rintro x4v x5v x6v hI70 a66 wd67 hF68 hM69; clear hF60 hM51
    refine hKJ64 _ _ ?_; clear hKJ64
    have hp71 := hp62 x4v x5v x6v hI70
    refine rgH ?_; intro hQ72Q hQ72
    refine s1 hF68 43 (.int .i64 (w64 (x16 + 1))) ?_; intro a73 hF74; clear hF68
    refine s1 hF74 16 (.int .i64 (w64 (x16 + 1))) ?_; intro a75 hF76; clear hF74
    refine nlH (hQ72 _ _ ?_); clear hQ72 hQ72Q
    refine rd ?_
    exact ⟨⟨x4v, x5v, x6v, w64 (x16 + 1)⟩, hp71.1, hp71.2, (hF76.region (by kernel_rfl) (by kernel_rfl)).anyβ _ (by kernel_rfl), hM69.keep (List.Sublist.slnil)⟩
   refine wp_block ?_
   refine sqH ?_; intro hQ77Q hQ77
   refine s1 hF60 18 (.int .i64 x16) ?_; intro a78 hF79; clear hF60
   have hc80 := hp61.1; have hp81 := hp61.2; clear hp61
   refine ix hF79 (T := tyFrame) (xs := u0) hs3 x16 hc80 (k := .i64) (e := 24) (bytes := 48) (nog rfl _) rfl (by kernel_rfl) rfl (by kernel_rfl) (by kernel_rfl) (by kernel_rfl) ?_; intro b82 off83 cs84 q85 a89 hq86 hP87 hT88 hF90; clear hF79
   have hp91 := hp81 q85 hq86; clear hp81
   obtain ⟨ao92, cap93, rfl, hs94⟩ := hT88
   have hp95 := hp91 (hs94.small); clear hp91
   refine z2 hF90 hM51 20 hP87 0 6 [.int .i64 q85.ID, .bool q85.Long, .bool q85.Fast, .bool q85.Remote, .int .i64 q85.Size, .slice ao92 q85.Data.length cap93] rfl ?_; intro a96 hF97; clear hF90
   refine sn hF97 hM51 (fun b => .pointer (some ⟨b, 0, none⟩)) [.int .i64 0, .bool false, .bool false, .bool false, .int .i64 0, .slice none 0 0] 24 (nog rfl _) rfl (by kernel_rfl) (by kernel_rfl) ?_; intro b98 a99 wd101 hF100 hM102; clear hF97 hM51
   refine s1 hF100 7 (.int .i64 x16) ?_; intro a103 hF104; clear hF100
   refine sr hF104 hM102 0 [.int .i64 q85.ID, .bool q85.Long, .bool q85.Fast, .bool q85.Remote, .int .i64 q85.Size, .slice ao92 q85.Data.length cap93] (b := b98) (off := 0) (cs := [.int .i64 0, .bool false, .bool false, .bool false, .int .i64 0, .slice none 0 0]) (ty := 24) (u := .agg #[.int .i64 q85.ID, .bool q85.Long, .bool q85.Fast, .bool q85.Remote, .int .i64 q85.Size, .slice ao92 q85.Data.length cap93]) (nog rfl _) rfl rfl (by kernel_rfl) (by kernel_rfl) (by kernel_rfl) (by kernel_rfl) (by kernel_rfl) (by kernel_rfl) (by kernel_rfl) ?_; intro wd105 hM106; clear hM102
   have hM107 : Mem w.heap.size [] w Z [.row b98 [.int .i64 q85.ID, .bool q85.Long, .bool q85.Fast, .bool q85.Remote, .int .i64 q85.Size, .slice ao92 q85.Data.length cap93] 24] Z wd105 := hM106; clear hM106
   refine nlH (hQ77 _ _ ?_); clear hQ77 hQ77Q
   refine sqH ?_; intro hQ108Q hQ108
   refine l2 hF104 hM107 22 0 0 6 [.int .i64 q85.ID, .bool q85.Long, .bool q85.Fast, .bool q85.Remote, .int .i64 q85.Size, .slice ao92 q85.Data.length cap93] rfl rfl ?_; intro a109 hF110; clear hF104
   refine fcl hF110 hM107 (.tuple #[str ((fNameS q85).1), .int .i64 ((fNameS q85).2)]) 15 #[.agg #[.int .i64 q85.ID, .bool q85.Long, .bool q85.Fast, .bool q85.Remote, .int .i64 q85.Size, .slice ao92 q85.Data.length cap93]] (nog rfl _) rfl (by kernel_rfl) (fun _ => by kernel_rfl) (fName_fun q85 ao92 cap93 _ _ hs94 hM107.fz) ?_; intro a111 wd113 hF112 hM114; clear hF110 hM107
   refine s1 hF112 21 (.tuple #[str ((fNameS q85).1), .int .i64 ((fNameS q85).2)]) ?_; intro a115 hF116; clear hF112
   refine s1 hF116 24 (str ((fNameS q85).1)) ?_; intro a117 hF118; clear hF116
   refine s1 hF118 25 (.int .i64 ((fNameS q85).2)) ?_; intro a119 hF120; clear hF118
   refine s1 hF120 9 (str ((fNameS q85).1)) ?_; intro a121 hF122; clear hF120
   refine s1 hF122 10 (.int .i64 ((fNameS q85).2)) ?_; intro a123 hF124; clear hF122
   refine nlH (hQ108 _ _ ?_); clear hQ108 hQ108Q
   refine wp_seq ?_
   refine sqH ?_; intro hQ125Q hQ125
   refine s1 hF124 26 (.int .i64 ((fNameS q85).2)) ?_; intro a126 hF127; clear hF124
   refine s1 hF127 27 (.bool (((fNameS q85).2) != 0)) ?_; intro a128 hF129; clear hF127
   refine nlH (hQ125 _ _ ?_); clear hQ125 hQ125Q
   refine cd hF129 (t := ((fNameS q85).2) != 0) (by kernel_rfl) (fun hb130 => ?_) (fun hb130 => ?_)
   · -- yes
    have hp131 := hp95.1 hb130; clear hp95
    have hF132 : Fr 48 [] [⟨10, [], .int .i64 ((fNameS q85).2)⟩] a128 := hF129.region (by kernel_rfl) (by kernel_rfl); clear hF129
    refine sqH ?_; intro hQ133Q hQ133
    refine s1 hF132 28 (.int .i64 ((fNameS q85).2)) ?_; intro a134 hF135; clear hF132
    refine s1 hF135 2 (.int .i64 0) ?_; intro a136 hF137; clear hF135
    refine s1 hF137 3 (.int .i64 ((fNameS q85).2)) ?_; intro a138 hF139; clear hF137
    refine nlH (hQ133 _ _ ?_); clear hQ133 hQ133Q
    refine wp_ret ?_
    refine thr ?_
    refine ibr ?_
    refine thr ?_
    refine thr ?_
    refine ibr ?_
    refine thr ?_
    refine rt (fn := Tryd.f24) (v := .tuple #[.int .i64 0, .int .i64 ((fNameS q85).2)]) hF139 (re2 hF139 (fn := Tryd.f24) rfl (by kernel_rfl) (by kernel_rfl)) ?_
    exact ⟨(0, (fNameS q85).2), rfl, hp131, hM114.below⟩
   · -- no
    have hp140 := hp95.2 hb130; clear hp95
    refine wp_skip ?_
    refine thn ?_
    refine wp_block ?_
    have hF141 : Fr 48 [] [⟨4, [], .int .i64 x4⟩, ⟨5, [], str x5⟩, ⟨6, [], .bool x6⟩, ⟨7, [], .int .i64 x16⟩, ⟨9, [], str ((fNameS q85).1)⟩, ⟨14, [], .slice ao1 u0.length cap2⟩, ⟨15, [], .int .i64 (u0.length : Int)⟩, ⟨16, [], .int .i64 x16⟩] a128 := hF129.region (by kernel_rfl) (by kernel_rfl); clear hF129
    refine sqH ?_; intro hQ142Q hQ142
    refine s1 hF141 30 (.int .i64 x4) ?_; intro a143 hF144; clear hF141
    refine s1 hF144 31 (.bool (decide (x4 < 0))) ?_; intro a145 hF146; clear hF144
    refine s1 hF146 32 (.bool (decide (x4 < 0))) ?_; intro a147 hF148; clear hF146
    have hF149 := hF148.atom ((decide (x4 < 0)) == false) (by kernel_rfl); clear hF148
    refine gp hF149 33 0 [] (decide (x4 < 0)) (str ((fNameS q85).1)) rfl rfl ?_; intro a150 hF151; clear hF149
    refine gp hF151 34 0 [] (decide (x4 < 0)) (str x5) rfl rfl ?_; intro a152 hF153; clear hF151
    refine gd hF153 (.bool (Op.bytesLess ((fNameS q85).1) x5)) (m := 0) (cj := []) (bj := decide (x4 < 0)) rfl rfl (by kernel_rfl) rfl (by kernel_rfl) (by kernel_rfl) (by kernel_rfl) (fun hg => strcmp_run hF153 (g := [0]) (op := .lss) rfl (by kernel_rfl) (by kernel_rfl) (by decide) hg) ?_; intro a154 hF155; clear hF153
    refine st hF155 (.bool ((decide (x4 < 0)) || (Op.bytesLess ((fNameS q85).1) x5))) (nog rfl _) rfl (by kernel_rfl) (pk_or hF155 (g := []) (m := 0) (b := decide (x4 < 0)) (v := Op.bytesLess ((fNameS q85).1) x5) rfl (by kernel_rfl) (by kernel_rfl) (by kernel_rfl) rfl) ?_; intro a156 hF157; clear hF155
    refine s1 hF157 29 (.bool ((decide (x4 < 0)) || (Op.bytesLess ((fNameS q85).1) x5))) ?_; intro a158 hF159; clear hF157
    refine nlH (hQ142 _ _ ?_); clear hQ142 hQ142Q
    refine cd hF159 (t := (decide (x4 < 0)) || (Op.bytesLess ((fNameS q85).1) x5)) (by kernel_rfl) (fun hb160 => ?_) (fun hb160 => ?_)
    · -- yes
     have hp161 := hp140.1 hb160; clear hp140
     have hF162 : Fr 48 [] [⟨7, [], .int .i64 x16⟩, ⟨9, [], str ((fNameS q85).1)⟩, ⟨14, [], .slice ao1 u0.length cap2⟩, ⟨15, [], .int .i64 (u0.length : Int)⟩, ⟨16, [], .int .i64 x16⟩] a158 := hF159.region (by kernel_rfl) (by kernel_rfl); clear hF159
     refine rgH ?_; intro hQ163Q hQ163
     refine s1 hF162 37 (.int .i64 x16) ?_; intro a164 hF165; clear hF162
     refine s1 hF165 38 (str ((fNameS q85).1)) ?_; intro a166 hF167; clear hF165
     refine s1 hF167 4 (.int .i64 x16) ?_; intro a168 hF169; clear hF167
     refine s1 hF169 5 (str ((fNameS q85).1)) ?_; intro a170 hF171; clear hF169
     refine s1 hF171 6 (.bool false) ?_; intro a172 hF173; clear hF171
     refine nlH (hQ163 _ _ ?_); clear hQ163 hQ163Q
     refine ibn ?_
     refine ibn ?_
     refine rd ?_
     exact hJ65 x16 ((fNameS q85).1) false hp161 _ _ ((hF173.region (by kernel_rfl) (by kernel_rfl)).anyβ _ (by kernel_rfl)) (hM114.keep (List.Sublist.cons _ (List.Sublist.slnil)))
    · -- no
     have hp174 := hp140.2 hb160; clear hp140
     have hF175 : Fr 48 [] [⟨4, [], .int .i64 x4⟩, ⟨5, [], str x5⟩, ⟨6, [], .bool x6⟩, ⟨9, [], str ((fNameS q85).1)⟩, ⟨14, [], .slice ao1 u0.length cap2⟩, ⟨15, [], .int .i64 (u0.length : Int)⟩, ⟨16, [], .int .i64 x16⟩] a158 := hF159.region (by kernel_rfl) (by kernel_rfl); clear hF159
     refine sqH ?_; intro hQ176Q hQ176
     refine s1 hF175 40 (str ((fNameS q85).1)) ?_; intro a177 hF178; clear hF175
     refine s1 hF178 41 (str x5) ?_; intro a179 hF180; clear hF178
     refine st hF180 (.bool (((fNameS q85).1) == x5)) (nog rfl _) rfl (by kernel_rfl) (strcmp_run hF180 (g := []) (op := .eql) rfl (by kernel_rfl) (by kernel_rfl) (by decide) rfl) ?_; intro a181 hF182; clear hF180
     refine s1 hF182 39 (.bool (((fNameS q85).1) == x5)) ?_; intro a183 hF184; clear hF182
     refine nlH (hQ176 _ _ ?_); clear hQ176 hQ176Q
     refine cd hF184 (t := ((fNameS q85).1) == x5) (by kernel_rfl) (fun hb185 => ?_) (fun hb185 => ?_)
     · -- yes
      have hp186 := hp174.1 hb185; clear hp174
      refine rgH ?_; intro hQ187Q hQ187
      refine s1 hF184 6 (.bool true) ?_; intro a188 hF189; clear hF184
      refine nlH (hQ187 _ _ ?_); clear hQ187 hQ187Q
      refine ibn ?_
      refine ibn ?_
      refine rd ?_
      exact hJ65 x4 x5 true hp186 _ _ ((hF189.region (by kernel_rfl) (by kernel_rfl)).anyβ _ (by kernel_rfl)) (hM114.keep (List.Sublist.cons _ (List.Sublist.slnil)))
     · -- no
      have hp190 := hp174.2 hb185; clear hp174
      refine wp_skip ?_
      refine ibn ?_
      refine ibn ?_
      refine rd ?_
      exact hJ65 x4 x5 x6 hp190 _ _ ((hF184.region (by kernel_rfl) (by kernel_rfl)).anyβ _ (by kernel_rfl)) (hM114.keep (List.Sublist.cons _ (List.Sublist.slnil)))
  · -- no
   have hp191 := hp52.2 hb56; clear hp52
   refine wp_exit ?_
   refine thx ?_
   refine thx ?_
   refine ibx ?_
   refine thn ?_
   refine wp_seq ?_
   refine sqH ?_; intro hQ192Q hQ192
   refine s1 hF55 44 (.int .i64 x4) ?_; intro a193 hF194; clear hF55
   refine s1 hF194 45 (.bool (decide (x4 < 0))) ?_; intro a195 hF196; clear hF194
   refine nlH (hQ192 _ _ ?_); clear hQ192 hQ192Q
   refine cd hF196 (t := decide (x4 < 0)) (by kernel_rfl) (fun hb197 => ?_) (fun hb197 => ?_)
   · -- yes
    have hp198 := hp191.1 hb197; clear hp191
    refine sqH ?_; intro hQ199Q hQ199
    refine s1 hF196 2 (.int .i64 0) ?_; intro a200 hF201; clear hF196
    refine s1 hF201 3 (.int .i64 8) ?_; intro a202 hF203; clear hF201
    refine nlH (hQ199 _ _ ?_); clear hQ199 hQ199Q
    refine wp_ret ?_
    refine thr ?_
    refine rt (fn := Tryd.f24) (v := .tuple #[.int .i64 0, .int .i64 8]) hF203 (re2 hF203 (fn := Tryd.f24) rfl (by kernel_rfl) (by kernel_rfl)) ?_
    exact ⟨(0, 8), rfl, hp198, hM51.below⟩
   · -- no
    have hp204 := hp191.2 hb197; clear hp191
    refine wp_skip ?_
    refine thn ?_
    refine wp_seq ?_
    refine sqH ?_; intro hQ205Q hQ205
    refine s1 hF196 46 (.bool x6) ?_; intro a206 hF207; clear hF196
    refine nlH (hQ205 _ _ ?_); clear hQ205 hQ205Q
    refine cd hF207 (t := x6) (by kernel_rfl) (fun hb208 => ?_) (fun hb208 => ?_)
    · -- yes
     have hp209 := hp204.1 hb208; clear hp204
     refine sqH ?_; intro hQ210Q hQ210
     refine s1 hF207 2 (.int .i64 0) ?_; intro a211 hF212; clear hF207
     refine s1 hF212 3 (.int .i64 9) ?_; intro a213 hF214; clear hF212
     refine nlH (hQ210 _ _ ?_); clear hQ210 hQ210Q
     refine wp_ret ?_
     refine thr ?_
     refine rt (fn := Tryd.f24) (v := .tuple #[.int .i64 0, .int .i64 9]) hF214 (re2 hF214 (fn := Tryd.f24) rfl (by kernel_rfl) (by kernel_rfl)) ?_
     exact ⟨(0, 9), rfl, hp209, hM51.below⟩
    · -- no
     have hp215 := hp204.2 hb208; clear hp204
     refine wp_skip ?_
     refine thn ?_
     refine sqH ?_; intro hQ216Q hQ216
     refine s1 hF207 47 (.int .i64 x4) ?_; intro a217 hF218; clear hF207
     refine s1 hF218 2 (.int .i64 x4) ?_; intro a219 hF220; clear hF218
     refine s1 hF220 3 (.int .i64 0) ?_; intro a221 hF222; clear hF220
     refine nlH (hQ216 _ _ ?_); clear hQ216 hQ216Q
     refine wp_ret ?_
     refine rt (fn := Tryd.f24) (v := .tuple #[.int .i64 x4, .int .i64 0]) hF222 (re2 hF222 (fn := Tryd.f24) rfl (by kernel_rfl) (by kernel_rfl)) ?_
     exact ⟨(x4, 0), rfl, hp215, hM51.below⟩

end Go.Proofs.YtmbdcehmeiiaoaaDoor
