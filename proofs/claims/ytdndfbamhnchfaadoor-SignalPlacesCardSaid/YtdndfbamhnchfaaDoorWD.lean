/- The walks, made by program: each call does what its pure predicate says. -/
import Derived.Test.YtdndfbamhnchfaaDoorPD
import Derived.Test.YtdndfbamhnchfaaDoorWC
set_option linter.unusedVariables false
set_option linter.unusedSimpArgs false
namespace Go.Proofs.YtdndfbamhnchfaaDoor
open Go.Sy Go.RowKit
set_option maxRecDepth 100000 in
set_option maxHeartbeats 0 in
theorem iisnan_walk (u0 : Int)  (Z : Fz) (w : World)  (hZ : Z.on w) {K : Bool → Prop} (hp : iisnan_vc u0 K) : Calls Tryd.prog 100 #[.int .i64 u0] w fun e w' => ∃ r : Bool, e = .returned (.bool r) ∧ K r ∧ Below w.heap.size w w' := by
 refine enter0 Tryd.func100 rfl rfl (by kernel_rfl) ?_; intro a0 hF0; have hM0 := Mem.start w Z hZ; have hle0 := Fz.le.refl Z
 refine sqH ?_; intro hQ1Q hQ1
 refine s1 hF0 2 (.bool false) ?_; intro a2 hF3; clear hF0
 refine nlH (hQ1 _ _ ?_); clear hQ1 hQ1Q
 refine sqH ?_; intro hQ4Q hQ4
 refine s1 hF3 3 (.int .i64 u0) ?_; intro a5 hF6; clear hF3
 refine s1 hF6 4 (.int .i64 u0) ?_; intro a7 hF8; clear hF6
 refine s1 hF8 5 (.bool (u0 != u0)) ?_; intro a9 hF10; clear hF8
 refine s1 hF10 2 (.bool (u0 != u0)) ?_; intro a11 hF12; clear hF10
 refine nlH (hQ4 _ _ ?_); clear hQ4 hQ4Q
 refine wp_ret ?_
 refine rt (fn := Tryd.f100) (v := .bool (u0 != u0)) hF12 (re1 hF12 (fn := Tryd.f100) rfl (by kernel_rfl)) ?_
 exact ⟨u0 != u0, rfl, hp, hM0.below⟩
theorem iisnan_fun (u0 : Int)  (Z : Fz) (w : World)  (hZ : Z.on w) : Calls Tryd.prog 100 #[.int .i64 u0] w fun e w' => e = .returned (.bool (iisnan u0)) ∧ Below w.heap.size w w' :=
  (iisnan_walk u0  Z w  hZ (iisnan_ok u0)).mono fun _ _ ⟨r, he, hk, hb⟩ => ⟨by subst hk; exact he, hb⟩

theorem sraw_fun (u0 : Signal) (u1 : Int) (u2 : Int)  (Z : Fz) (w : World)  (hZ : Z.on w) : Calls Tryd.prog 13 #[.agg #[str u0.Name, .int .i64 u0.Start, .int .i64 u0.Size, .bool u0.Back, .bool u0.Signed, .int .i64 u0.Mul, .int .i64 u0.Div, .int .i64 u0.Add, .int .i64 u0.Key], .int .i64 u1, .int .i64 u2] w fun e w' => e = .returned (.tuple #[.int .i64 ((rawS u0 u1 u2).1), .int .i64 ((rawS u0 u1 u2).2)]) ∧ Below w.heap.size w w' :=
  (sraw_walk u0 u1 u2  Z w  hZ (sraw_ok u0 u1 u2)).mono fun _ _ ⟨r, he, hk, hb⟩ => ⟨by subst hk; exact he, hb⟩

set_option maxRecDepth 100000 in
set_option maxHeartbeats 0 in
theorem swrite_walk (u0 : Signal) (u1 : List Int) (u2 : Int) (u3 : Int) (ao1 : Option Addr) (cap2 : Nat) (Z : Fz) (w : World) (hs3 : SlR (tyInt .u8) Z ao1 cap2 u1) (hZ : Z.on w) {K : ((List Int) × Int) → Prop} (hp : swrite_vc u0 u1 u2 u3 K) : Calls Tryd.prog 14 #[.agg #[str u0.Name, .int .i64 u0.Start, .int .i64 u0.Size, .bool u0.Back, .bool u0.Signed, .int .i64 u0.Mul, .int .i64 u0.Div, .int .i64 u0.Add, .int .i64 u0.Key], .slice ao1 u1.length cap2, .int .i64 u2, .int .i64 u3] w fun e w' => ∃ (r : (List Int) × Int) (ao1001 : Option Addr) (cap1002 : Nat) (Z' : Fz), e = .returned (.tuple #[.slice ao1001 r.1.length cap1002, .int .i64 r.2]) ∧ K r ∧ Mem w.heap.size [] w Z [.own (tyInt .u8) 5 ao1001 cap1002 r.1] Z' w' := by
 refine enter0 Tryd.func14 rfl rfl (by kernel_rfl) ?_; intro a0 hF0; have hM0 := Mem.start w Z hZ; have hle0 := Fz.le.refl Z
 have hp4 := hp (hs3.small); clear hp
 refine sqH ?_; intro hQ5Q hQ5
 refine sn hF0 hM0 (fun b => .pointer (some ⟨b, 0, none⟩)) [str u0.Name, .int .i64 u0.Start, .int .i64 u0.Size, .bool u0.Back, .bool u0.Signed, .int .i64 u0.Mul, .int .i64 u0.Div, .int .i64 u0.Add, .int .i64 u0.Key] 23 (nog rfl _) rfl (by kernel_rfl) (by kernel_rfl) ?_; intro b6 a7 wd9 hF8 hM10; clear hF0 hM0
 refine s1 hF8 8 (.slice none 0 0) ?_; intro a11 hF12; clear hF8
 refine s1 hF12 9 (.int .i64 0) ?_; intro a13 hF14; clear hF12
 refine nlH (hQ5 _ _ ?_); clear hQ5 hQ5Q
 refine wp_seq ?_
 refine sqH ?_; intro hQ15Q hQ15
 refine l2 hF14 hM10 14 0 0 9 [str u0.Name, .int .i64 u0.Start, .int .i64 u0.Size, .bool u0.Back, .bool u0.Signed, .int .i64 u0.Mul, .int .i64 u0.Div, .int .i64 u0.Add, .int .i64 u0.Key] rfl rfl ?_; intro a16 hF17; clear hF14
 refine s1 hF17 15 (.slice ao1 u1.length cap2) ?_; intro a18 hF19; clear hF17
 refine s1 hF19 16 (.int .i64 (u1.length : Int)) ?_; intro a20 hF21; clear hF19
 refine fcl hF21 hM10 (.int .i64 (checkS u0 (u1.length : Int))) 19 #[.agg #[str u0.Name, .int .i64 u0.Start, .int .i64 u0.Size, .bool u0.Back, .bool u0.Signed, .int .i64 u0.Mul, .int .i64 u0.Div, .int .i64 u0.Add, .int .i64 u0.Key], .int .i64 (u1.length : Int)] (nog rfl _) rfl (by kernel_rfl) (fun _ => by kernel_rfl) (scheck_fun u0 (u1.length : Int) _ _ hM10.fz) ?_; intro a22 wd24 hF23 hM25; clear hF21 hM10
 refine s1 hF23 10 (.int .i64 (checkS u0 (u1.length : Int))) ?_; intro a26 hF27; clear hF23
 refine nlH (hQ15 _ _ ?_); clear hQ15 hQ15Q
 refine sqH ?_; intro hQ28Q hQ28
 refine s1 hF27 18 (.int .i64 (checkS u0 (u1.length : Int))) ?_; intro a29 hF30; clear hF27
 refine s1 hF30 19 (.bool ((checkS u0 (u1.length : Int)) != 0)) ?_; intro a31 hF32; clear hF30
 refine nlH (hQ28 _ _ ?_); clear hQ28 hQ28Q
 refine cd hF32 (t := (checkS u0 (u1.length : Int)) != 0) (by kernel_rfl) (fun hb33 => ?_) (fun hb33 => ?_)
 · -- yes
  have hp34 := hp4.1 hb33; clear hp4
  refine sqH ?_; intro hQ35Q hQ35
  refine s1 hF32 20 (.int .i64 (checkS u0 (u1.length : Int))) ?_; intro a36 hF37; clear hF32
  refine s1 hF37 8 (.slice none 0 0) ?_; intro a38 hF39; clear hF37
  refine s1 hF39 9 (.int .i64 (checkS u0 (u1.length : Int))) ?_; intro a40 hF41; clear hF39
  refine nlH (hQ35 _ _ ?_); clear hQ35 hQ35Q
  refine wp_ret ?_
  refine thr ?_
  have hM42 : Mem w.heap.size [] w Z [.own (tyInt .u8) 5 none 0 ([] : List Int), .row b6 [str u0.Name, .int .i64 u0.Start, .int .i64 u0.Size, .bool u0.Back, .bool u0.Signed, .int .i64 u0.Mul, .int .i64 u0.Div, .int .i64 u0.Add, .int .i64 u0.Key] 23] Z wd24 := hM25.addNil (tyInt .u8) 5 (by decide); clear hM25
  refine rt (fn := Tryd.f14) (v := .tuple #[.slice none ([] : List Int).length 0, .int .i64 (checkS u0 (u1.length : Int))]) hF41 (re2 hF41 (fn := Tryd.f14) rfl (by kernel_rfl) (by kernel_rfl)) ?_
  exact ⟨(([] : List Int), (checkS u0 (u1.length : Int))), none, 0, Z, rfl, hp34, hM42.keep (List.Sublist.cons_cons _ (List.Sublist.cons _ (List.Sublist.slnil)))⟩
 · -- no
  have hp43 := hp4.2 hb33; clear hp4
  refine wp_skip ?_
  refine thn ?_
  refine sqH ?_; intro hQ44Q hQ44
  refine l2 hF32 hM25 22 0 0 9 [str u0.Name, .int .i64 u0.Start, .int .i64 u0.Size, .bool u0.Back, .bool u0.Signed, .int .i64 u0.Mul, .int .i64 u0.Div, .int .i64 u0.Add, .int .i64 u0.Key] rfl rfl ?_; intro a45 hF46; clear hF32
  refine s1 hF46 23 (.int .i64 u2) ?_; intro a47 hF48; clear hF46
  refine s1 hF48 24 (.int .i64 u3) ?_; intro a49 hF50; clear hF48
  refine fcl hF50 hM25 (.tuple #[.int .i64 ((rawS u0 u2 u3).1), .int .i64 ((rawS u0 u2 u3).2)]) 13 #[.agg #[str u0.Name, .int .i64 u0.Start, .int .i64 u0.Size, .bool u0.Back, .bool u0.Signed, .int .i64 u0.Mul, .int .i64 u0.Div, .int .i64 u0.Add, .int .i64 u0.Key], .int .i64 u2, .int .i64 u3] (nog rfl _) rfl (by kernel_rfl) (fun _ => by kernel_rfl) (sraw_fun u0 u2 u3 _ _ hM25.fz) ?_; intro a51 wd53 hF52 hM54; clear hF50 hM25
  refine s1 hF52 21 (.tuple #[.int .i64 ((rawS u0 u2 u3).1), .int .i64 ((rawS u0 u2 u3).2)]) ?_; intro a55 hF56; clear hF52
  refine s1 hF56 26 (.int .i64 ((rawS u0 u2 u3).1)) ?_; intro a57 hF58; clear hF56
  refine s1 hF58 27 (.int .i64 ((rawS u0 u2 u3).2)) ?_; intro a59 hF60; clear hF58
  refine s1 hF60 11 (.int .i64 ((rawS u0 u2 u3).1)) ?_; intro a61 hF62; clear hF60
  refine s1 hF62 12 (.int .i64 ((rawS u0 u2 u3).2)) ?_; intro a63 hF64; clear hF62
  refine nlH (hQ44 _ _ ?_); clear hQ44 hQ44Q
  refine wp_seq ?_
  have hF65 : Fr 38 [] [⟨1, [], .slice ao1 u1.length cap2⟩, ⟨4, [], .pointer (some ⟨b6, 0, none⟩)⟩, ⟨11, [], .int .i64 ((rawS u0 u2 u3).1)⟩, ⟨12, [], .int .i64 ((rawS u0 u2 u3).2)⟩] a63 := hF64.region (by kernel_rfl) (by kernel_rfl); clear hF64
  refine sqH ?_; intro hQ66Q hQ66
  refine s1 hF65 28 (.int .i64 ((rawS u0 u2 u3).2)) ?_; intro a67 hF68; clear hF65
  refine s1 hF68 29 (.bool (((rawS u0 u2 u3).2) != 0)) ?_; intro a69 hF70; clear hF68
  refine nlH (hQ66 _ _ ?_); clear hQ66 hQ66Q
  refine cd hF70 (t := ((rawS u0 u2 u3).2) != 0) (by kernel_rfl) (fun hb71 => ?_) (fun hb71 => ?_)
  · -- yes
   have hp72 := hp43.1 hb71; clear hp43
   refine sqH ?_; intro hQ73Q hQ73
   refine s1 hF70 30 (.int .i64 ((rawS u0 u2 u3).2)) ?_; intro a74 hF75; clear hF70
   refine s1 hF75 8 (.slice none 0 0) ?_; intro a76 hF77; clear hF75
   refine s1 hF77 9 (.int .i64 ((rawS u0 u2 u3).2)) ?_; intro a78 hF79; clear hF77
   refine nlH (hQ73 _ _ ?_); clear hQ73 hQ73Q
   refine wp_ret ?_
   refine thr ?_
   have hM80 : Mem w.heap.size [] w Z [.own (tyInt .u8) 5 none 0 ([] : List Int), .row b6 [str u0.Name, .int .i64 u0.Start, .int .i64 u0.Size, .bool u0.Back, .bool u0.Signed, .int .i64 u0.Mul, .int .i64 u0.Div, .int .i64 u0.Add, .int .i64 u0.Key] 23] Z wd53 := hM54.addNil (tyInt .u8) 5 (by decide); clear hM54
   refine rt (fn := Tryd.f14) (v := .tuple #[.slice none ([] : List Int).length 0, .int .i64 ((rawS u0 u2 u3).2)]) hF79 (re2 hF79 (fn := Tryd.f14) rfl (by kernel_rfl) (by kernel_rfl)) ?_
   exact ⟨(([] : List Int), (rawS u0 u2 u3).2), none, 0, Z, rfl, hp72, hM80.keep (List.Sublist.cons_cons _ (List.Sublist.cons _ (List.Sublist.slnil)))⟩
  · -- no
   have hp81 := hp43.2 hb71; clear hp43
   refine wp_skip ?_
   refine thn ?_
   refine sqH ?_; intro hQ82Q hQ82
   refine s1 hF70 31 (.slice ao1 u1.length cap2) ?_; intro a83 hF84; clear hF70
   have hc85 := hp81.1; have hp86 := hp81.2; clear hp81
   refine cl hF84 12 #[.slice ao1 u1.length cap2] (nog rfl _) rfl (by kernel_rfl) (by kernel_rfl) ?_
   refine (bclone_fun u1 hc85 ao1 cap2 _ _ hs3 hM54.fz).mono ?_; rintro _ wd87 ⟨ao91, cap92, Z93, rfl, hm⟩; refine ⟨_, rfl, ?_⟩; intro a88 hF89; have hM90 := hM54.callZ hm; have hle94 := hm.ext.le; clear hm hM54 hF84
   replace hs3 := hs3.mono hle94
   replace hle0 := Fz.le.trans hle0 hle94
   have hM95 : Mem w.heap.size [] w Z [.own (tyInt .u8) 5 ao91 cap92 (bcloneS u1), .row b6 [str u0.Name, .int .i64 u0.Start, .int .i64 u0.Size, .bool u0.Back, .bool u0.Signed, .int .i64 u0.Mul, .int .i64 u0.Div, .int .i64 u0.Add, .int .i64 u0.Key] 23] Z93 wd87 := hM90; clear hM90
   have hp96 := hp86 (hM95.ownSmall 0 rfl); clear hp86
   refine s1 hF89 13 (.slice ao91 (bcloneS u1).length cap92) ?_; intro a97 hF98; clear hF89
   refine nlH (hQ82 _ _ ?_); clear hQ82 hQ82Q
   refine sqH ?_; intro hQ99Q hQ99
   refine l2 hF98 hM95 33 1 0 9 [str u0.Name, .int .i64 u0.Start, .int .i64 u0.Size, .bool u0.Back, .bool u0.Signed, .int .i64 u0.Mul, .int .i64 u0.Div, .int .i64 u0.Add, .int .i64 u0.Key] rfl rfl ?_; intro a100 hF101; clear hF98
   refine s1 hF101 34 (.slice ao91 (bcloneS u1).length cap92) ?_; intro a102 hF103; clear hF101
   refine s1 hF103 35 (.int .i64 ((rawS u0 u2 u3).1)) ?_; intro a104 hF105; clear hF103
   have hc106 := hp96.1; have hp107 := hp96.2; clear hp96
   refine cl hF105 47 #[.agg #[str u0.Name, .int .i64 u0.Start, .int .i64 u0.Size, .bool u0.Back, .bool u0.Signed, .int .i64 u0.Mul, .int .i64 u0.Div, .int .i64 u0.Add, .int .i64 u0.Key], .slice ao91 (bcloneS u1).length cap92, .int .i64 ((rawS u0 u2 u3).1)] (nog rfl _) rfl (by kernel_rfl) (by kernel_rfl) ?_
   refine (sputd_fun u0 (bcloneS u1) ((rawS u0 u2 u3).1) hc106 ao91 cap92 _ _ _ _ _ _ hM95 hM95.fz).mono ?_; rintro _ wd108 ⟨Z113, rfl, hle114, hl112, hm⟩; refine ⟨_, rfl, ?_⟩; intro a109 hF110; have hM111 := hm; clear hm hM95 hF105
   replace hs3 := hs3.mono hle114
   replace hle0 := Fz.le.trans hle0 hle114
   have hF115 : Fr 38 [] [⟨1, [], .slice ao1 u1.length cap2⟩, ⟨4, [], .pointer (some ⟨b6, 0, none⟩)⟩, ⟨11, [], .int .i64 ((rawS u0 u2 u3).1)⟩, ⟨12, [], .int .i64 ((rawS u0 u2 u3).2)⟩, ⟨13, [], .slice ao91 (putS u0 (bcloneS u1) ((rawS u0 u2 u3).1)).length cap92⟩, ⟨28, [], .int .i64 ((rawS u0 u2 u3).2)⟩, ⟨29, [], .bool (((rawS u0 u2 u3).2) != 0)⟩, ⟨31, [], .slice ao1 u1.length cap2⟩, ⟨32, [], .slice ao91 (putS u0 (bcloneS u1) ((rawS u0 u2 u3).1)).length cap92⟩, ⟨33, [], .agg #[str u0.Name, .int .i64 u0.Start, .int .i64 u0.Size, .bool u0.Back, .bool u0.Signed, .int .i64 u0.Mul, .int .i64 u0.Div, .int .i64 u0.Add, .int .i64 u0.Key]⟩, ⟨34, [], .slice ao91 (putS u0 (bcloneS u1) ((rawS u0 u2 u3).1)).length cap92⟩, ⟨35, [], .int .i64 ((rawS u0 u2 u3).1)⟩, ⟨36, [], .tuple #[]⟩] a109 := by rw [hl112]; exact hF110.region (by kernel_rfl) (by kernel_rfl)
   clear hF110
   have hM116 : Mem w.heap.size [] w Z [.own (tyInt .u8) 5 ao91 cap92 (putS u0 (bcloneS u1) ((rawS u0 u2 u3).1)), .row b6 [str u0.Name, .int .i64 u0.Start, .int .i64 u0.Size, .bool u0.Back, .bool u0.Signed, .int .i64 u0.Mul, .int .i64 u0.Div, .int .i64 u0.Add, .int .i64 u0.Key] 23] Z113 wd108 := hM111; clear hM111
   have hp117 := hp107 (hM116.ownSmall 0 rfl); clear hp107
   refine nlH (hQ99 _ _ ?_); clear hQ99 hQ99Q
   refine sqH ?_; intro hQ118Q hQ118
   refine s1 hF115 37 (.slice ao91 (putS u0 (bcloneS u1) ((rawS u0 u2 u3).1)).length cap92) ?_; intro a119 hF120; clear hF115
   refine s1 hF120 8 (.slice ao91 (putS u0 (bcloneS u1) ((rawS u0 u2 u3).1)).length cap92) ?_; intro a121 hF122; clear hF120
   refine s1 hF122 9 (.int .i64 0) ?_; intro a123 hF124; clear hF122
   refine nlH (hQ118 _ _ ?_); clear hQ118 hQ118Q
   refine wp_ret ?_
   refine rt (fn := Tryd.f14) (v := .tuple #[.slice ao91 (putS u0 (bcloneS u1) ((rawS u0 u2 u3).1)).length cap92, .int .i64 0]) hF124 (re2 hF124 (fn := Tryd.f14) rfl (by kernel_rfl) (by kernel_rfl)) ?_
   exact ⟨((putS u0 (bcloneS u1) ((rawS u0 u2 u3).1)), 0), ao91, cap92, Z113, rfl, hp117, hM116.keep (List.Sublist.cons_cons _ (List.Sublist.cons _ (List.Sublist.slnil)))⟩

set_option maxRecDepth 100000 in
set_option maxHeartbeats 0 in
theorem sread_walk (u0 : Signal) (u1 : List Int) (ao1 : Option Addr) (cap2 : Nat) (Z : Fz) (w : World) (hs3 : SlR (tyInt .u8) Z ao1 cap2 u1) (hZ : Z.on w) {K : (Int × Reading × Int) → Prop} (hp : sread_vc u0 u1 K) : Calls Tryd.prog 7 #[.agg #[str u0.Name, .int .i64 u0.Start, .int .i64 u0.Size, .bool u0.Back, .bool u0.Signed, .int .i64 u0.Mul, .int .i64 u0.Div, .int .i64 u0.Add, .int .i64 u0.Key], .slice ao1 u1.length cap2] w fun e w' => ∃ r : Int × Reading × Int, e = .returned (.tuple #[.int .i64 r.1, .agg #[str r.2.1.Name, .int .i64 r.2.1.Num, .int .i64 r.2.1.Den], .int .i64 r.2.2]) ∧ K r ∧ Below w.heap.size w w' := by
 refine enter0 Tryd.func7 rfl rfl (by kernel_rfl) ?_; intro a0 hF0; have hM0 := Mem.start w Z hZ; have hle0 := Fz.le.refl Z
 have hp4 := hp (hs3.small); clear hp
 refine sqH ?_; intro hQ5Q hQ5
 refine sn hF0 hM0 (fun b => .pointer (some ⟨b, 0, none⟩)) [str u0.Name, .int .i64 u0.Start, .int .i64 u0.Size, .bool u0.Back, .bool u0.Signed, .int .i64 u0.Mul, .int .i64 u0.Div, .int .i64 u0.Add, .int .i64 u0.Key] 23 (nog rfl _) rfl (by kernel_rfl) (by kernel_rfl) ?_; intro b6 a7 wd9 hF8 hM10; clear hF0 hM0
 refine s1 hF8 4 (.int .i64 0) ?_; intro a11 hF12; clear hF8
 refine sn hF12 hM10 (fun b => .pointer (some ⟨b, 0, none⟩)) [str [], .int .i64 0, .int .i64 0] 26 (nog rfl _) rfl (by kernel_rfl) (by kernel_rfl) ?_; intro b13 a14 wd16 hF15 hM17; clear hF12 hM10
 refine s1 hF15 6 (.int .i64 0) ?_; intro a18 hF19; clear hF15
 refine nlH (hQ5 _ _ ?_); clear hQ5 hQ5Q
 refine wp_seq ?_
 refine sqH ?_; intro hQ20Q hQ20
 refine l2 hF19 hM17 9 1 0 9 [str u0.Name, .int .i64 u0.Start, .int .i64 u0.Size, .bool u0.Back, .bool u0.Signed, .int .i64 u0.Mul, .int .i64 u0.Div, .int .i64 u0.Add, .int .i64 u0.Key] rfl rfl ?_; intro a21 hF22; clear hF19
 refine s1 hF22 10 (.slice ao1 u1.length cap2) ?_; intro a23 hF24; clear hF22
 refine s1 hF24 11 (.int .i64 (u1.length : Int)) ?_; intro a25 hF26; clear hF24
 refine fcl hF26 hM17 (.int .i64 (checkS u0 (u1.length : Int))) 19 #[.agg #[str u0.Name, .int .i64 u0.Start, .int .i64 u0.Size, .bool u0.Back, .bool u0.Signed, .int .i64 u0.Mul, .int .i64 u0.Div, .int .i64 u0.Add, .int .i64 u0.Key], .int .i64 (u1.length : Int)] (nog rfl _) rfl (by kernel_rfl) (fun _ => by kernel_rfl) (scheck_fun u0 (u1.length : Int) _ _ hM17.fz) ?_; intro a27 wd29 hF28 hM30; clear hF26 hM17
 refine s1 hF28 7 (.int .i64 (checkS u0 (u1.length : Int))) ?_; intro a31 hF32; clear hF28
 refine nlH (hQ20 _ _ ?_); clear hQ20 hQ20Q
 refine sqH ?_; intro hQ33Q hQ33
 refine s1 hF32 13 (.int .i64 (checkS u0 (u1.length : Int))) ?_; intro a34 hF35; clear hF32
 refine s1 hF35 14 (.bool ((checkS u0 (u1.length : Int)) != 0)) ?_; intro a36 hF37; clear hF35
 refine nlH (hQ33 _ _ ?_); clear hQ33 hQ33Q
 refine cd hF37 (t := (checkS u0 (u1.length : Int)) != 0) (by kernel_rfl) (fun hb38 => ?_) (fun hb38 => ?_)
 · -- yes
  have hp39 := hp4.1 hb38; clear hp4
  refine sqH ?_; intro hQ40Q hQ40
  refine s1 hF37 15 (.agg #[str [], .int .i64 0, .int .i64 0]) ?_; intro a41 hF42; clear hF37
  refine s1 hF42 16 (.int .i64 (checkS u0 (u1.length : Int))) ?_; intro a43 hF44; clear hF42
  refine s1 hF44 4 (.int .i64 0) ?_; intro a45 hF46; clear hF44
  refine sr hF46 hM30 0 [str [], .int .i64 0, .int .i64 0] (b := b13) (off := 0) (cs := [str [], .int .i64 0, .int .i64 0]) (ty := 26) (u := .agg #[str [], .int .i64 0, .int .i64 0]) (nog rfl _) rfl rfl (by kernel_rfl) (by kernel_rfl) (by kernel_rfl) (by kernel_rfl) (by kernel_rfl) (by kernel_rfl) (by kernel_rfl) ?_; intro wd47 hM48; clear hM30
  refine s1 hF46 6 (.int .i64 (checkS u0 (u1.length : Int))) ?_; intro a49 hF50; clear hF46
  have hM51 : Mem w.heap.size [] w Z [.row b13 [str [], .int .i64 0, .int .i64 0] 26, .row b6 [str u0.Name, .int .i64 u0.Start, .int .i64 u0.Size, .bool u0.Back, .bool u0.Signed, .int .i64 u0.Mul, .int .i64 u0.Div, .int .i64 u0.Add, .int .i64 u0.Key] 23] Z wd47 := hM48; clear hM48
  refine nlH (hQ40 _ _ ?_); clear hQ40 hQ40Q
  refine wp_ret ?_
  refine thr ?_
  refine rt (fn := Tryd.f7) (v := .tuple #[.int .i64 0, .agg #[str [], .int .i64 0, .int .i64 0], .int .i64 (checkS u0 (u1.length : Int))]) hF50 (re3m hF50 (fn := Tryd.f7) rfl (ad := ⟨b13, 0, none⟩) (by kernel_rfl) (loadVar_run hM51 0 (b := b13) (k := 3) (vs := [str [], .int .i64 0, .int .i64 0]) (ty := 26) rfl (by kernel_rfl) (by kernel_rfl)) (by kernel_rfl) (by kernel_rfl)) ?_
  exact ⟨(0, (⟨[], 0, 0⟩ : Reading), (checkS u0 (u1.length : Int))), rfl, hp39, hM51.below⟩
 · -- no
  have hp52 := hp4.2 hb38; clear hp4
  refine wp_skip ?_
  refine thn ?_
  refine sqH ?_; intro hQ53Q hQ53
  refine l2 hF37 hM30 17 1 0 9 [str u0.Name, .int .i64 u0.Start, .int .i64 u0.Size, .bool u0.Back, .bool u0.Signed, .int .i64 u0.Mul, .int .i64 u0.Div, .int .i64 u0.Add, .int .i64 u0.Key] rfl rfl ?_; intro a54 hF55; clear hF37
  refine s1 hF55 18 (.slice ao1 u1.length cap2) ?_; intro a56 hF57; clear hF55
  have hc58 := hp52.1; have hp59 := hp52.2; clear hp52
  refine fcl hF57 hM30 (.int .i64 (getS u0 u1)) 35 #[.agg #[str u0.Name, .int .i64 u0.Start, .int .i64 u0.Size, .bool u0.Back, .bool u0.Signed, .int .i64 u0.Mul, .int .i64 u0.Div, .int .i64 u0.Add, .int .i64 u0.Key], .slice ao1 u1.length cap2] (nog rfl _) rfl (by kernel_rfl) (fun _ => by kernel_rfl) (sget_fun u0 u1 hc58 ao1 cap2 _ _ hs3 hM30.fz) ?_; intro a60 wd62 hF61 hM63; clear hF57 hM30
  refine s1 hF61 8 (.int .i64 (getS u0 u1)) ?_; intro a64 hF65; clear hF61
  refine nlH (hQ53 _ _ ?_); clear hQ53 hQ53Q
  have hF66 : Fr 24 [] [⟨2, [], .pointer (some ⟨b6, 0, none⟩)⟩, ⟨5, [], .pointer (some ⟨b13, 0, none⟩)⟩, ⟨8, [], .int .i64 (getS u0 u1)⟩] a64 := hF65.region (by kernel_rfl) (by kernel_rfl); clear hF65
  refine sqH ?_; intro hQ67Q hQ67
  refine s1 hF66 20 (.int .i64 (getS u0 u1)) ?_; intro a68 hF69; clear hF66
  refine l2 hF69 hM63 21 1 0 9 [str u0.Name, .int .i64 u0.Start, .int .i64 u0.Size, .bool u0.Back, .bool u0.Signed, .int .i64 u0.Mul, .int .i64 u0.Div, .int .i64 u0.Add, .int .i64 u0.Key] rfl rfl ?_; intro a70 hF71; clear hF69
  refine s1 hF71 22 (.int .i64 (getS u0 u1)) ?_; intro a72 hF73; clear hF71
  have hc74 := hp59.1; have hp75 := hp59.2; clear hp59
  refine fcl hF73 hM63 (.agg #[str ((meanS u0 (getS u0 u1)).Name), .int .i64 ((meanS u0 (getS u0 u1)).Num), .int .i64 ((meanS u0 (getS u0 u1)).Den)]) 36 #[.agg #[str u0.Name, .int .i64 u0.Start, .int .i64 u0.Size, .bool u0.Back, .bool u0.Signed, .int .i64 u0.Mul, .int .i64 u0.Div, .int .i64 u0.Add, .int .i64 u0.Key], .int .i64 (getS u0 u1)] (nog rfl _) rfl (by kernel_rfl) (fun _ => by kernel_rfl) (smean_fun u0 (getS u0 u1) hc74 _ _ hM63.fz) ?_; intro a76 wd78 hF77 hM79; clear hF73 hM63
  refine s1 hF77 4 (.int .i64 (getS u0 u1)) ?_; intro a80 hF81; clear hF77
  refine sr hF81 hM79 0 [str ((meanS u0 (getS u0 u1)).Name), .int .i64 ((meanS u0 (getS u0 u1)).Num), .int .i64 ((meanS u0 (getS u0 u1)).Den)] (b := b13) (off := 0) (cs := [str [], .int .i64 0, .int .i64 0]) (ty := 26) (u := .agg #[str ((meanS u0 (getS u0 u1)).Name), .int .i64 ((meanS u0 (getS u0 u1)).Num), .int .i64 ((meanS u0 (getS u0 u1)).Den)]) (nog rfl _) rfl rfl (by kernel_rfl) (by kernel_rfl) (by kernel_rfl) (by kernel_rfl) (by kernel_rfl) (by kernel_rfl) (by kernel_rfl) ?_; intro wd82 hM83; clear hM79
  refine s1 hF81 6 (.int .i64 0) ?_; intro a84 hF85; clear hF81
  have hM86 : Mem w.heap.size [] w Z [.row b13 [str ((meanS u0 (getS u0 u1)).Name), .int .i64 ((meanS u0 (getS u0 u1)).Num), .int .i64 ((meanS u0 (getS u0 u1)).Den)] 26, .row b6 [str u0.Name, .int .i64 u0.Start, .int .i64 u0.Size, .bool u0.Back, .bool u0.Signed, .int .i64 u0.Mul, .int .i64 u0.Div, .int .i64 u0.Add, .int .i64 u0.Key] 23] Z wd82 := hM83; clear hM83
  refine nlH (hQ67 _ _ ?_); clear hQ67 hQ67Q
  refine wp_ret ?_
  refine rt (fn := Tryd.f7) (v := .tuple #[.int .i64 (getS u0 u1), .agg #[str ((meanS u0 (getS u0 u1)).Name), .int .i64 ((meanS u0 (getS u0 u1)).Num), .int .i64 ((meanS u0 (getS u0 u1)).Den)], .int .i64 0]) hF85 (re3m hF85 (fn := Tryd.f7) rfl (ad := ⟨b13, 0, none⟩) (by kernel_rfl) (loadVar_run hM86 0 (b := b13) (k := 3) (vs := [str ((meanS u0 (getS u0 u1)).Name), .int .i64 ((meanS u0 (getS u0 u1)).Num), .int .i64 ((meanS u0 (getS u0 u1)).Den)]) (ty := 26) rfl (by kernel_rfl) (by kernel_rfl)) (by kernel_rfl) (by kernel_rfl)) ?_
  exact ⟨((getS u0 u1), (meanS u0 (getS u0 u1)), 0), rfl, hp75, hM86.below⟩

end Go.Proofs.YtdndfbamhnchfaaDoor
