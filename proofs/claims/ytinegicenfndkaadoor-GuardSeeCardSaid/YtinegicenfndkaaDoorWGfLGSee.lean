/- The walks, made by program: each call does what its pure predicate says. -/
import Derived.Test.YtinegicenfndkaaDoorWGf
set_option linter.unusedVariables false
set_option linter.unusedSimpArgs false
namespace Go.Proofs.YtinegicenfndkaaDoor
open Go.Sy Go.RowKit
set_option maxRecDepth 100000 in
set_option maxHeartbeats 0 in
theorem LGSee_walk (u0 : Guard) (u1 : List Int) (u2 : Int) (ao1 : Option Addr) (cap2 : Nat) (Z : Fz) (w : World) (hs3 : SlR (tyInt .u8) Z ao1 cap2 u1) (hg5 : SlR (tyInt .u8) Z (some ⟨5, 0, none⟩) 64 deBruijn64) (hZ : Z.on w) {K : Bool → Prop} (hp : LGSee_vc u0 u1 u2 K) : Calls Tryd.prog 9 #[.agg #[.int .i64 u0.Key, .int .i64 u0.Last, .int .i64 u0.Bad, .int .i64 u0.State], .slice ao1 u1.length cap2, .int .i64 u2] w fun e w' => ∃ r : Bool, e = .returned (.bool r) ∧ K r ∧ Below w.heap.size w w' := by
 refine enter0 Tryd.func9 rfl rfl (by kernel_rfl) ?_; intro a0 hF0; have hM0 := Mem.start w Z hZ; have hle0 := Fz.le.refl Z
 have hp4 := hp (hs3.small); clear hp
 refine sqH ?_; intro hQ5Q hQ5
 refine sn hF0 hM0 (fun b => .pointer (some ⟨b, 0, none⟩)) [.int .i64 u0.Key, .int .i64 u0.Last, .int .i64 u0.Bad, .int .i64 u0.State] 62 (nog rfl _) rfl (by kernel_rfl) (by kernel_rfl) ?_; intro b6 a7 wd9 hF8 hM10; clear hF0 hM0
 refine s1 hF8 6 (.bool false) ?_; intro a11 hF12; clear hF8
 refine nlH (hQ5 _ _ ?_); clear hQ5 hQ5Q
 refine sqH ?_; intro hQ13Q hQ13
 refine l2 hF12 hM10 15 0 0 4 [.int .i64 u0.Key, .int .i64 u0.Last, .int .i64 u0.Bad, .int .i64 u0.State] rfl rfl ?_; intro a14 hF15; clear hF12
 refine s1 hF15 16 (.slice ao1 u1.length cap2) ?_; intro a16 hF17; clear hF15
 refine s1 hF17 17 (.int .i64 u2) ?_; intro a18 hF19; clear hF17
 have hc20 := hp4.1; have hp21 := hp4.2; clear hp4
 refine fcl hF19 hM10 (.tuple #[.agg #[.int .i64 (((gseeS u0 u1 u2).1).Key), .int .i64 (((gseeS u0 u1 u2).1).Last), .int .i64 (((gseeS u0 u1 u2).1).Bad), .int .i64 (((gseeS u0 u1 u2).1).State)], .int .i64 ((gseeS u0 u1 u2).2)]) 39 #[.agg #[.int .i64 u0.Key, .int .i64 u0.Last, .int .i64 u0.Bad, .int .i64 u0.State], .slice ao1 u1.length cap2, .int .i64 u2] (nog rfl _) rfl (by kernel_rfl) (fun _ => by kernel_rfl) (gsee_fun u0 u1 u2 hc20 ao1 cap2 _ _ hs3 hM10.fz) ?_; intro a22 wd24 hF23 hM25; clear hF19 hM10
 refine s1 hF23 14 (.tuple #[.agg #[.int .i64 (((gseeS u0 u1 u2).1).Key), .int .i64 (((gseeS u0 u1 u2).1).Last), .int .i64 (((gseeS u0 u1 u2).1).Bad), .int .i64 (((gseeS u0 u1 u2).1).State)], .int .i64 ((gseeS u0 u1 u2).2)]) ?_; intro a26 hF27; clear hF23
 refine s1 hF27 19 (.agg #[.int .i64 (((gseeS u0 u1 u2).1).Key), .int .i64 (((gseeS u0 u1 u2).1).Last), .int .i64 (((gseeS u0 u1 u2).1).Bad), .int .i64 (((gseeS u0 u1 u2).1).State)]) ?_; intro a28 hF29; clear hF27
 refine s1 hF29 20 (.int .i64 ((gseeS u0 u1 u2).2)) ?_; intro a30 hF31; clear hF29
 refine sn hF31 hM25 (fun b => .pointer (some ⟨b, 0, none⟩)) [.int .i64 0, .int .i64 0, .int .i64 0, .int .i64 0] 62 (nog rfl _) rfl (by kernel_rfl) (by kernel_rfl) ?_; intro b32 a33 wd35 hF34 hM36; clear hF31 hM25
 refine sr hF34 hM36 0 [.int .i64 (((gseeS u0 u1 u2).1).Key), .int .i64 (((gseeS u0 u1 u2).1).Last), .int .i64 (((gseeS u0 u1 u2).1).Bad), .int .i64 (((gseeS u0 u1 u2).1).State)] (b := b32) (off := 0) (cs := [.int .i64 0, .int .i64 0, .int .i64 0, .int .i64 0]) (ty := 62) (u := .agg #[.int .i64 (((gseeS u0 u1 u2).1).Key), .int .i64 (((gseeS u0 u1 u2).1).Last), .int .i64 (((gseeS u0 u1 u2).1).Bad), .int .i64 (((gseeS u0 u1 u2).1).State)]) (nog rfl _) rfl rfl (by kernel_rfl) (by kernel_rfl) (by kernel_rfl) (by kernel_rfl) (by kernel_rfl) (by kernel_rfl) (by kernel_rfl) ?_; intro wd37 hM38; clear hM36
 refine s1 hF34 8 (.int .i64 ((gseeS u0 u1 u2).2)) ?_; intro a39 hF40; clear hF34
 have hM41 : Mem w.heap.size [] w Z [.row b32 [.int .i64 (((gseeS u0 u1 u2).1).Key), .int .i64 (((gseeS u0 u1 u2).1).Last), .int .i64 (((gseeS u0 u1 u2).1).Bad), .int .i64 (((gseeS u0 u1 u2).1).State)] 62, .row b6 [.int .i64 u0.Key, .int .i64 u0.Last, .int .i64 u0.Bad, .int .i64 u0.State] 62] Z wd37 := hM38; clear hM38
 refine nlH (hQ13 _ _ ?_); clear hQ13 hQ13Q
 refine sqH ?_; intro hQ42Q hQ42
 refine s1 hF40 9 (.int .i64 0) ?_; intro a43 hF44; clear hF40
 refine nlH (hQ42 _ _ ?_); clear hQ42 hQ42Q
 refine wp_seq ?_
 refine sqH ?_; intro hQ45Q hQ45
 refine s1 hF44 21 (.pointer (some ⟨b6, 0, none⟩)) ?_; intro a46 hF47; clear hF44
 refine l1 hF47 hM41 22 1 0 (.int .i64 u0.Key) rfl rfl ?_; intro a48 hF49; clear hF47
 refine s1 hF49 23 (.bool (decide (u0.Key < 0))) ?_; intro a50 hF51; clear hF49
 refine s1 hF51 24 (.bool (decide (u0.Key < 0))) ?_; intro a52 hF53; clear hF51
 have hF54 := hF53.atom ((decide (u0.Key < 0)) == false) (by kernel_rfl); clear hF53
 refine gp hF54 25 0 [] (decide (u0.Key < 0)) (.pointer (some ⟨b6, 0, none⟩)) rfl rfl ?_; intro a55 hF56; clear hF54
 refine gd hF56 (.int .i64 u0.Key) (m := 0) (cj := []) (bj := decide (u0.Key < 0)) rfl rfl (by kernel_rfl) rfl (by kernel_rfl) (by kernel_rfl) (by kernel_rfl) (fun hg => ld hF56 hM41 1 (g := [0]) (b := b6) (off := 0) (cs := [.int .i64 u0.Key, .int .i64 u0.Last, .int .i64 u0.Bad, .int .i64 u0.State]) (ty := 62) rfl (by kernel_rfl) (by kernel_rfl) (by kernel_rfl) (by kernel_rfl) hg) ?_; intro a57 hF58; clear hF56
 refine gp hF58 27 0 [] (decide (u0.Key < 0)) (.bool (decide (u0.Key > 65535))) rfl rfl ?_; intro a59 hF60; clear hF58
 refine st hF60 (.bool ((decide (u0.Key < 0)) || (decide (u0.Key > 65535)))) (nog rfl _) rfl (by kernel_rfl) (pk_or hF60 (g := []) (m := 0) (b := decide (u0.Key < 0)) (v := decide (u0.Key > 65535)) rfl (by kernel_rfl) (by kernel_rfl) (by kernel_rfl) rfl) ?_; intro a61 hF62; clear hF60
 refine s1 hF62 29 (.bool ((decide (u0.Key < 0)) || (decide (u0.Key > 65535)))) ?_; intro a63 hF64; clear hF62
 have hF65 := hF64.atom (((decide (u0.Key < 0)) || (decide (u0.Key > 65535))) == false) (by kernel_rfl); clear hF64
 refine gp hF65 30 1 [] ((decide (u0.Key < 0)) || (decide (u0.Key > 65535))) (.pointer (some ⟨b6, 1, none⟩)) rfl rfl ?_; intro a66 hF67; clear hF65
 refine gd hF67 (.int .i64 u0.Last) (m := 1) (cj := []) (bj := (decide (u0.Key < 0)) || (decide (u0.Key > 65535))) rfl rfl (by kernel_rfl) rfl (by kernel_rfl) (by kernel_rfl) (by kernel_rfl) (fun hg => ld hF67 hM41 1 (g := [1]) (b := b6) (off := 1) (cs := [.int .i64 u0.Key, .int .i64 u0.Last, .int .i64 u0.Bad, .int .i64 u0.State]) (ty := 62) rfl (by kernel_rfl) (by kernel_rfl) (by kernel_rfl) (by kernel_rfl) hg) ?_; intro a68 hF69; clear hF67
 refine gp hF69 32 1 [] ((decide (u0.Key < 0)) || (decide (u0.Key > 65535))) (.bool (decide (u0.Last < (-1)))) rfl rfl ?_; intro a70 hF71; clear hF69
 refine st hF71 (.bool (((decide (u0.Key < 0)) || (decide (u0.Key > 65535))) || (decide (u0.Last < (-1))))) (nog rfl _) rfl (by kernel_rfl) (pk_or hF71 (g := []) (m := 1) (b := (decide (u0.Key < 0)) || (decide (u0.Key > 65535))) (v := decide (u0.Last < (-1))) rfl (by kernel_rfl) (by kernel_rfl) (by kernel_rfl) rfl) ?_; intro a72 hF73; clear hF71
 refine s1 hF73 34 (.bool (((decide (u0.Key < 0)) || (decide (u0.Key > 65535))) || (decide (u0.Last < (-1))))) ?_; intro a74 hF75; clear hF73
 have hF76 := hF75.atom ((((decide (u0.Key < 0)) || (decide (u0.Key > 65535))) || (decide (u0.Last < (-1)))) == false) (by kernel_rfl); clear hF75
 refine gp hF76 35 2 [] (((decide (u0.Key < 0)) || (decide (u0.Key > 65535))) || (decide (u0.Last < (-1)))) (.pointer (some ⟨b6, 1, none⟩)) rfl rfl ?_; intro a77 hF78; clear hF76
 refine gd hF78 (.int .i64 u0.Last) (m := 2) (cj := []) (bj := ((decide (u0.Key < 0)) || (decide (u0.Key > 65535))) || (decide (u0.Last < (-1)))) rfl rfl (by kernel_rfl) rfl (by kernel_rfl) (by kernel_rfl) (by kernel_rfl) (fun hg => ld hF78 hM41 1 (g := [2]) (b := b6) (off := 1) (cs := [.int .i64 u0.Key, .int .i64 u0.Last, .int .i64 u0.Bad, .int .i64 u0.State]) (ty := 62) rfl (by kernel_rfl) (by kernel_rfl) (by kernel_rfl) (by kernel_rfl) hg) ?_; intro a79 hF80; clear hF78
 refine gp hF80 37 2 [] (((decide (u0.Key < 0)) || (decide (u0.Key > 65535))) || (decide (u0.Last < (-1)))) (.bool (decide (u0.Last > 14))) rfl rfl ?_; intro a81 hF82; clear hF80
 refine st hF82 (.bool ((((decide (u0.Key < 0)) || (decide (u0.Key > 65535))) || (decide (u0.Last < (-1)))) || (decide (u0.Last > 14)))) (nog rfl _) rfl (by kernel_rfl) (pk_or hF82 (g := []) (m := 2) (b := ((decide (u0.Key < 0)) || (decide (u0.Key > 65535))) || (decide (u0.Last < (-1)))) (v := decide (u0.Last > 14)) rfl (by kernel_rfl) (by kernel_rfl) (by kernel_rfl) rfl) ?_; intro a83 hF84; clear hF82
 refine s1 hF84 39 (.bool ((((decide (u0.Key < 0)) || (decide (u0.Key > 65535))) || (decide (u0.Last < (-1)))) || (decide (u0.Last > 14)))) ?_; intro a85 hF86; clear hF84
 have hF87 := hF86.atom (((((decide (u0.Key < 0)) || (decide (u0.Key > 65535))) || (decide (u0.Last < (-1)))) || (decide (u0.Last > 14))) == false) (by kernel_rfl); clear hF86
 refine gp hF87 40 3 [] ((((decide (u0.Key < 0)) || (decide (u0.Key > 65535))) || (decide (u0.Last < (-1)))) || (decide (u0.Last > 14))) (.pointer (some ⟨b6, 2, none⟩)) rfl rfl ?_; intro a88 hF89; clear hF87
 refine gd hF89 (.int .i64 u0.Bad) (m := 3) (cj := []) (bj := (((decide (u0.Key < 0)) || (decide (u0.Key > 65535))) || (decide (u0.Last < (-1)))) || (decide (u0.Last > 14))) rfl rfl (by kernel_rfl) rfl (by kernel_rfl) (by kernel_rfl) (by kernel_rfl) (fun hg => ld hF89 hM41 1 (g := [3]) (b := b6) (off := 2) (cs := [.int .i64 u0.Key, .int .i64 u0.Last, .int .i64 u0.Bad, .int .i64 u0.State]) (ty := 62) rfl (by kernel_rfl) (by kernel_rfl) (by kernel_rfl) (by kernel_rfl) hg) ?_; intro a90 hF91; clear hF89
 refine gp hF91 42 3 [] ((((decide (u0.Key < 0)) || (decide (u0.Key > 65535))) || (decide (u0.Last < (-1)))) || (decide (u0.Last > 14))) (.bool (decide (u0.Bad < 0))) rfl rfl ?_; intro a92 hF93; clear hF91
 refine st hF93 (.bool (((((decide (u0.Key < 0)) || (decide (u0.Key > 65535))) || (decide (u0.Last < (-1)))) || (decide (u0.Last > 14))) || (decide (u0.Bad < 0)))) (nog rfl _) rfl (by kernel_rfl) (pk_or hF93 (g := []) (m := 3) (b := (((decide (u0.Key < 0)) || (decide (u0.Key > 65535))) || (decide (u0.Last < (-1)))) || (decide (u0.Last > 14))) (v := decide (u0.Bad < 0)) rfl (by kernel_rfl) (by kernel_rfl) (by kernel_rfl) rfl) ?_; intro a94 hF95; clear hF93
 refine s1 hF95 44 (.bool (((((decide (u0.Key < 0)) || (decide (u0.Key > 65535))) || (decide (u0.Last < (-1)))) || (decide (u0.Last > 14))) || (decide (u0.Bad < 0)))) ?_; intro a96 hF97; clear hF95
 have hF98 := hF97.atom ((((((decide (u0.Key < 0)) || (decide (u0.Key > 65535))) || (decide (u0.Last < (-1)))) || (decide (u0.Last > 14))) || (decide (u0.Bad < 0))) == false) (by kernel_rfl); clear hF97
 refine gp hF98 45 4 [] (((((decide (u0.Key < 0)) || (decide (u0.Key > 65535))) || (decide (u0.Last < (-1)))) || (decide (u0.Last > 14))) || (decide (u0.Bad < 0))) (.pointer (some ⟨b6, 3, none⟩)) rfl rfl ?_; intro a99 hF100; clear hF98
 refine gd hF100 (.int .i64 u0.State) (m := 4) (cj := []) (bj := ((((decide (u0.Key < 0)) || (decide (u0.Key > 65535))) || (decide (u0.Last < (-1)))) || (decide (u0.Last > 14))) || (decide (u0.Bad < 0))) rfl rfl (by kernel_rfl) rfl (by kernel_rfl) (by kernel_rfl) (by kernel_rfl) (fun hg => ld hF100 hM41 1 (g := [4]) (b := b6) (off := 3) (cs := [.int .i64 u0.Key, .int .i64 u0.Last, .int .i64 u0.Bad, .int .i64 u0.State]) (ty := 62) rfl (by kernel_rfl) (by kernel_rfl) (by kernel_rfl) (by kernel_rfl) hg) ?_; intro a101 hF102; clear hF100
 refine gp hF102 47 4 [] (((((decide (u0.Key < 0)) || (decide (u0.Key > 65535))) || (decide (u0.Last < (-1)))) || (decide (u0.Last > 14))) || (decide (u0.Bad < 0))) (.bool (decide (u0.State < 0))) rfl rfl ?_; intro a103 hF104; clear hF102
 refine st hF104 (.bool ((((((decide (u0.Key < 0)) || (decide (u0.Key > 65535))) || (decide (u0.Last < (-1)))) || (decide (u0.Last > 14))) || (decide (u0.Bad < 0))) || (decide (u0.State < 0)))) (nog rfl _) rfl (by kernel_rfl) (pk_or hF104 (g := []) (m := 4) (b := ((((decide (u0.Key < 0)) || (decide (u0.Key > 65535))) || (decide (u0.Last < (-1)))) || (decide (u0.Last > 14))) || (decide (u0.Bad < 0))) (v := decide (u0.State < 0)) rfl (by kernel_rfl) (by kernel_rfl) (by kernel_rfl) rfl) ?_; intro a105 hF106; clear hF104
 refine s1 hF106 49 (.bool ((((((decide (u0.Key < 0)) || (decide (u0.Key > 65535))) || (decide (u0.Last < (-1)))) || (decide (u0.Last > 14))) || (decide (u0.Bad < 0))) || (decide (u0.State < 0)))) ?_; intro a107 hF108; clear hF106
 have hF109 := hF108.atom (((((((decide (u0.Key < 0)) || (decide (u0.Key > 65535))) || (decide (u0.Last < (-1)))) || (decide (u0.Last > 14))) || (decide (u0.Bad < 0))) || (decide (u0.State < 0))) == false) (by kernel_rfl); clear hF108
 refine gp hF109 50 5 [] ((((((decide (u0.Key < 0)) || (decide (u0.Key > 65535))) || (decide (u0.Last < (-1)))) || (decide (u0.Last > 14))) || (decide (u0.Bad < 0))) || (decide (u0.State < 0))) (.pointer (some ⟨b6, 3, none⟩)) rfl rfl ?_; intro a110 hF111; clear hF109
 refine gd hF111 (.int .i64 u0.State) (m := 5) (cj := []) (bj := (((((decide (u0.Key < 0)) || (decide (u0.Key > 65535))) || (decide (u0.Last < (-1)))) || (decide (u0.Last > 14))) || (decide (u0.Bad < 0))) || (decide (u0.State < 0))) rfl rfl (by kernel_rfl) rfl (by kernel_rfl) (by kernel_rfl) (by kernel_rfl) (fun hg => ld hF111 hM41 1 (g := [5]) (b := b6) (off := 3) (cs := [.int .i64 u0.Key, .int .i64 u0.Last, .int .i64 u0.Bad, .int .i64 u0.State]) (ty := 62) rfl (by kernel_rfl) (by kernel_rfl) (by kernel_rfl) (by kernel_rfl) hg) ?_; intro a112 hF113; clear hF111
 refine gp hF113 52 5 [] ((((((decide (u0.Key < 0)) || (decide (u0.Key > 65535))) || (decide (u0.Last < (-1)))) || (decide (u0.Last > 14))) || (decide (u0.Bad < 0))) || (decide (u0.State < 0))) (.bool (decide (u0.State > 4))) rfl rfl ?_; intro a114 hF115; clear hF113
 refine st hF115 (.bool (((((((decide (u0.Key < 0)) || (decide (u0.Key > 65535))) || (decide (u0.Last < (-1)))) || (decide (u0.Last > 14))) || (decide (u0.Bad < 0))) || (decide (u0.State < 0))) || (decide (u0.State > 4)))) (nog rfl _) rfl (by kernel_rfl) (pk_or hF115 (g := []) (m := 5) (b := (((((decide (u0.Key < 0)) || (decide (u0.Key > 65535))) || (decide (u0.Last < (-1)))) || (decide (u0.Last > 14))) || (decide (u0.Bad < 0))) || (decide (u0.State < 0))) (v := decide (u0.State > 4)) rfl (by kernel_rfl) (by kernel_rfl) (by kernel_rfl) rfl) ?_; intro a116 hF117; clear hF115
 refine nlH (hQ45 _ _ ?_); clear hQ45 hQ45Q
 refine cd hF117 (t := ((((((decide (u0.Key < 0)) || (decide (u0.Key > 65535))) || (decide (u0.Last < (-1)))) || (decide (u0.Last > 14))) || (decide (u0.Bad < 0))) || (decide (u0.State < 0))) || (decide (u0.State > 4))) (by kernel_rfl) (fun hb118 => ?_) (fun hb118 => ?_)
 ·
  have hp119 := hp21.1 hb118; clear hp21
  have hF120 : Fr 155 [] [⟨1, [], .slice ao1 u1.length cap2⟩, ⟨2, [], .int .i64 u2⟩, ⟨3, [], .pointer (some ⟨b6, 0, none⟩)⟩, ⟨7, [], .pointer (some ⟨b32, 0, none⟩)⟩, ⟨8, [], .int .i64 ((gseeS u0 u1 u2).2)⟩] a116 := hF117.reg; clear hF117
  refine rgH ?_; intro hQ121Q hQ121
  refine s1 hF120 9 (.int .i64 3) ?_; intro a122 hF123; clear hF120
  refine nlH (hQ121 _ _ ?_); clear hQ121 hQ121Q
  refine thn ?_
  refine wp_seq ?_
  refine sqH ?_; intro hQ124Q hQ124
  refine fcl hF123 hM41 (.bool true) 40 #[] (nog rfl _) rfl (by kernel_rfl) (fun _ => by kernel_rfl) (guarded_fun  _ _ hM41.fz) ?_; intro a125 wd127 hF126 hM128; clear hF123 hM41
  refine s1 hF126 55 (.bool false) ?_; intro a129 hF130; clear hF126
  refine s1 hF130 56 (.bool false) ?_; intro a131 hF132; clear hF130
  refine st hF132 (.agg #[.int .i64 u0.Key, .int .i64 u0.Last, .int .i64 u0.Bad, .int .i64 u0.State]) (by rw [wanted_of hF132 (b := false) rfl rfl (by kernel_rfl) (by kernel_rfl)]; rfl) rfl (by kernel_rfl) (lda hF132 hM128 1 (g := []) (b := b6) (off := 0) (k := 4) (cs := [.int .i64 u0.Key, .int .i64 u0.Last, .int .i64 u0.Bad, .int .i64 u0.State]) (vs := [.int .i64 u0.Key, .int .i64 u0.Last, .int .i64 u0.Bad, .int .i64 u0.State]) (ty := 62) rfl (by kernel_rfl) (by kernel_rfl) (by kernel_rfl) (by kernel_rfl) (by kernel_rfl) rfl) ?_; intro a133 hF134; clear hF132
  refine fcl hF134 hM128 (.int .i64 (gcheck u0)) 41 #[.agg #[.int .i64 u0.Key, .int .i64 u0.Last, .int .i64 u0.Bad, .int .i64 u0.State]] (by rw [wanted_of hF134 (b := false) rfl rfl (by kernel_rfl) (by kernel_rfl)]; rfl) rfl (by kernel_rfl) (fun _ => by kernel_rfl) (gcheck_fun u0 _ _ hM128.fz) ?_; intro a135 wd137 hF136 hM138; clear hF134 hM128
  refine st hF136 (.int .i64 3) (by rw [wanted_of hF136 (b := false) rfl rfl (by kernel_rfl) (by kernel_rfl)]; rfl) rfl (by kernel_rfl) (p0 hF136 (by kernel_rfl)) ?_; intro a139 hF140; clear hF136
  refine st hF140 (.bool ((gcheck u0) != 3)) (by rw [wanted_of hF140 (b := false) rfl rfl (by kernel_rfl) (by kernel_rfl)]; rfl) rfl (by kernel_rfl) (p0 hF140 (by kernel_rfl)) ?_; intro a141 hF142; clear hF140
  refine s1 hF142 61 (.bool ((gcheck u0) != 3)) ?_; intro a143 hF144; clear hF142
  refine nlH (hQ124 _ _ ?_); clear hQ124 hQ124Q
  refine cd hF144 (t := (gcheck u0) != 3) (by kernel_rfl) (fun hb145 => ?_) (fun hb145 => ?_)
  ·
   have hp146 := hp119.1 hb145; clear hp119
   refine sqH ?_; intro hQ147Q hQ147
   refine s1 hF144 6 (.bool false) ?_; intro a148 hF149; clear hF144
   refine nlH (hQ147 _ _ ?_); clear hQ147 hQ147Q
   refine wp_ret ?_
   refine thr ?_
   refine rt (fn := Tryd.f9) (v := .bool false) hF149 (re1 hF149 (fn := Tryd.f9) rfl (by kernel_rfl)) ?_
   exact ⟨false, rfl, hp146, hM138.below⟩
  ·
   have hp150 := hp119.2 hb145; clear hp119
   refine wp_skip ?_
   refine thn ?_
   refine wp_seq ?_
   refine wp_block ?_
   refine sqH ?_; intro hQ151Q hQ151
   refine s1 hF144 63 (.int .i64 3) ?_; intro a152 hF153; clear hF144
   refine s1 hF153 64 (.bool true) ?_; intro a154 hF155; clear hF153
   refine s1 hF155 62 (.bool true) ?_; intro a156 hF157; clear hF155
   refine nlH (hQ151 _ _ ?_); clear hQ151 hQ151Q
   refine cdT hF157 (by kernel_rfl) ?_
   refine wp_skip ?_
   refine ibn ?_
   refine thn ?_
   refine wp_seq ?_
   refine sqH ?_; intro hQ158Q hQ158
   refine s1 hF157 80 (.int .i64 3) ?_; intro a159 hF160; clear hF157
   refine s1 hF160 81 (.bool true) ?_; intro a161 hF162; clear hF160
   refine nlH (hQ158 _ _ ?_); clear hQ158 hQ158Q
   refine cdT hF162 (by kernel_rfl) ?_
   have hF163 : Fr 155 [] [⟨7, [], .pointer (some ⟨b32, 0, none⟩)⟩, ⟨8, [], .int .i64 ((gseeS u0 u1 u2).2)⟩, ⟨9, [], .int .i64 3⟩] a161 := hF162.reg; clear hF162
   refine sqH ?_; intro hQ164Q hQ164
   refine s1 hF163 82 (.int .i64 ((gseeS u0 u1 u2).2)) ?_; intro a165 hF166; clear hF163
   refine s1 hF166 83 (.int .i64 3) ?_; intro a167 hF168; clear hF166
   refine s1 hF168 84 (.bool (((gseeS u0 u1 u2).2) == 3)) ?_; intro a169 hF170; clear hF168
   refine s1 hF170 85 (.bool (((gseeS u0 u1 u2).2) == 3)) ?_; intro a171 hF172; clear hF170
   have hF173 := hF172.atom ((((gseeS u0 u1 u2).2) == 3) == true) (by kernel_rfl); clear hF172
   refine gd hF173 (.agg #[.int .i64 (((gseeS u0 u1 u2).1).Key), .int .i64 (((gseeS u0 u1 u2).1).Last), .int .i64 (((gseeS u0 u1 u2).1).Bad), .int .i64 (((gseeS u0 u1 u2).1).State)]) (m := 0) (cj := []) (bj := ((gseeS u0 u1 u2).2) == 3) rfl rfl (by kernel_rfl) rfl (by kernel_rfl) (by kernel_rfl) (by kernel_rfl) (fun hg => lda hF173 hM138 0 (g := [0]) (b := b32) (off := 0) (k := 4) (cs := [.int .i64 (((gseeS u0 u1 u2).1).Key), .int .i64 (((gseeS u0 u1 u2).1).Last), .int .i64 (((gseeS u0 u1 u2).1).Bad), .int .i64 (((gseeS u0 u1 u2).1).State)]) (vs := [.int .i64 (((gseeS u0 u1 u2).1).Key), .int .i64 (((gseeS u0 u1 u2).1).Last), .int .i64 (((gseeS u0 u1 u2).1).Bad), .int .i64 (((gseeS u0 u1 u2).1).State)]) (ty := 62) rfl (by kernel_rfl) (by kernel_rfl) (by kernel_rfl) (by kernel_rfl) (by kernel_rfl) hg) ?_; intro a174 hF175; clear hF173
   refine gp hF175 87 0 [] (((gseeS u0 u1 u2).2) == 3) (.agg #[.int .i64 0, .int .i64 0, .int .i64 0, .int .i64 0]) rfl rfl ?_; intro a176 hF177; clear hF175
   refine gd hF177 (.bool (((((gseeS u0 u1 u2).1).Key) == 0) && (((((gseeS u0 u1 u2).1).Last) == 0) && (((((gseeS u0 u1 u2).1).Bad) == 0) && (((((gseeS u0 u1 u2).1).State) == 0) && true))))) (m := 0) (cj := []) (bj := ((gseeS u0 u1 u2).2) == 3) rfl rfl (by kernel_rfl) rfl (by kernel_rfl) (by kernel_rfl) (by kernel_rfl) (fun hg => eqs_run hF177 (g := [0]) (xs := #[.int .i64 (((gseeS u0 u1 u2).1).Key), .int .i64 (((gseeS u0 u1 u2).1).Last), .int .i64 (((gseeS u0 u1 u2).1).Bad), .int .i64 (((gseeS u0 u1 u2).1).State)]) (ys := #[.int .i64 0, .int .i64 0, .int .i64 0, .int .i64 0]) (b := ((((gseeS u0 u1 u2).1).Key) == 0) && (((((gseeS u0 u1 u2).1).Last) == 0) && (((((gseeS u0 u1 u2).1).Bad) == 0) && (((((gseeS u0 u1 u2).1).State) == 0) && true)))) rfl (by kernel_rfl) (by kernel_rfl) (by kernel_rfl) (by kernel_rfl) hg) ?_; intro a178 hF179; clear hF177
   refine st hF179 (.bool ((((gseeS u0 u1 u2).2) == 3) && (((((gseeS u0 u1 u2).1).Key) == 0) && (((((gseeS u0 u1 u2).1).Last) == 0) && (((((gseeS u0 u1 u2).1).Bad) == 0) && (((((gseeS u0 u1 u2).1).State) == 0) && true)))))) (nog rfl _) rfl (by kernel_rfl) (pk_and hF179 (g := []) (m := 0) (b := ((gseeS u0 u1 u2).2) == 3) (v := ((((gseeS u0 u1 u2).1).Key) == 0) && (((((gseeS u0 u1 u2).1).Last) == 0) && (((((gseeS u0 u1 u2).1).Bad) == 0) && (((((gseeS u0 u1 u2).1).State) == 0) && true)))) rfl (by kernel_rfl) (by kernel_rfl) (by kernel_rfl) rfl) ?_; intro a180 hF181; clear hF179
   refine s1 hF181 6 (.bool ((((gseeS u0 u1 u2).2) == 3) && (((((gseeS u0 u1 u2).1).Key) == 0) && (((((gseeS u0 u1 u2).1).Last) == 0) && (((((gseeS u0 u1 u2).1).Bad) == 0) && (((((gseeS u0 u1 u2).1).State) == 0) && true)))))) ?_; intro a182 hF183; clear hF181
   refine nlH (hQ164 _ _ ?_); clear hQ164 hQ164Q
   refine wp_ret ?_
   refine thr ?_
   refine rt (fn := Tryd.f9) (v := .bool ((((gseeS u0 u1 u2).2) == 3) && (((((gseeS u0 u1 u2).1).Key) == 0) && (((((gseeS u0 u1 u2).1).Last) == 0) && (((((gseeS u0 u1 u2).1).Bad) == 0) && (((((gseeS u0 u1 u2).1).State) == 0) && true)))))) hF183 (re1 hF183 (fn := Tryd.f9) rfl (by kernel_rfl)) ?_
   exact ⟨(((gseeS u0 u1 u2).2) == 3) && (((((gseeS u0 u1 u2).1).Key) == 0) && (((((gseeS u0 u1 u2).1).Last) == 0) && (((((gseeS u0 u1 u2).1).Bad) == 0) && (((((gseeS u0 u1 u2).1).State) == 0) && true)))), rfl, hp150, hM138.below⟩
 ·
  have hp184 := hp21.2 hb118; clear hp21
  refine wp_skip ?_
  refine thn ?_
  refine wp_seq ?_
  have hF185 : Fr 155 [] [⟨1, [], .slice ao1 u1.length cap2⟩, ⟨2, [], .int .i64 u2⟩, ⟨3, [], .pointer (some ⟨b6, 0, none⟩)⟩, ⟨7, [], .pointer (some ⟨b32, 0, none⟩)⟩, ⟨8, [], .int .i64 ((gseeS u0 u1 u2).2)⟩, ⟨9, [], .int .i64 0⟩] a116 := hF117.reg; clear hF117
  refine sqH ?_; intro hQ186Q hQ186
  refine fcl hF185 hM41 (.bool true) 40 #[] (nog rfl _) rfl (by kernel_rfl) (fun _ => by kernel_rfl) (guarded_fun  _ _ hM41.fz) ?_; intro a187 wd189 hF188 hM190; clear hF185 hM41
  refine s1 hF188 55 (.bool false) ?_; intro a191 hF192; clear hF188
  refine s1 hF192 56 (.bool false) ?_; intro a193 hF194; clear hF192
  refine st hF194 (.agg #[.int .i64 u0.Key, .int .i64 u0.Last, .int .i64 u0.Bad, .int .i64 u0.State]) (by rw [wanted_of hF194 (b := false) rfl rfl (by kernel_rfl) (by kernel_rfl)]; rfl) rfl (by kernel_rfl) (lda hF194 hM190 1 (g := []) (b := b6) (off := 0) (k := 4) (cs := [.int .i64 u0.Key, .int .i64 u0.Last, .int .i64 u0.Bad, .int .i64 u0.State]) (vs := [.int .i64 u0.Key, .int .i64 u0.Last, .int .i64 u0.Bad, .int .i64 u0.State]) (ty := 62) rfl (by kernel_rfl) (by kernel_rfl) (by kernel_rfl) (by kernel_rfl) (by kernel_rfl) rfl) ?_; intro a195 hF196; clear hF194
  refine fcl hF196 hM190 (.int .i64 (gcheck u0)) 41 #[.agg #[.int .i64 u0.Key, .int .i64 u0.Last, .int .i64 u0.Bad, .int .i64 u0.State]] (by rw [wanted_of hF196 (b := false) rfl rfl (by kernel_rfl) (by kernel_rfl)]; rfl) rfl (by kernel_rfl) (fun _ => by kernel_rfl) (gcheck_fun u0 _ _ hM190.fz) ?_; intro a197 wd199 hF198 hM200; clear hF196 hM190
  refine st hF198 (.int .i64 0) (by rw [wanted_of hF198 (b := false) rfl rfl (by kernel_rfl) (by kernel_rfl)]; rfl) rfl (by kernel_rfl) (p0 hF198 (by kernel_rfl)) ?_; intro a201 hF202; clear hF198
  refine st hF202 (.bool ((gcheck u0) != 0)) (by rw [wanted_of hF202 (b := false) rfl rfl (by kernel_rfl) (by kernel_rfl)]; rfl) rfl (by kernel_rfl) (p0 hF202 (by kernel_rfl)) ?_; intro a203 hF204; clear hF202
  refine s1 hF204 61 (.bool ((gcheck u0) != 0)) ?_; intro a205 hF206; clear hF204
  refine nlH (hQ186 _ _ ?_); clear hQ186 hQ186Q
  refine cd hF206 (t := (gcheck u0) != 0) (by kernel_rfl) (fun hb207 => ?_) (fun hb207 => ?_)
  ·
   have hp208 := hp184.1 hb207; clear hp184
   refine sqH ?_; intro hQ209Q hQ209
   refine s1 hF206 6 (.bool false) ?_; intro a210 hF211; clear hF206
   refine nlH (hQ209 _ _ ?_); clear hQ209 hQ209Q
   refine wp_ret ?_
   refine thr ?_
   refine rt (fn := Tryd.f9) (v := .bool false) hF211 (re1 hF211 (fn := Tryd.f9) rfl (by kernel_rfl)) ?_
   exact ⟨false, rfl, hp208, hM200.below⟩
  ·
   have hp212 := hp184.2 hb207; clear hp184
   refine wp_skip ?_
   refine thn ?_
   refine wp_seq ?_
   refine wp_block ?_
   refine sqH ?_; intro hQ213Q hQ213
   refine s1 hF206 63 (.int .i64 0) ?_; intro a214 hF215; clear hF206
   refine s1 hF215 64 (.bool false) ?_; intro a216 hF217; clear hF215
   refine s1 hF217 62 (.bool false) ?_; intro a218 hF219; clear hF217
   refine nlH (hQ213 _ _ ?_); clear hQ213 hQ213Q
   refine cdF hF219 (by kernel_rfl) ?_
   refine sqH ?_; intro hQ220Q hQ220
   refine s1 hF219 66 (.int .i64 u2) ?_; intro a221 hF222; clear hF219
   refine s1 hF222 67 (.bool (decide (u2 < 1))) ?_; intro a223 hF224; clear hF222
   refine s1 hF224 68 (.bool (decide (u2 < 1))) ?_; intro a225 hF226; clear hF224
   have hF227 := hF226.atom ((decide (u2 < 1)) == false) (by kernel_rfl); clear hF226
   refine gp hF227 69 0 [] (decide (u2 < 1)) (.int .i64 u2) rfl rfl ?_; intro a228 hF229; clear hF227
   refine gp hF229 70 0 [] (decide (u2 < 1)) (.bool (decide (u2 > 14))) rfl rfl ?_; intro a230 hF231; clear hF229
   refine st hF231 (.bool ((decide (u2 < 1)) || (decide (u2 > 14)))) (nog rfl _) rfl (by kernel_rfl) (pk_or hF231 (g := []) (m := 0) (b := decide (u2 < 1)) (v := decide (u2 > 14)) rfl (by kernel_rfl) (by kernel_rfl) (by kernel_rfl) rfl) ?_; intro a232 hF233; clear hF231
   refine s1 hF233 65 (.bool ((decide (u2 < 1)) || (decide (u2 > 14)))) ?_; intro a234 hF235; clear hF233
   refine nlH (hQ220 _ _ ?_); clear hQ220 hQ220Q
   refine cd hF235 (t := (decide (u2 < 1)) || (decide (u2 > 14))) (by kernel_rfl) (fun hb236 => ?_) (fun hb236 => ?_)
   ·
    have hp237 := hp212.1 hb236; clear hp212
    have hF238 : Fr 155 [] [⟨1, [], .slice ao1 u1.length cap2⟩, ⟨2, [], .int .i64 u2⟩, ⟨3, [], .pointer (some ⟨b6, 0, none⟩)⟩, ⟨7, [], .pointer (some ⟨b32, 0, none⟩)⟩, ⟨8, [], .int .i64 ((gseeS u0 u1 u2).2)⟩] a234 := hF235.reg; clear hF235
    refine rgH ?_; intro hQ239Q hQ239
    refine s1 hF238 9 (.int .i64 3) ?_; intro a240 hF241; clear hF238
    refine nlH (hQ239 _ _ ?_); clear hQ239 hQ239Q
    refine ibn ?_
    refine thn ?_
    refine wp_seq ?_
    refine sqH ?_; intro hQ242Q hQ242
    refine s1 hF241 80 (.int .i64 3) ?_; intro a243 hF244; clear hF241
    refine s1 hF244 81 (.bool true) ?_; intro a245 hF246; clear hF244
    refine nlH (hQ242 _ _ ?_); clear hQ242 hQ242Q
    refine cdT hF246 (by kernel_rfl) ?_
    refine sqH ?_; intro hQ247Q hQ247
    refine s1 hF246 82 (.int .i64 ((gseeS u0 u1 u2).2)) ?_; intro a248 hF249; clear hF246
    refine s1 hF249 83 (.int .i64 3) ?_; intro a250 hF251; clear hF249
    refine s1 hF251 84 (.bool (((gseeS u0 u1 u2).2) == 3)) ?_; intro a252 hF253; clear hF251
    refine s1 hF253 85 (.bool (((gseeS u0 u1 u2).2) == 3)) ?_; intro a254 hF255; clear hF253
    have hF256 := hF255.atom ((((gseeS u0 u1 u2).2) == 3) == true) (by kernel_rfl); clear hF255
    refine gd hF256 (.agg #[.int .i64 (((gseeS u0 u1 u2).1).Key), .int .i64 (((gseeS u0 u1 u2).1).Last), .int .i64 (((gseeS u0 u1 u2).1).Bad), .int .i64 (((gseeS u0 u1 u2).1).State)]) (m := 0) (cj := []) (bj := ((gseeS u0 u1 u2).2) == 3) rfl rfl (by kernel_rfl) rfl (by kernel_rfl) (by kernel_rfl) (by kernel_rfl) (fun hg => lda hF256 hM200 0 (g := [0]) (b := b32) (off := 0) (k := 4) (cs := [.int .i64 (((gseeS u0 u1 u2).1).Key), .int .i64 (((gseeS u0 u1 u2).1).Last), .int .i64 (((gseeS u0 u1 u2).1).Bad), .int .i64 (((gseeS u0 u1 u2).1).State)]) (vs := [.int .i64 (((gseeS u0 u1 u2).1).Key), .int .i64 (((gseeS u0 u1 u2).1).Last), .int .i64 (((gseeS u0 u1 u2).1).Bad), .int .i64 (((gseeS u0 u1 u2).1).State)]) (ty := 62) rfl (by kernel_rfl) (by kernel_rfl) (by kernel_rfl) (by kernel_rfl) (by kernel_rfl) hg) ?_; intro a257 hF258; clear hF256
    refine gp hF258 87 0 [] (((gseeS u0 u1 u2).2) == 3) (.agg #[.int .i64 0, .int .i64 0, .int .i64 0, .int .i64 0]) rfl rfl ?_; intro a259 hF260; clear hF258
    refine gd hF260 (.bool (((((gseeS u0 u1 u2).1).Key) == 0) && (((((gseeS u0 u1 u2).1).Last) == 0) && (((((gseeS u0 u1 u2).1).Bad) == 0) && (((((gseeS u0 u1 u2).1).State) == 0) && true))))) (m := 0) (cj := []) (bj := ((gseeS u0 u1 u2).2) == 3) rfl rfl (by kernel_rfl) rfl (by kernel_rfl) (by kernel_rfl) (by kernel_rfl) (fun hg => eqs_run hF260 (g := [0]) (xs := #[.int .i64 (((gseeS u0 u1 u2).1).Key), .int .i64 (((gseeS u0 u1 u2).1).Last), .int .i64 (((gseeS u0 u1 u2).1).Bad), .int .i64 (((gseeS u0 u1 u2).1).State)]) (ys := #[.int .i64 0, .int .i64 0, .int .i64 0, .int .i64 0]) (b := ((((gseeS u0 u1 u2).1).Key) == 0) && (((((gseeS u0 u1 u2).1).Last) == 0) && (((((gseeS u0 u1 u2).1).Bad) == 0) && (((((gseeS u0 u1 u2).1).State) == 0) && true)))) rfl (by kernel_rfl) (by kernel_rfl) (by kernel_rfl) (by kernel_rfl) hg) ?_; intro a261 hF262; clear hF260
    refine st hF262 (.bool ((((gseeS u0 u1 u2).2) == 3) && (((((gseeS u0 u1 u2).1).Key) == 0) && (((((gseeS u0 u1 u2).1).Last) == 0) && (((((gseeS u0 u1 u2).1).Bad) == 0) && (((((gseeS u0 u1 u2).1).State) == 0) && true)))))) (nog rfl _) rfl (by kernel_rfl) (pk_and hF262 (g := []) (m := 0) (b := ((gseeS u0 u1 u2).2) == 3) (v := ((((gseeS u0 u1 u2).1).Key) == 0) && (((((gseeS u0 u1 u2).1).Last) == 0) && (((((gseeS u0 u1 u2).1).Bad) == 0) && (((((gseeS u0 u1 u2).1).State) == 0) && true)))) rfl (by kernel_rfl) (by kernel_rfl) (by kernel_rfl) rfl) ?_; intro a263 hF264; clear hF262
    refine s1 hF264 6 (.bool ((((gseeS u0 u1 u2).2) == 3) && (((((gseeS u0 u1 u2).1).Key) == 0) && (((((gseeS u0 u1 u2).1).Last) == 0) && (((((gseeS u0 u1 u2).1).Bad) == 0) && (((((gseeS u0 u1 u2).1).State) == 0) && true)))))) ?_; intro a265 hF266; clear hF264
    refine nlH (hQ247 _ _ ?_); clear hQ247 hQ247Q
    refine wp_ret ?_
    refine thr ?_
    refine rt (fn := Tryd.f9) (v := .bool ((((gseeS u0 u1 u2).2) == 3) && (((((gseeS u0 u1 u2).1).Key) == 0) && (((((gseeS u0 u1 u2).1).Last) == 0) && (((((gseeS u0 u1 u2).1).Bad) == 0) && (((((gseeS u0 u1 u2).1).State) == 0) && true)))))) hF266 (re1 hF266 (fn := Tryd.f9) rfl (by kernel_rfl)) ?_
    exact ⟨(((gseeS u0 u1 u2).2) == 3) && (((((gseeS u0 u1 u2).1).Key) == 0) && (((((gseeS u0 u1 u2).1).Last) == 0) && (((((gseeS u0 u1 u2).1).Bad) == 0) && (((((gseeS u0 u1 u2).1).State) == 0) && true)))), rfl, hp237, hM200.below⟩
   ·
    have hp267 := hp212.2 hb236; clear hp212
    have hF268 : Fr 155 [] [⟨1, [], .slice ao1 u1.length cap2⟩, ⟨2, [], .int .i64 u2⟩, ⟨3, [], .pointer (some ⟨b6, 0, none⟩)⟩, ⟨7, [], .pointer (some ⟨b32, 0, none⟩)⟩, ⟨8, [], .int .i64 ((gseeS u0 u1 u2).2)⟩, ⟨9, [], .int .i64 0⟩] a234 := hF235.reg; clear hF235
    refine sqH ?_; intro hQ269Q hQ269
    refine s1 hF268 73 (.slice ao1 u1.length cap2) ?_; intro a270 hF271; clear hF268
    refine s1 hF271 74 (.int .i64 (u1.length : Int)) ?_; intro a272 hF273; clear hF271
    refine s1 hF273 75 (.bool (decide ((u1.length : Int) < 2))) ?_; intro a274 hF275; clear hF273
    refine s1 hF275 72 (.bool (decide ((u1.length : Int) < 2))) ?_; intro a276 hF277; clear hF275
    refine nlH (hQ269 _ _ ?_); clear hQ269 hQ269Q
    refine cd hF277 (t := decide ((u1.length : Int) < 2)) (by kernel_rfl) (fun hb278 => ?_) (fun hb278 => ?_)
    ·
     have hp279 := hp267.1 hb278; clear hp267
     refine rgH ?_; intro hQ280Q hQ280
     refine s1 hF277 9 (.int .i64 7) ?_; intro a281 hF282; clear hF277
     refine nlH (hQ280 _ _ ?_); clear hQ280 hQ280Q
     refine ibn ?_
     refine thn ?_
     refine wp_seq ?_
     refine sqH ?_; intro hQ283Q hQ283
     refine s1 hF282 80 (.int .i64 7) ?_; intro a284 hF285; clear hF282
     refine s1 hF285 81 (.bool true) ?_; intro a286 hF287; clear hF285
     refine nlH (hQ283 _ _ ?_); clear hQ283 hQ283Q
     refine cdT hF287 (by kernel_rfl) ?_
     refine sqH ?_; intro hQ288Q hQ288
     refine s1 hF287 82 (.int .i64 ((gseeS u0 u1 u2).2)) ?_; intro a289 hF290; clear hF287
     refine s1 hF290 83 (.int .i64 7) ?_; intro a291 hF292; clear hF290
     refine s1 hF292 84 (.bool (((gseeS u0 u1 u2).2) == 7)) ?_; intro a293 hF294; clear hF292
     refine s1 hF294 85 (.bool (((gseeS u0 u1 u2).2) == 7)) ?_; intro a295 hF296; clear hF294
     have hF297 := hF296.atom ((((gseeS u0 u1 u2).2) == 7) == true) (by kernel_rfl); clear hF296
     refine gd hF297 (.agg #[.int .i64 (((gseeS u0 u1 u2).1).Key), .int .i64 (((gseeS u0 u1 u2).1).Last), .int .i64 (((gseeS u0 u1 u2).1).Bad), .int .i64 (((gseeS u0 u1 u2).1).State)]) (m := 0) (cj := []) (bj := ((gseeS u0 u1 u2).2) == 7) rfl rfl (by kernel_rfl) rfl (by kernel_rfl) (by kernel_rfl) (by kernel_rfl) (fun hg => lda hF297 hM200 0 (g := [0]) (b := b32) (off := 0) (k := 4) (cs := [.int .i64 (((gseeS u0 u1 u2).1).Key), .int .i64 (((gseeS u0 u1 u2).1).Last), .int .i64 (((gseeS u0 u1 u2).1).Bad), .int .i64 (((gseeS u0 u1 u2).1).State)]) (vs := [.int .i64 (((gseeS u0 u1 u2).1).Key), .int .i64 (((gseeS u0 u1 u2).1).Last), .int .i64 (((gseeS u0 u1 u2).1).Bad), .int .i64 (((gseeS u0 u1 u2).1).State)]) (ty := 62) rfl (by kernel_rfl) (by kernel_rfl) (by kernel_rfl) (by kernel_rfl) (by kernel_rfl) hg) ?_; intro a298 hF299; clear hF297
     refine gp hF299 87 0 [] (((gseeS u0 u1 u2).2) == 7) (.agg #[.int .i64 0, .int .i64 0, .int .i64 0, .int .i64 0]) rfl rfl ?_; intro a300 hF301; clear hF299
     refine gd hF301 (.bool (((((gseeS u0 u1 u2).1).Key) == 0) && (((((gseeS u0 u1 u2).1).Last) == 0) && (((((gseeS u0 u1 u2).1).Bad) == 0) && (((((gseeS u0 u1 u2).1).State) == 0) && true))))) (m := 0) (cj := []) (bj := ((gseeS u0 u1 u2).2) == 7) rfl rfl (by kernel_rfl) rfl (by kernel_rfl) (by kernel_rfl) (by kernel_rfl) (fun hg => eqs_run hF301 (g := [0]) (xs := #[.int .i64 (((gseeS u0 u1 u2).1).Key), .int .i64 (((gseeS u0 u1 u2).1).Last), .int .i64 (((gseeS u0 u1 u2).1).Bad), .int .i64 (((gseeS u0 u1 u2).1).State)]) (ys := #[.int .i64 0, .int .i64 0, .int .i64 0, .int .i64 0]) (b := ((((gseeS u0 u1 u2).1).Key) == 0) && (((((gseeS u0 u1 u2).1).Last) == 0) && (((((gseeS u0 u1 u2).1).Bad) == 0) && (((((gseeS u0 u1 u2).1).State) == 0) && true)))) rfl (by kernel_rfl) (by kernel_rfl) (by kernel_rfl) (by kernel_rfl) hg) ?_; intro a302 hF303; clear hF301
     refine st hF303 (.bool ((((gseeS u0 u1 u2).2) == 7) && (((((gseeS u0 u1 u2).1).Key) == 0) && (((((gseeS u0 u1 u2).1).Last) == 0) && (((((gseeS u0 u1 u2).1).Bad) == 0) && (((((gseeS u0 u1 u2).1).State) == 0) && true)))))) (nog rfl _) rfl (by kernel_rfl) (pk_and hF303 (g := []) (m := 0) (b := ((gseeS u0 u1 u2).2) == 7) (v := ((((gseeS u0 u1 u2).1).Key) == 0) && (((((gseeS u0 u1 u2).1).Last) == 0) && (((((gseeS u0 u1 u2).1).Bad) == 0) && (((((gseeS u0 u1 u2).1).State) == 0) && true)))) rfl (by kernel_rfl) (by kernel_rfl) (by kernel_rfl) rfl) ?_; intro a304 hF305; clear hF303
     refine s1 hF305 6 (.bool ((((gseeS u0 u1 u2).2) == 7) && (((((gseeS u0 u1 u2).1).Key) == 0) && (((((gseeS u0 u1 u2).1).Last) == 0) && (((((gseeS u0 u1 u2).1).Bad) == 0) && (((((gseeS u0 u1 u2).1).State) == 0) && true)))))) ?_; intro a306 hF307; clear hF305
     refine nlH (hQ288 _ _ ?_); clear hQ288 hQ288Q
     refine wp_ret ?_
     refine thr ?_
     refine rt (fn := Tryd.f9) (v := .bool ((((gseeS u0 u1 u2).2) == 7) && (((((gseeS u0 u1 u2).1).Key) == 0) && (((((gseeS u0 u1 u2).1).Last) == 0) && (((((gseeS u0 u1 u2).1).Bad) == 0) && (((((gseeS u0 u1 u2).1).State) == 0) && true)))))) hF307 (re1 hF307 (fn := Tryd.f9) rfl (by kernel_rfl)) ?_
     exact ⟨(((gseeS u0 u1 u2).2) == 7) && (((((gseeS u0 u1 u2).1).Key) == 0) && (((((gseeS u0 u1 u2).1).Last) == 0) && (((((gseeS u0 u1 u2).1).Bad) == 0) && (((((gseeS u0 u1 u2).1).State) == 0) && true)))), rfl, hp279, hM200.below⟩
    ·
     have hp308 := hp267.2 hb278; clear hp267
     refine sqH ?_; intro hQ309Q hQ309
     refine s1 hF277 77 (.slice ao1 u1.length cap2) ?_; intro a310 hF311; clear hF277
     refine s1 hF311 78 (.int .i64 (u1.length : Int)) ?_; intro a312 hF313; clear hF311
     refine s1 hF313 79 (.bool (decide ((u1.length : Int) > 64))) ?_; intro a314 hF315; clear hF313
     refine s1 hF315 76 (.bool (decide ((u1.length : Int) > 64))) ?_; intro a316 hF317; clear hF315
     refine nlH (hQ309 _ _ ?_); clear hQ309 hQ309Q
     refine cd hF317 (t := decide ((u1.length : Int) > 64)) (by kernel_rfl) (fun hb318 => ?_) (fun hb318 => ?_)
     ·
      have hp319 := hp308.1 hb318; clear hp308
      refine rgH ?_; intro hQ320Q hQ320
      refine s1 hF317 9 (.int .i64 2) ?_; intro a321 hF322; clear hF317
      refine nlH (hQ320 _ _ ?_); clear hQ320 hQ320Q
      refine ibn ?_
      refine thn ?_
      refine wp_seq ?_
      refine sqH ?_; intro hQ323Q hQ323
      refine s1 hF322 80 (.int .i64 2) ?_; intro a324 hF325; clear hF322
      refine s1 hF325 81 (.bool true) ?_; intro a326 hF327; clear hF325
      refine nlH (hQ323 _ _ ?_); clear hQ323 hQ323Q
      refine cdT hF327 (by kernel_rfl) ?_
      refine sqH ?_; intro hQ328Q hQ328
      refine s1 hF327 82 (.int .i64 ((gseeS u0 u1 u2).2)) ?_; intro a329 hF330; clear hF327
      refine s1 hF330 83 (.int .i64 2) ?_; intro a331 hF332; clear hF330
      refine s1 hF332 84 (.bool (((gseeS u0 u1 u2).2) == 2)) ?_; intro a333 hF334; clear hF332
      refine s1 hF334 85 (.bool (((gseeS u0 u1 u2).2) == 2)) ?_; intro a335 hF336; clear hF334
      have hF337 := hF336.atom ((((gseeS u0 u1 u2).2) == 2) == true) (by kernel_rfl); clear hF336
      refine gd hF337 (.agg #[.int .i64 (((gseeS u0 u1 u2).1).Key), .int .i64 (((gseeS u0 u1 u2).1).Last), .int .i64 (((gseeS u0 u1 u2).1).Bad), .int .i64 (((gseeS u0 u1 u2).1).State)]) (m := 0) (cj := []) (bj := ((gseeS u0 u1 u2).2) == 2) rfl rfl (by kernel_rfl) rfl (by kernel_rfl) (by kernel_rfl) (by kernel_rfl) (fun hg => lda hF337 hM200 0 (g := [0]) (b := b32) (off := 0) (k := 4) (cs := [.int .i64 (((gseeS u0 u1 u2).1).Key), .int .i64 (((gseeS u0 u1 u2).1).Last), .int .i64 (((gseeS u0 u1 u2).1).Bad), .int .i64 (((gseeS u0 u1 u2).1).State)]) (vs := [.int .i64 (((gseeS u0 u1 u2).1).Key), .int .i64 (((gseeS u0 u1 u2).1).Last), .int .i64 (((gseeS u0 u1 u2).1).Bad), .int .i64 (((gseeS u0 u1 u2).1).State)]) (ty := 62) rfl (by kernel_rfl) (by kernel_rfl) (by kernel_rfl) (by kernel_rfl) (by kernel_rfl) hg) ?_; intro a338 hF339; clear hF337
      refine gp hF339 87 0 [] (((gseeS u0 u1 u2).2) == 2) (.agg #[.int .i64 0, .int .i64 0, .int .i64 0, .int .i64 0]) rfl rfl ?_; intro a340 hF341; clear hF339
      refine gd hF341 (.bool (((((gseeS u0 u1 u2).1).Key) == 0) && (((((gseeS u0 u1 u2).1).Last) == 0) && (((((gseeS u0 u1 u2).1).Bad) == 0) && (((((gseeS u0 u1 u2).1).State) == 0) && true))))) (m := 0) (cj := []) (bj := ((gseeS u0 u1 u2).2) == 2) rfl rfl (by kernel_rfl) rfl (by kernel_rfl) (by kernel_rfl) (by kernel_rfl) (fun hg => eqs_run hF341 (g := [0]) (xs := #[.int .i64 (((gseeS u0 u1 u2).1).Key), .int .i64 (((gseeS u0 u1 u2).1).Last), .int .i64 (((gseeS u0 u1 u2).1).Bad), .int .i64 (((gseeS u0 u1 u2).1).State)]) (ys := #[.int .i64 0, .int .i64 0, .int .i64 0, .int .i64 0]) (b := ((((gseeS u0 u1 u2).1).Key) == 0) && (((((gseeS u0 u1 u2).1).Last) == 0) && (((((gseeS u0 u1 u2).1).Bad) == 0) && (((((gseeS u0 u1 u2).1).State) == 0) && true)))) rfl (by kernel_rfl) (by kernel_rfl) (by kernel_rfl) (by kernel_rfl) hg) ?_; intro a342 hF343; clear hF341
      refine st hF343 (.bool ((((gseeS u0 u1 u2).2) == 2) && (((((gseeS u0 u1 u2).1).Key) == 0) && (((((gseeS u0 u1 u2).1).Last) == 0) && (((((gseeS u0 u1 u2).1).Bad) == 0) && (((((gseeS u0 u1 u2).1).State) == 0) && true)))))) (nog rfl _) rfl (by kernel_rfl) (pk_and hF343 (g := []) (m := 0) (b := ((gseeS u0 u1 u2).2) == 2) (v := ((((gseeS u0 u1 u2).1).Key) == 0) && (((((gseeS u0 u1 u2).1).Last) == 0) && (((((gseeS u0 u1 u2).1).Bad) == 0) && (((((gseeS u0 u1 u2).1).State) == 0) && true)))) rfl (by kernel_rfl) (by kernel_rfl) (by kernel_rfl) rfl) ?_; intro a344 hF345; clear hF343
      refine s1 hF345 6 (.bool ((((gseeS u0 u1 u2).2) == 2) && (((((gseeS u0 u1 u2).1).Key) == 0) && (((((gseeS u0 u1 u2).1).Last) == 0) && (((((gseeS u0 u1 u2).1).Bad) == 0) && (((((gseeS u0 u1 u2).1).State) == 0) && true)))))) ?_; intro a346 hF347; clear hF345
      refine nlH (hQ328 _ _ ?_); clear hQ328 hQ328Q
      refine wp_ret ?_
      refine thr ?_
      refine rt (fn := Tryd.f9) (v := .bool ((((gseeS u0 u1 u2).2) == 2) && (((((gseeS u0 u1 u2).1).Key) == 0) && (((((gseeS u0 u1 u2).1).Last) == 0) && (((((gseeS u0 u1 u2).1).Bad) == 0) && (((((gseeS u0 u1 u2).1).State) == 0) && true)))))) hF347 (re1 hF347 (fn := Tryd.f9) rfl (by kernel_rfl)) ?_
      exact ⟨(((gseeS u0 u1 u2).2) == 2) && (((((gseeS u0 u1 u2).1).Key) == 0) && (((((gseeS u0 u1 u2).1).Last) == 0) && (((((gseeS u0 u1 u2).1).Bad) == 0) && (((((gseeS u0 u1 u2).1).State) == 0) && true)))), rfl, hp319, hM200.below⟩
     ·
      have hp348 := hp308.2 hb318; clear hp308
      refine wp_skip ?_
      refine ibn ?_
      refine thn ?_
      refine wp_seq ?_
      refine sqH ?_; intro hQ349Q hQ349
      refine s1 hF317 80 (.int .i64 0) ?_; intro a350 hF351; clear hF317
      refine s1 hF351 81 (.bool false) ?_; intro a352 hF353; clear hF351
      refine nlH (hQ349 _ _ ?_); clear hQ349 hQ349Q
      refine cdF hF353 (by kernel_rfl) ?_
      refine wp_skip ?_
      refine thn ?_
      refine sqH ?_; intro hQ354Q hQ354
      refine s1 hF353 90 (.slice ao1 u1.length cap2) ?_; intro a355 hF356; clear hF353
      have hc357 := hp348.1; have hp358 := hp348.2; clear hp348
      refine ix hF356 (T := (tyInt .u8)) (xs := u1) hs3 (1 : Int) hc357 (k := .i64) (e := 5) (bytes := 1) (nog rfl _) rfl (by kernel_rfl) rfl (by kernel_rfl) (by kernel_rfl) (by kernel_rfl) ?_; intro b359 off360 cs361 q362 a366 hq363 hP364 hT365 hF367; clear hF356
      have hp368 := hp358 q362 hq363; clear hp358
      obtain rfl : cs361 = ([.int .u8 q362] : List Value) := hT365
      refine z1 hF367 hM200 92 hP364 0 (.int .u8 q362) rfl ?_; intro a369 hF370; clear hF367
      refine s1 hF370 93 (.int .u8 (q362.tmod 16)) ?_; intro a371 hF372; clear hF370
      refine s1 hF372 94 (.int .i64 (w64 (q362.tmod 16))) ?_; intro a373 hF374; clear hF372
      refine s1 hF374 10 (.int .i64 (w64 (q362.tmod 16))) ?_; intro a375 hF376; clear hF374
      refine nlH (hQ354 _ _ ?_); clear hQ354 hQ354Q
      have hF377 : Fr 155 [] [⟨1, [], .slice ao1 u1.length cap2⟩, ⟨2, [], .int .i64 u2⟩, ⟨3, [], .pointer (some ⟨b6, 0, none⟩)⟩, ⟨7, [], .pointer (some ⟨b32, 0, none⟩)⟩, ⟨8, [], .int .i64 ((gseeS u0 u1 u2).2)⟩, ⟨10, [], .int .i64 (w64 (q362.tmod 16))⟩] a375 := hF376.reg; clear hF376
      refine sqH ?_; intro hQ378Q hQ378
      refine l2 hF377 hM200 95 1 0 4 [.int .i64 u0.Key, .int .i64 u0.Last, .int .i64 u0.Bad, .int .i64 u0.State] rfl rfl ?_; intro a379 hF380; clear hF377
      refine sn hF380 hM200 (fun b => .pointer (some ⟨b, 0, none⟩)) [.int .i64 0, .int .i64 0, .int .i64 0, .int .i64 0] 62 (nog rfl _) rfl (by kernel_rfl) (by kernel_rfl) ?_; intro b381 a382 wd384 hF383 hM385; clear hF380 hM200
      refine sr hF383 hM385 0 [.int .i64 u0.Key, .int .i64 u0.Last, .int .i64 u0.Bad, .int .i64 u0.State] (b := b381) (off := 0) (cs := [.int .i64 0, .int .i64 0, .int .i64 0, .int .i64 0]) (ty := 62) (u := .agg #[.int .i64 u0.Key, .int .i64 u0.Last, .int .i64 u0.Bad, .int .i64 u0.State]) (nog rfl _) rfl rfl (by kernel_rfl) (by kernel_rfl) (by kernel_rfl) (by kernel_rfl) (by kernel_rfl) (by kernel_rfl) (by kernel_rfl) ?_; intro wd386 hM387; clear hM385
      have hM388 : Mem w.heap.size [] w Z [.row b381 [.int .i64 u0.Key, .int .i64 u0.Last, .int .i64 u0.Bad, .int .i64 u0.State] 62, .row b32 [.int .i64 (((gseeS u0 u1 u2).1).Key), .int .i64 (((gseeS u0 u1 u2).1).Last), .int .i64 (((gseeS u0 u1 u2).1).Bad), .int .i64 (((gseeS u0 u1 u2).1).State)] 62, .row b6 [.int .i64 u0.Key, .int .i64 u0.Last, .int .i64 u0.Bad, .int .i64 u0.State] 62] Z wd386 := hM387; clear hM387
      refine nlH (hQ378 _ _ ?_); clear hQ378 hQ378Q
      have hF389 : Fr 155 [] [⟨1, [], .slice ao1 u1.length cap2⟩, ⟨2, [], .int .i64 u2⟩, ⟨3, [], .pointer (some ⟨b6, 0, none⟩)⟩, ⟨7, [], .pointer (some ⟨b32, 0, none⟩)⟩, ⟨8, [], .int .i64 ((gseeS u0 u1 u2).2)⟩, ⟨10, [], .int .i64 (w64 (q362.tmod 16))⟩, ⟨11, [], .pointer (some ⟨b381, 0, none⟩)⟩] a382 := hF383.reg; clear hF383
      rcases Bool.eq_false_or_eq_true ((w64 (q362.tmod 16)) == 15) with hb390 | hb390
      ·
       have hp391 := hp368.1 hb390; clear hp368
       have hF392 : Fr 155 [] [⟨1, [], .slice ao1 u1.length cap2⟩, ⟨2, [], .int .i64 u2⟩, ⟨3, [], .pointer (some ⟨b6, 0, none⟩)⟩, ⟨7, [], .pointer (some ⟨b32, 0, none⟩)⟩, ⟨8, [], .int .i64 ((gseeS u0 u1 u2).2)⟩, ⟨10, [], .int .i64 (w64 (q362.tmod 16))⟩, ⟨11, [], .pointer (some ⟨b381, 0, none⟩)⟩] a382 := hF389.reg; clear hF389
       refine sqQH mixed (by kernel_rfl) hM388 ?_; intro hQ393Q hQ393
       refine q1 hF392 96 (.int .i64 (w64 (q362.tmod 16))) ?_; intro a395 hF396; clear hF392
       refine q1 hF396 97 (.bool ((w64 (q362.tmod 16)) == 15)) ?_; intro a398 hF399; clear hF396
       have hF400 := hF399.reval (d := 97) (c := []) (v := .bool ((w64 (q362.tmod 16)) == 15)) (by kernel_rfl) (.bool true) (by rw [hb390]); clear hF399
       refine q1 hF400 98 (.bool true) ?_; intro a402 hF403; clear hF400
       refine qsk hF403 (b := true) rfl rfl (by kernel_rfl) (by kernel_rfl) rfl rfl (by kernel_rfl) ?_; intro a404 hF405; clear hF403
       refine qsk hF405 (b := true) rfl rfl (by kernel_rfl) (by kernel_rfl) rfl rfl (by kernel_rfl) ?_; intro a406 hF407; clear hF405
       refine qsk hF407 (b := true) rfl rfl (by kernel_rfl) (by kernel_rfl) rfl rfl (by kernel_rfl) ?_; intro a408 hF409; clear hF407
       refine qsk hF409 (b := true) rfl rfl (by kernel_rfl) (by kernel_rfl) rfl rfl (by kernel_rfl) ?_; intro a410 hF411; clear hF409
       refine qsk hF411 (b := true) rfl rfl (by kernel_rfl) (by kernel_rfl) rfl rfl (by kernel_rfl) ?_; intro a412 hF413; clear hF411
       refine qsk hF413 (b := true) rfl rfl (by kernel_rfl) (by kernel_rfl) rfl rfl (by kernel_rfl) ?_; intro a414 hF415; clear hF413
       refine qsk hF415 (b := true) rfl rfl (by kernel_rfl) (by kernel_rfl) rfl rfl (by kernel_rfl) ?_; intro a416 hF417; clear hF415
       refine qsk hF417 (b := true) rfl rfl (by kernel_rfl) (by kernel_rfl) rfl rfl (by kernel_rfl) ?_; intro a418 hF419; clear hF417
       refine q1 hF419 107 (.bool true) ?_; intro a421 hF422; clear hF419
       refine q1 hF422 12 (.bool true) ?_; intro a424 hF425; clear hF422
       refine qnl (hQ393 _ ?_); clear hQ393 hQ393Q; intro wd426 hM427; clear hM388
       refine wp_seq ?_
       refine sqH ?_; intro hQ428Q hQ428
       refine s1 hF425 108 (.bool true) ?_; intro a429 hF430; clear hF425
       refine s1 hF430 109 (.bool false) ?_; intro a431 hF432; clear hF430
       refine nlH (hQ428 _ _ ?_); clear hQ428 hQ428Q
       refine cdF hF432 (by kernel_rfl) ?_
       refine wp_skip ?_
       refine thn ?_
       refine wp_seq ?_
       have hF433 : Fr 155 [] [⟨7, [], .pointer (some ⟨b32, 0, none⟩)⟩, ⟨8, [], .int .i64 ((gseeS u0 u1 u2).2)⟩, ⟨11, [], .pointer (some ⟨b381, 0, none⟩)⟩, ⟨12, [], .bool true⟩] a431 := hF432.reg; clear hF432
       refine sqH ?_; intro hQ434Q hQ434
       refine s1 hF433 138 (.bool true) ?_; intro a435 hF436; clear hF433
       refine nlH (hQ434 _ _ ?_); clear hQ434 hQ434Q
       refine cdT hF436 (by kernel_rfl) ?_
       refine sqH ?_; intro hQ437Q hQ437
       refine s1 hF436 139 (.pointer (some ⟨b381, 3, none⟩)) ?_; intro a438 hF439; clear hF436
       refine sr hF439 hM427 0 [.int .i64 u0.Key, .int .i64 u0.Last, .int .i64 u0.Bad, .int .i64 4] (b := b381) (off := 3) (cs := [.int .i64 u0.Key, .int .i64 u0.Last, .int .i64 u0.Bad, .int .i64 u0.State]) (ty := 62) (u := .int .i64 4) (nog rfl _) rfl rfl (by kernel_rfl) (by kernel_rfl) (by kernel_rfl) (by kernel_rfl) (by kernel_rfl) (by kernel_rfl) (by kernel_rfl) ?_; intro wd440 hM441; clear hM427
       have hM442 : Mem w.heap.size [] w Z [.row b381 [.int .i64 u0.Key, .int .i64 u0.Last, .int .i64 u0.Bad, .int .i64 4] 62, .row b32 [.int .i64 (((gseeS u0 u1 u2).1).Key), .int .i64 (((gseeS u0 u1 u2).1).Last), .int .i64 (((gseeS u0 u1 u2).1).Bad), .int .i64 (((gseeS u0 u1 u2).1).State)] 62, .row b6 [.int .i64 u0.Key, .int .i64 u0.Last, .int .i64 u0.Bad, .int .i64 u0.State] 62] Z wd440 := hM441; clear hM441
       refine nlH (hQ437 _ _ ?_); clear hQ437 hQ437Q
       refine sqH ?_; intro hQ443Q hQ443
       refine s1 hF439 140 (.pointer (some ⟨b381, 2, none⟩)) ?_; intro a444 hF445; clear hF439
       refine l1 hF445 hM442 141 0 2 (.int .i64 u0.Bad) rfl rfl ?_; intro a446 hF447; clear hF445
       refine s1 hF447 142 (.int .i64 (w64 (u0.Bad + 1))) ?_; intro a448 hF449; clear hF447
       refine s1 hF449 143 (.pointer (some ⟨b381, 2, none⟩)) ?_; intro a450 hF451; clear hF449
       refine sr hF451 hM442 0 [.int .i64 u0.Key, .int .i64 u0.Last, .int .i64 (w64 (u0.Bad + 1)), .int .i64 4] (b := b381) (off := 2) (cs := [.int .i64 u0.Key, .int .i64 u0.Last, .int .i64 u0.Bad, .int .i64 4]) (ty := 62) (u := .int .i64 (w64 (u0.Bad + 1))) (nog rfl _) rfl rfl (by kernel_rfl) (by kernel_rfl) (by kernel_rfl) (by kernel_rfl) (by kernel_rfl) (by kernel_rfl) (by kernel_rfl) ?_; intro wd452 hM453; clear hM442
       have hM454 : Mem w.heap.size [] w Z [.row b381 [.int .i64 u0.Key, .int .i64 u0.Last, .int .i64 (w64 (u0.Bad + 1)), .int .i64 4] 62, .row b32 [.int .i64 (((gseeS u0 u1 u2).1).Key), .int .i64 (((gseeS u0 u1 u2).1).Last), .int .i64 (((gseeS u0 u1 u2).1).Bad), .int .i64 (((gseeS u0 u1 u2).1).State)] 62, .row b6 [.int .i64 u0.Key, .int .i64 u0.Last, .int .i64 u0.Bad, .int .i64 u0.State] 62] Z wd452 := hM453; clear hM453
       refine nlH (hQ443 _ _ ?_); clear hQ443 hQ443Q
       refine sqH ?_; intro hQ455Q hQ455
       refine s1 hF451 144 (.pointer (some ⟨b381, 2, none⟩)) ?_; intro a456 hF457; clear hF451
       refine l1 hF457 hM454 145 0 2 (.int .i64 (w64 (u0.Bad + 1))) rfl rfl ?_; intro a458 hF459; clear hF457
       refine s1 hF459 146 (.bool (decide ((w64 (u0.Bad + 1)) > 1000000))) ?_; intro a460 hF461; clear hF459
       refine nlH (hQ455 _ _ ?_); clear hQ455 hQ455Q
       refine cd hF461 (t := decide ((w64 (u0.Bad + 1)) > 1000000)) (by kernel_rfl) (fun hb462 => ?_) (fun hb462 => ?_)
       ·
        have hp463 := hp391.1 hb462; clear hp391
        refine rgH ?_; intro hQ464Q hQ464
        refine s1 hF461 147 (.pointer (some ⟨b381, 2, none⟩)) ?_; intro a465 hF466; clear hF461
        refine sr hF466 hM454 0 [.int .i64 u0.Key, .int .i64 u0.Last, .int .i64 1000000, .int .i64 4] (b := b381) (off := 2) (cs := [.int .i64 u0.Key, .int .i64 u0.Last, .int .i64 (w64 (u0.Bad + 1)), .int .i64 4]) (ty := 62) (u := .int .i64 1000000) (nog rfl _) rfl rfl (by kernel_rfl) (by kernel_rfl) (by kernel_rfl) (by kernel_rfl) (by kernel_rfl) (by kernel_rfl) (by kernel_rfl) ?_; intro wd467 hM468; clear hM454
        have hM469 : Mem w.heap.size [] w Z [.row b381 [.int .i64 u0.Key, .int .i64 u0.Last, .int .i64 1000000, .int .i64 4] 62, .row b32 [.int .i64 (((gseeS u0 u1 u2).1).Key), .int .i64 (((gseeS u0 u1 u2).1).Last), .int .i64 (((gseeS u0 u1 u2).1).Bad), .int .i64 (((gseeS u0 u1 u2).1).State)] 62, .row b6 [.int .i64 u0.Key, .int .i64 u0.Last, .int .i64 u0.Bad, .int .i64 u0.State] 62] Z wd467 := hM468; clear hM468
        refine nlH (hQ464 _ _ ?_); clear hQ464 hQ464Q
        refine thn ?_
        refine sqH ?_; intro hQ470Q hQ470
        refine s1 hF466 148 (.int .i64 ((gseeS u0 u1 u2).2)) ?_; intro a471 hF472; clear hF466
        refine s1 hF472 149 (.bool (((gseeS u0 u1 u2).2) == 0)) ?_; intro a473 hF474; clear hF472
        refine s1 hF474 150 (.bool (((gseeS u0 u1 u2).2) == 0)) ?_; intro a475 hF476; clear hF474
        have hF477 := hF476.atom ((((gseeS u0 u1 u2).2) == 0) == true) (by kernel_rfl); clear hF476
        refine gd hF477 (.agg #[.int .i64 (((gseeS u0 u1 u2).1).Key), .int .i64 (((gseeS u0 u1 u2).1).Last), .int .i64 (((gseeS u0 u1 u2).1).Bad), .int .i64 (((gseeS u0 u1 u2).1).State)]) (m := 0) (cj := []) (bj := ((gseeS u0 u1 u2).2) == 0) rfl rfl (by kernel_rfl) rfl (by kernel_rfl) (by kernel_rfl) (by kernel_rfl) (fun hg => lda hF477 hM469 1 (g := [0]) (b := b32) (off := 0) (k := 4) (cs := [.int .i64 (((gseeS u0 u1 u2).1).Key), .int .i64 (((gseeS u0 u1 u2).1).Last), .int .i64 (((gseeS u0 u1 u2).1).Bad), .int .i64 (((gseeS u0 u1 u2).1).State)]) (vs := [.int .i64 (((gseeS u0 u1 u2).1).Key), .int .i64 (((gseeS u0 u1 u2).1).Last), .int .i64 (((gseeS u0 u1 u2).1).Bad), .int .i64 (((gseeS u0 u1 u2).1).State)]) (ty := 62) rfl (by kernel_rfl) (by kernel_rfl) (by kernel_rfl) (by kernel_rfl) (by kernel_rfl) hg) ?_; intro a478 hF479; clear hF477
        refine gd hF479 (.agg #[.int .i64 u0.Key, .int .i64 u0.Last, .int .i64 1000000, .int .i64 4]) (m := 0) (cj := []) (bj := ((gseeS u0 u1 u2).2) == 0) rfl rfl (by kernel_rfl) rfl (by kernel_rfl) (by kernel_rfl) (by kernel_rfl) (fun hg => lda hF479 hM469 0 (g := [0]) (b := b381) (off := 0) (k := 4) (cs := [.int .i64 u0.Key, .int .i64 u0.Last, .int .i64 1000000, .int .i64 4]) (vs := [.int .i64 u0.Key, .int .i64 u0.Last, .int .i64 1000000, .int .i64 4]) (ty := 62) rfl (by kernel_rfl) (by kernel_rfl) (by kernel_rfl) (by kernel_rfl) (by kernel_rfl) hg) ?_; intro a480 hF481; clear hF479
        refine gd hF481 (.bool (((((gseeS u0 u1 u2).1).Key) == u0.Key) && (((((gseeS u0 u1 u2).1).Last) == u0.Last) && (((((gseeS u0 u1 u2).1).Bad) == 1000000) && (((((gseeS u0 u1 u2).1).State) == 4) && true))))) (m := 0) (cj := []) (bj := ((gseeS u0 u1 u2).2) == 0) rfl rfl (by kernel_rfl) rfl (by kernel_rfl) (by kernel_rfl) (by kernel_rfl) (fun hg => eqs_run hF481 (g := [0]) (xs := #[.int .i64 (((gseeS u0 u1 u2).1).Key), .int .i64 (((gseeS u0 u1 u2).1).Last), .int .i64 (((gseeS u0 u1 u2).1).Bad), .int .i64 (((gseeS u0 u1 u2).1).State)]) (ys := #[.int .i64 u0.Key, .int .i64 u0.Last, .int .i64 1000000, .int .i64 4]) (b := ((((gseeS u0 u1 u2).1).Key) == u0.Key) && (((((gseeS u0 u1 u2).1).Last) == u0.Last) && (((((gseeS u0 u1 u2).1).Bad) == 1000000) && (((((gseeS u0 u1 u2).1).State) == 4) && true)))) rfl (by kernel_rfl) (by kernel_rfl) (by kernel_rfl) (by kernel_rfl) hg) ?_; intro a482 hF483; clear hF481
        refine st hF483 (.bool ((((gseeS u0 u1 u2).2) == 0) && (((((gseeS u0 u1 u2).1).Key) == u0.Key) && (((((gseeS u0 u1 u2).1).Last) == u0.Last) && (((((gseeS u0 u1 u2).1).Bad) == 1000000) && (((((gseeS u0 u1 u2).1).State) == 4) && true)))))) (nog rfl _) rfl (by kernel_rfl) (pk_and hF483 (g := []) (m := 0) (b := ((gseeS u0 u1 u2).2) == 0) (v := ((((gseeS u0 u1 u2).1).Key) == u0.Key) && (((((gseeS u0 u1 u2).1).Last) == u0.Last) && (((((gseeS u0 u1 u2).1).Bad) == 1000000) && (((((gseeS u0 u1 u2).1).State) == 4) && true)))) rfl (by kernel_rfl) (by kernel_rfl) (by kernel_rfl) rfl) ?_; intro a484 hF485; clear hF483
        refine s1 hF485 6 (.bool ((((gseeS u0 u1 u2).2) == 0) && (((((gseeS u0 u1 u2).1).Key) == u0.Key) && (((((gseeS u0 u1 u2).1).Last) == u0.Last) && (((((gseeS u0 u1 u2).1).Bad) == 1000000) && (((((gseeS u0 u1 u2).1).State) == 4) && true)))))) ?_; intro a486 hF487; clear hF485
        refine nlH (hQ470 _ _ ?_); clear hQ470 hQ470Q
        refine wp_ret ?_
        refine rt (fn := Tryd.f9) (v := .bool ((((gseeS u0 u1 u2).2) == 0) && (((((gseeS u0 u1 u2).1).Key) == u0.Key) && (((((gseeS u0 u1 u2).1).Last) == u0.Last) && (((((gseeS u0 u1 u2).1).Bad) == 1000000) && (((((gseeS u0 u1 u2).1).State) == 4) && true)))))) hF487 (re1 hF487 (fn := Tryd.f9) rfl (by kernel_rfl)) ?_
        exact ⟨(((gseeS u0 u1 u2).2) == 0) && (((((gseeS u0 u1 u2).1).Key) == u0.Key) && (((((gseeS u0 u1 u2).1).Last) == u0.Last) && (((((gseeS u0 u1 u2).1).Bad) == 1000000) && (((((gseeS u0 u1 u2).1).State) == 4) && true)))), rfl, hp463, hM469.below⟩
       ·
        have hp488 := hp391.2 hb462; clear hp391
        refine wp_skip ?_
        refine thn ?_
        refine sqH ?_; intro hQ489Q hQ489
        refine s1 hF461 148 (.int .i64 ((gseeS u0 u1 u2).2)) ?_; intro a490 hF491; clear hF461
        refine s1 hF491 149 (.bool (((gseeS u0 u1 u2).2) == 0)) ?_; intro a492 hF493; clear hF491
        refine s1 hF493 150 (.bool (((gseeS u0 u1 u2).2) == 0)) ?_; intro a494 hF495; clear hF493
        have hF496 := hF495.atom ((((gseeS u0 u1 u2).2) == 0) == true) (by kernel_rfl); clear hF495
        refine gd hF496 (.agg #[.int .i64 (((gseeS u0 u1 u2).1).Key), .int .i64 (((gseeS u0 u1 u2).1).Last), .int .i64 (((gseeS u0 u1 u2).1).Bad), .int .i64 (((gseeS u0 u1 u2).1).State)]) (m := 0) (cj := []) (bj := ((gseeS u0 u1 u2).2) == 0) rfl rfl (by kernel_rfl) rfl (by kernel_rfl) (by kernel_rfl) (by kernel_rfl) (fun hg => lda hF496 hM454 1 (g := [0]) (b := b32) (off := 0) (k := 4) (cs := [.int .i64 (((gseeS u0 u1 u2).1).Key), .int .i64 (((gseeS u0 u1 u2).1).Last), .int .i64 (((gseeS u0 u1 u2).1).Bad), .int .i64 (((gseeS u0 u1 u2).1).State)]) (vs := [.int .i64 (((gseeS u0 u1 u2).1).Key), .int .i64 (((gseeS u0 u1 u2).1).Last), .int .i64 (((gseeS u0 u1 u2).1).Bad), .int .i64 (((gseeS u0 u1 u2).1).State)]) (ty := 62) rfl (by kernel_rfl) (by kernel_rfl) (by kernel_rfl) (by kernel_rfl) (by kernel_rfl) hg) ?_; intro a497 hF498; clear hF496
        refine gd hF498 (.agg #[.int .i64 u0.Key, .int .i64 u0.Last, .int .i64 (w64 (u0.Bad + 1)), .int .i64 4]) (m := 0) (cj := []) (bj := ((gseeS u0 u1 u2).2) == 0) rfl rfl (by kernel_rfl) rfl (by kernel_rfl) (by kernel_rfl) (by kernel_rfl) (fun hg => lda hF498 hM454 0 (g := [0]) (b := b381) (off := 0) (k := 4) (cs := [.int .i64 u0.Key, .int .i64 u0.Last, .int .i64 (w64 (u0.Bad + 1)), .int .i64 4]) (vs := [.int .i64 u0.Key, .int .i64 u0.Last, .int .i64 (w64 (u0.Bad + 1)), .int .i64 4]) (ty := 62) rfl (by kernel_rfl) (by kernel_rfl) (by kernel_rfl) (by kernel_rfl) (by kernel_rfl) hg) ?_; intro a499 hF500; clear hF498
        refine gd hF500 (.bool (((((gseeS u0 u1 u2).1).Key) == u0.Key) && (((((gseeS u0 u1 u2).1).Last) == u0.Last) && (((((gseeS u0 u1 u2).1).Bad) == (w64 (u0.Bad + 1))) && (((((gseeS u0 u1 u2).1).State) == 4) && true))))) (m := 0) (cj := []) (bj := ((gseeS u0 u1 u2).2) == 0) rfl rfl (by kernel_rfl) rfl (by kernel_rfl) (by kernel_rfl) (by kernel_rfl) (fun hg => eqs_run hF500 (g := [0]) (xs := #[.int .i64 (((gseeS u0 u1 u2).1).Key), .int .i64 (((gseeS u0 u1 u2).1).Last), .int .i64 (((gseeS u0 u1 u2).1).Bad), .int .i64 (((gseeS u0 u1 u2).1).State)]) (ys := #[.int .i64 u0.Key, .int .i64 u0.Last, .int .i64 (w64 (u0.Bad + 1)), .int .i64 4]) (b := ((((gseeS u0 u1 u2).1).Key) == u0.Key) && (((((gseeS u0 u1 u2).1).Last) == u0.Last) && (((((gseeS u0 u1 u2).1).Bad) == (w64 (u0.Bad + 1))) && (((((gseeS u0 u1 u2).1).State) == 4) && true)))) rfl (by kernel_rfl) (by kernel_rfl) (by kernel_rfl) (by kernel_rfl) hg) ?_; intro a501 hF502; clear hF500
        refine st hF502 (.bool ((((gseeS u0 u1 u2).2) == 0) && (((((gseeS u0 u1 u2).1).Key) == u0.Key) && (((((gseeS u0 u1 u2).1).Last) == u0.Last) && (((((gseeS u0 u1 u2).1).Bad) == (w64 (u0.Bad + 1))) && (((((gseeS u0 u1 u2).1).State) == 4) && true)))))) (nog rfl _) rfl (by kernel_rfl) (pk_and hF502 (g := []) (m := 0) (b := ((gseeS u0 u1 u2).2) == 0) (v := ((((gseeS u0 u1 u2).1).Key) == u0.Key) && (((((gseeS u0 u1 u2).1).Last) == u0.Last) && (((((gseeS u0 u1 u2).1).Bad) == (w64 (u0.Bad + 1))) && (((((gseeS u0 u1 u2).1).State) == 4) && true)))) rfl (by kernel_rfl) (by kernel_rfl) (by kernel_rfl) rfl) ?_; intro a503 hF504; clear hF502
        refine s1 hF504 6 (.bool ((((gseeS u0 u1 u2).2) == 0) && (((((gseeS u0 u1 u2).1).Key) == u0.Key) && (((((gseeS u0 u1 u2).1).Last) == u0.Last) && (((((gseeS u0 u1 u2).1).Bad) == (w64 (u0.Bad + 1))) && (((((gseeS u0 u1 u2).1).State) == 4) && true)))))) ?_; intro a505 hF506; clear hF504
        refine nlH (hQ489 _ _ ?_); clear hQ489 hQ489Q
        refine wp_ret ?_
        refine rt (fn := Tryd.f9) (v := .bool ((((gseeS u0 u1 u2).2) == 0) && (((((gseeS u0 u1 u2).1).Key) == u0.Key) && (((((gseeS u0 u1 u2).1).Last) == u0.Last) && (((((gseeS u0 u1 u2).1).Bad) == (w64 (u0.Bad + 1))) && (((((gseeS u0 u1 u2).1).State) == 4) && true)))))) hF506 (re1 hF506 (fn := Tryd.f9) rfl (by kernel_rfl)) ?_
        exact ⟨(((gseeS u0 u1 u2).2) == 0) && (((((gseeS u0 u1 u2).1).Key) == u0.Key) && (((((gseeS u0 u1 u2).1).Last) == u0.Last) && (((((gseeS u0 u1 u2).1).Bad) == (w64 (u0.Bad + 1))) && (((((gseeS u0 u1 u2).1).State) == 4) && true)))), rfl, hp488, hM454.below⟩
      ·
       have hp507 := hp368.2 hb390; clear hp368
       have hF508 : Fr 155 [] [⟨1, [], .slice ao1 u1.length cap2⟩, ⟨2, [], .int .i64 u2⟩, ⟨3, [], .pointer (some ⟨b6, 0, none⟩)⟩, ⟨7, [], .pointer (some ⟨b32, 0, none⟩)⟩, ⟨8, [], .int .i64 ((gseeS u0 u1 u2).2)⟩, ⟨10, [], .int .i64 (w64 (q362.tmod 16))⟩, ⟨11, [], .pointer (some ⟨b381, 0, none⟩)⟩] a382 := hF389.reg; clear hF389
       refine sqQH mixed (by kernel_rfl) hM388 ?_; intro hQ509Q hQ509
       refine q1 hF508 96 (.int .i64 (w64 (q362.tmod 16))) ?_; intro a511 hF512; clear hF508
       refine q1 hF512 97 (.bool ((w64 (q362.tmod 16)) == 15)) ?_; intro a514 hF515; clear hF512
       have hF516 := hF515.reval (d := 97) (c := []) (v := .bool ((w64 (q362.tmod 16)) == 15)) (by kernel_rfl) (.bool false) (by rw [hb390]); clear hF515
       refine q1 hF516 98 (.bool false) ?_; intro a518 hF519; clear hF516
       refine qst hF519 (.slice ao1 u1.length cap2) (by rw [wanted_of hF519 (b := false) rfl rfl (by kernel_rfl) (by kernel_rfl)]; rfl) rfl (by kernel_rfl) (fun v520 hC => p0 hF519 (by kernel_rfl)) ?_; intro a521 hF522; clear hF519
       have hc524 := hp507.1; have hp525 := hp507.2; clear hp507
       refine qix hF522 (T := (tyInt .u8)) (xs := u1) hs3 (0 : Int) hc524 (k := .i64) (e := 5) (bytes := 1) (by rw [wanted_of hF522 (b := false) rfl rfl (by kernel_rfl) (by kernel_rfl)]; rfl) rfl (by kernel_rfl) rfl (by kernel_rfl) (by kernel_rfl) (by kernel_rfl) ?_; intro b526 off527 cs528 q529 a533 hq530 hP531 hT532 hF534; clear hF522
       have hp535 := hp525 q529 hq530; clear hp525
       obtain rfl : cs528 = ([.int .u8 q529] : List Value) := hT532
       refine qst hF534 (.int .u8 q529) (by rw [wanted_of hF534 (b := false) rfl rfl (by kernel_rfl) (by kernel_rfl)]; rfl) rfl (by kernel_rfl) (fun v536 hC => lz hF534 hC.fz hP531 0 (g := []) rfl (by kernel_rfl) (by kernel_rfl) (by kernel_rfl) rfl) ?_; intro a537 hF538; clear hF534
       refine qst hF538 (.pointer (some ⟨b6, 0, none⟩)) (by rw [wanted_of hF538 (b := false) rfl rfl (by kernel_rfl) (by kernel_rfl)]; rfl) rfl (by kernel_rfl) (fun v539 hC => p0 hF538 (by kernel_rfl)) ?_; intro a540 hF541; clear hF538
       refine qst hF541 (.int .i64 u0.Key) (by rw [wanted_of hF541 (b := false) rfl rfl (by kernel_rfl) (by kernel_rfl)]; rfl) rfl (by kernel_rfl) (fun v542 hC => ld hF541 hC 2 (g := []) (b := b6) (off := 0) (cs := [.int .i64 u0.Key, .int .i64 u0.Last, .int .i64 u0.Bad, .int .i64 u0.State]) (ty := 62) rfl (by kernel_rfl) (by kernel_rfl) (by kernel_rfl) (by kernel_rfl) rfl) ?_; intro a543 hF544; clear hF541
       refine qst hF544 (.slice ao1 u1.length cap2) (by rw [wanted_of hF544 (b := false) rfl rfl (by kernel_rfl) (by kernel_rfl)]; rfl) rfl (by kernel_rfl) (fun v545 hC => p0 hF544 (by kernel_rfl)) ?_; intro a546 hF547; clear hF544
       have hc549 := hp535.1; have hp550 := hp535.2; clear hp535
       refine qcl hF547 (.int .u8 (gsumS u0.Key u1)) 42 #[.int .i64 u0.Key, .slice ao1 u1.length cap2] (by rw [wanted_of hF547 (b := false) rfl rfl (by kernel_rfl) (by kernel_rfl)]; rfl) rfl (by kernel_rfl) (fun _ => by kernel_rfl) (qfc fun w hC => lgsum_fun u0.Key u1 hc549 ao1 cap2 _ _ hs3 hg5 hC.fz) ?_; intro a551 hF552; clear hF547
       refine qst hF552 (.bool (q529 != (gsumS u0.Key u1))) (by rw [wanted_of hF552 (b := false) rfl rfl (by kernel_rfl) (by kernel_rfl)]; rfl) rfl (by kernel_rfl) (fun v553 hC => p0 hF552 (by kernel_rfl)) ?_; intro a554 hF555; clear hF552
       refine q1 hF555 107 (.bool (q529 != (gsumS u0.Key u1))) ?_; intro a557 hF558; clear hF555
       refine q1 hF558 12 (.bool (q529 != (gsumS u0.Key u1))) ?_; intro a560 hF561; clear hF558
       refine qnl (hQ509 _ ?_); clear hQ509 hQ509Q; intro wd562 hM563; clear hM388
       refine wp_seq ?_
       refine sqH ?_; intro hQ564Q hQ564
       refine s1 hF561 108 (.bool (q529 != (gsumS u0.Key u1))) ?_; intro a565 hF566; clear hF561
       refine s1 hF566 109 (.bool (!(q529 != (gsumS u0.Key u1)))) ?_; intro a567 hF568; clear hF566
       refine nlH (hQ564 _ _ ?_); clear hQ564 hQ564Q
       refine cd hF568 (t := !(q529 != (gsumS u0.Key u1))) (by kernel_rfl) (fun hb569 => ?_) (fun hb569 => ?_)
       ·
        have hp570 := hp550.1 hb569; clear hp550
        have hF571 : Fr 155 [] [⟨2, [], .int .i64 u2⟩, ⟨3, [], .pointer (some ⟨b6, 0, none⟩)⟩, ⟨7, [], .pointer (some ⟨b32, 0, none⟩)⟩, ⟨8, [], .int .i64 ((gseeS u0 u1 u2).2)⟩, ⟨10, [], .int .i64 (w64 (q362.tmod 16))⟩, ⟨11, [], .pointer (some ⟨b381, 0, none⟩)⟩, ⟨12, [], .bool (q529 != (gsumS u0.Key u1))⟩] a567 := hF568.reg; clear hF568
        refine sqH ?_; intro hQ572Q hQ572
        refine s1 hF571 110 (.int .i64 (w64 (q362.tmod 16))) ?_; intro a573 hF574; clear hF571
        refine s1 hF574 111 (.int .i64 (w64 ((w64 (q362.tmod 16)) + 15))) ?_; intro a575 hF576; clear hF574
        refine s1 hF576 112 (.pointer (some ⟨b6, 1, none⟩)) ?_; intro a577 hF578; clear hF576
        refine l1 hF578 hM563 113 2 1 (.int .i64 u0.Last) rfl rfl ?_; intro a579 hF580; clear hF578
        refine s1 hF580 114 (.int .i64 (w64 ((w64 ((w64 (q362.tmod 16)) + 15)) - u0.Last))) ?_; intro a581 hF582; clear hF580
        refine s1 hF582 115 (.int .i64 ((w64 ((w64 ((w64 (q362.tmod 16)) + 15)) - u0.Last)).tmod 15)) ?_; intro a583 hF584; clear hF582
        refine s1 hF584 13 (.int .i64 ((w64 ((w64 ((w64 (q362.tmod 16)) + 15)) - u0.Last)).tmod 15)) ?_; intro a585 hF586; clear hF584
        refine nlH (hQ572 _ _ ?_); clear hQ572 hQ572Q
        refine sqH ?_; intro hQ587Q hQ587
        refine s1 hF586 116 (.int .i64 (w64 (q362.tmod 16))) ?_; intro a588 hF589; clear hF586
        refine s1 hF589 117 (.pointer (some ⟨b381, 1, none⟩)) ?_; intro a590 hF591; clear hF589
        refine sr hF591 hM563 0 [.int .i64 u0.Key, .int .i64 (w64 (q362.tmod 16)), .int .i64 u0.Bad, .int .i64 u0.State] (b := b381) (off := 1) (cs := [.int .i64 u0.Key, .int .i64 u0.Last, .int .i64 u0.Bad, .int .i64 u0.State]) (ty := 62) (u := .int .i64 (w64 (q362.tmod 16))) (nog rfl _) rfl rfl (by kernel_rfl) (by kernel_rfl) (by kernel_rfl) (by kernel_rfl) (by kernel_rfl) (by kernel_rfl) (by kernel_rfl) ?_; intro wd592 hM593; clear hM563
        have hM594 : Mem w.heap.size [] w Z [.row b381 [.int .i64 u0.Key, .int .i64 (w64 (q362.tmod 16)), .int .i64 u0.Bad, .int .i64 u0.State] 62, .row b32 [.int .i64 (((gseeS u0 u1 u2).1).Key), .int .i64 (((gseeS u0 u1 u2).1).Last), .int .i64 (((gseeS u0 u1 u2).1).Bad), .int .i64 (((gseeS u0 u1 u2).1).State)] 62, .row b6 [.int .i64 u0.Key, .int .i64 u0.Last, .int .i64 u0.Bad, .int .i64 u0.State] 62] Z wd592 := hM593; clear hM593
        refine nlH (hQ587 _ _ ?_); clear hQ587 hQ587Q
        refine wp_block ?_
        refine sqH ?_; intro hQ595Q hQ595
        refine s1 hF591 119 (.pointer (some ⟨b6, 1, none⟩)) ?_; intro a596 hF597; clear hF591
        refine l1 hF597 hM594 120 2 1 (.int .i64 u0.Last) rfl rfl ?_; intro a598 hF599; clear hF597
        refine s1 hF599 121 (.bool (u0.Last == (-1))) ?_; intro a600 hF601; clear hF599
        refine s1 hF601 122 (.bool (u0.Last == (-1))) ?_; intro a602 hF603; clear hF601
        have hF604 := hF603.atom ((u0.Last == (-1)) == false) (by kernel_rfl); clear hF603
        refine gp hF604 123 0 [] (u0.Last == (-1)) (.int .i64 ((w64 ((w64 ((w64 (q362.tmod 16)) + 15)) - u0.Last)).tmod 15)) rfl rfl ?_; intro a605 hF606; clear hF604
        refine gp hF606 124 0 [] (u0.Last == (-1)) (.bool (((w64 ((w64 ((w64 (q362.tmod 16)) + 15)) - u0.Last)).tmod 15) == 1)) rfl rfl ?_; intro a607 hF608; clear hF606
        refine st hF608 (.bool ((u0.Last == (-1)) || (((w64 ((w64 ((w64 (q362.tmod 16)) + 15)) - u0.Last)).tmod 15) == 1))) (nog rfl _) rfl (by kernel_rfl) (pk_or hF608 (g := []) (m := 0) (b := u0.Last == (-1)) (v := ((w64 ((w64 ((w64 (q362.tmod 16)) + 15)) - u0.Last)).tmod 15) == 1) rfl (by kernel_rfl) (by kernel_rfl) (by kernel_rfl) rfl) ?_; intro a609 hF610; clear hF608
        refine s1 hF610 118 (.bool ((u0.Last == (-1)) || (((w64 ((w64 ((w64 (q362.tmod 16)) + 15)) - u0.Last)).tmod 15) == 1))) ?_; intro a611 hF612; clear hF610
        refine nlH (hQ595 _ _ ?_); clear hQ595 hQ595Q
        refine cd hF612 (t := (u0.Last == (-1)) || (((w64 ((w64 ((w64 (q362.tmod 16)) + 15)) - u0.Last)).tmod 15) == 1)) (by kernel_rfl) (fun hb613 => ?_) (fun hb613 => ?_)
        ·
         have hp614 := hp570.1 hb613; clear hp570
         have hF615 : Fr 155 [] [⟨7, [], .pointer (some ⟨b32, 0, none⟩)⟩, ⟨8, [], .int .i64 ((gseeS u0 u1 u2).2)⟩, ⟨11, [], .pointer (some ⟨b381, 0, none⟩)⟩, ⟨12, [], .bool (q529 != (gsumS u0.Key u1))⟩] a611 := hF612.reg; clear hF612
         refine rgH ?_; intro hQ616Q hQ616
         refine s1 hF615 126 (.pointer (some ⟨b381, 3, none⟩)) ?_; intro a617 hF618; clear hF615
         refine sr hF618 hM594 0 [.int .i64 u0.Key, .int .i64 (w64 (q362.tmod 16)), .int .i64 u0.Bad, .int .i64 1] (b := b381) (off := 3) (cs := [.int .i64 u0.Key, .int .i64 (w64 (q362.tmod 16)), .int .i64 u0.Bad, .int .i64 u0.State]) (ty := 62) (u := .int .i64 1) (nog rfl _) rfl rfl (by kernel_rfl) (by kernel_rfl) (by kernel_rfl) (by kernel_rfl) (by kernel_rfl) (by kernel_rfl) (by kernel_rfl) ?_; intro wd619 hM620; clear hM594
         refine s1 hF618 127 (.pointer (some ⟨b381, 2, none⟩)) ?_; intro a621 hF622; clear hF618
         refine sr hF622 hM620 0 [.int .i64 u0.Key, .int .i64 (w64 (q362.tmod 16)), .int .i64 0, .int .i64 1] (b := b381) (off := 2) (cs := [.int .i64 u0.Key, .int .i64 (w64 (q362.tmod 16)), .int .i64 u0.Bad, .int .i64 1]) (ty := 62) (u := .int .i64 0) (nog rfl _) rfl rfl (by kernel_rfl) (by kernel_rfl) (by kernel_rfl) (by kernel_rfl) (by kernel_rfl) (by kernel_rfl) (by kernel_rfl) ?_; intro wd623 hM624; clear hM620
         have hM625 : Mem w.heap.size [] w Z [.row b381 [.int .i64 u0.Key, .int .i64 (w64 (q362.tmod 16)), .int .i64 0, .int .i64 1] 62, .row b32 [.int .i64 (((gseeS u0 u1 u2).1).Key), .int .i64 (((gseeS u0 u1 u2).1).Last), .int .i64 (((gseeS u0 u1 u2).1).Bad), .int .i64 (((gseeS u0 u1 u2).1).State)] 62, .row b6 [.int .i64 u0.Key, .int .i64 u0.Last, .int .i64 u0.Bad, .int .i64 u0.State] 62] Z wd623 := hM624; clear hM624
         refine nlH (hQ616 _ _ ?_); clear hQ616 hQ616Q
         refine ibn ?_
         refine thn ?_
         refine wp_seq ?_
         refine sqH ?_; intro hQ626Q hQ626
         refine s1 hF622 138 (.bool (q529 != (gsumS u0.Key u1))) ?_; intro a627 hF628; clear hF622
         refine nlH (hQ626 _ _ ?_); clear hQ626 hQ626Q
         refine cd hF628 (t := q529 != (gsumS u0.Key u1)) (by kernel_rfl) (fun hb629 => ?_) (fun hb629 => ?_)
         ·
          have hp630 := hp614.1 hb629; clear hp614
          refine sqH ?_; intro hQ631Q hQ631
          refine s1 hF628 139 (.pointer (some ⟨b381, 3, none⟩)) ?_; intro a632 hF633; clear hF628
          refine sr hF633 hM625 0 [.int .i64 u0.Key, .int .i64 (w64 (q362.tmod 16)), .int .i64 0, .int .i64 4] (b := b381) (off := 3) (cs := [.int .i64 u0.Key, .int .i64 (w64 (q362.tmod 16)), .int .i64 0, .int .i64 1]) (ty := 62) (u := .int .i64 4) (nog rfl _) rfl rfl (by kernel_rfl) (by kernel_rfl) (by kernel_rfl) (by kernel_rfl) (by kernel_rfl) (by kernel_rfl) (by kernel_rfl) ?_; intro wd634 hM635; clear hM625
          have hM636 : Mem w.heap.size [] w Z [.row b381 [.int .i64 u0.Key, .int .i64 (w64 (q362.tmod 16)), .int .i64 0, .int .i64 4] 62, .row b32 [.int .i64 (((gseeS u0 u1 u2).1).Key), .int .i64 (((gseeS u0 u1 u2).1).Last), .int .i64 (((gseeS u0 u1 u2).1).Bad), .int .i64 (((gseeS u0 u1 u2).1).State)] 62, .row b6 [.int .i64 u0.Key, .int .i64 u0.Last, .int .i64 u0.Bad, .int .i64 u0.State] 62] Z wd634 := hM635; clear hM635
          refine nlH (hQ631 _ _ ?_); clear hQ631 hQ631Q
          refine sqH ?_; intro hQ637Q hQ637
          refine s1 hF633 140 (.pointer (some ⟨b381, 2, none⟩)) ?_; intro a638 hF639; clear hF633
          refine l1 hF639 hM636 141 0 2 (.int .i64 0) rfl rfl ?_; intro a640 hF641; clear hF639
          refine s1 hF641 142 (.int .i64 1) ?_; intro a642 hF643; clear hF641
          refine s1 hF643 143 (.pointer (some ⟨b381, 2, none⟩)) ?_; intro a644 hF645; clear hF643
          refine sr hF645 hM636 0 [.int .i64 u0.Key, .int .i64 (w64 (q362.tmod 16)), .int .i64 1, .int .i64 4] (b := b381) (off := 2) (cs := [.int .i64 u0.Key, .int .i64 (w64 (q362.tmod 16)), .int .i64 0, .int .i64 4]) (ty := 62) (u := .int .i64 1) (nog rfl _) rfl rfl (by kernel_rfl) (by kernel_rfl) (by kernel_rfl) (by kernel_rfl) (by kernel_rfl) (by kernel_rfl) (by kernel_rfl) ?_; intro wd646 hM647; clear hM636
          have hM648 : Mem w.heap.size [] w Z [.row b381 [.int .i64 u0.Key, .int .i64 (w64 (q362.tmod 16)), .int .i64 1, .int .i64 4] 62, .row b32 [.int .i64 (((gseeS u0 u1 u2).1).Key), .int .i64 (((gseeS u0 u1 u2).1).Last), .int .i64 (((gseeS u0 u1 u2).1).Bad), .int .i64 (((gseeS u0 u1 u2).1).State)] 62, .row b6 [.int .i64 u0.Key, .int .i64 u0.Last, .int .i64 u0.Bad, .int .i64 u0.State] 62] Z wd646 := hM647; clear hM647
          refine nlH (hQ637 _ _ ?_); clear hQ637 hQ637Q
          refine sqH ?_; intro hQ649Q hQ649
          refine s1 hF645 144 (.pointer (some ⟨b381, 2, none⟩)) ?_; intro a650 hF651; clear hF645
          refine l1 hF651 hM648 145 0 2 (.int .i64 1) rfl rfl ?_; intro a652 hF653; clear hF651
          refine s1 hF653 146 (.bool false) ?_; intro a654 hF655; clear hF653
          refine nlH (hQ649 _ _ ?_); clear hQ649 hQ649Q
          refine cdF hF655 (by kernel_rfl) ?_
          refine wp_skip ?_
          refine thn ?_
          refine sqH ?_; intro hQ656Q hQ656
          refine s1 hF655 148 (.int .i64 ((gseeS u0 u1 u2).2)) ?_; intro a657 hF658; clear hF655
          refine s1 hF658 149 (.bool (((gseeS u0 u1 u2).2) == 0)) ?_; intro a659 hF660; clear hF658
          refine s1 hF660 150 (.bool (((gseeS u0 u1 u2).2) == 0)) ?_; intro a661 hF662; clear hF660
          have hF663 := hF662.atom ((((gseeS u0 u1 u2).2) == 0) == true) (by kernel_rfl); clear hF662
          refine gd hF663 (.agg #[.int .i64 (((gseeS u0 u1 u2).1).Key), .int .i64 (((gseeS u0 u1 u2).1).Last), .int .i64 (((gseeS u0 u1 u2).1).Bad), .int .i64 (((gseeS u0 u1 u2).1).State)]) (m := 0) (cj := []) (bj := ((gseeS u0 u1 u2).2) == 0) rfl rfl (by kernel_rfl) rfl (by kernel_rfl) (by kernel_rfl) (by kernel_rfl) (fun hg => lda hF663 hM648 1 (g := [0]) (b := b32) (off := 0) (k := 4) (cs := [.int .i64 (((gseeS u0 u1 u2).1).Key), .int .i64 (((gseeS u0 u1 u2).1).Last), .int .i64 (((gseeS u0 u1 u2).1).Bad), .int .i64 (((gseeS u0 u1 u2).1).State)]) (vs := [.int .i64 (((gseeS u0 u1 u2).1).Key), .int .i64 (((gseeS u0 u1 u2).1).Last), .int .i64 (((gseeS u0 u1 u2).1).Bad), .int .i64 (((gseeS u0 u1 u2).1).State)]) (ty := 62) rfl (by kernel_rfl) (by kernel_rfl) (by kernel_rfl) (by kernel_rfl) (by kernel_rfl) hg) ?_; intro a664 hF665; clear hF663
          refine gd hF665 (.agg #[.int .i64 u0.Key, .int .i64 (w64 (q362.tmod 16)), .int .i64 1, .int .i64 4]) (m := 0) (cj := []) (bj := ((gseeS u0 u1 u2).2) == 0) rfl rfl (by kernel_rfl) rfl (by kernel_rfl) (by kernel_rfl) (by kernel_rfl) (fun hg => lda hF665 hM648 0 (g := [0]) (b := b381) (off := 0) (k := 4) (cs := [.int .i64 u0.Key, .int .i64 (w64 (q362.tmod 16)), .int .i64 1, .int .i64 4]) (vs := [.int .i64 u0.Key, .int .i64 (w64 (q362.tmod 16)), .int .i64 1, .int .i64 4]) (ty := 62) rfl (by kernel_rfl) (by kernel_rfl) (by kernel_rfl) (by kernel_rfl) (by kernel_rfl) hg) ?_; intro a666 hF667; clear hF665
          refine gd hF667 (.bool (((((gseeS u0 u1 u2).1).Key) == u0.Key) && (((((gseeS u0 u1 u2).1).Last) == (w64 (q362.tmod 16))) && (((((gseeS u0 u1 u2).1).Bad) == 1) && (((((gseeS u0 u1 u2).1).State) == 4) && true))))) (m := 0) (cj := []) (bj := ((gseeS u0 u1 u2).2) == 0) rfl rfl (by kernel_rfl) rfl (by kernel_rfl) (by kernel_rfl) (by kernel_rfl) (fun hg => eqs_run hF667 (g := [0]) (xs := #[.int .i64 (((gseeS u0 u1 u2).1).Key), .int .i64 (((gseeS u0 u1 u2).1).Last), .int .i64 (((gseeS u0 u1 u2).1).Bad), .int .i64 (((gseeS u0 u1 u2).1).State)]) (ys := #[.int .i64 u0.Key, .int .i64 (w64 (q362.tmod 16)), .int .i64 1, .int .i64 4]) (b := ((((gseeS u0 u1 u2).1).Key) == u0.Key) && (((((gseeS u0 u1 u2).1).Last) == (w64 (q362.tmod 16))) && (((((gseeS u0 u1 u2).1).Bad) == 1) && (((((gseeS u0 u1 u2).1).State) == 4) && true)))) rfl (by kernel_rfl) (by kernel_rfl) (by kernel_rfl) (by kernel_rfl) hg) ?_; intro a668 hF669; clear hF667
          refine st hF669 (.bool ((((gseeS u0 u1 u2).2) == 0) && (((((gseeS u0 u1 u2).1).Key) == u0.Key) && (((((gseeS u0 u1 u2).1).Last) == (w64 (q362.tmod 16))) && (((((gseeS u0 u1 u2).1).Bad) == 1) && (((((gseeS u0 u1 u2).1).State) == 4) && true)))))) (nog rfl _) rfl (by kernel_rfl) (pk_and hF669 (g := []) (m := 0) (b := ((gseeS u0 u1 u2).2) == 0) (v := ((((gseeS u0 u1 u2).1).Key) == u0.Key) && (((((gseeS u0 u1 u2).1).Last) == (w64 (q362.tmod 16))) && (((((gseeS u0 u1 u2).1).Bad) == 1) && (((((gseeS u0 u1 u2).1).State) == 4) && true)))) rfl (by kernel_rfl) (by kernel_rfl) (by kernel_rfl) rfl) ?_; intro a670 hF671; clear hF669
          refine s1 hF671 6 (.bool ((((gseeS u0 u1 u2).2) == 0) && (((((gseeS u0 u1 u2).1).Key) == u0.Key) && (((((gseeS u0 u1 u2).1).Last) == (w64 (q362.tmod 16))) && (((((gseeS u0 u1 u2).1).Bad) == 1) && (((((gseeS u0 u1 u2).1).State) == 4) && true)))))) ?_; intro a672 hF673; clear hF671
          refine nlH (hQ656 _ _ ?_); clear hQ656 hQ656Q
          refine wp_ret ?_
          refine rt (fn := Tryd.f9) (v := .bool ((((gseeS u0 u1 u2).2) == 0) && (((((gseeS u0 u1 u2).1).Key) == u0.Key) && (((((gseeS u0 u1 u2).1).Last) == (w64 (q362.tmod 16))) && (((((gseeS u0 u1 u2).1).Bad) == 1) && (((((gseeS u0 u1 u2).1).State) == 4) && true)))))) hF673 (re1 hF673 (fn := Tryd.f9) rfl (by kernel_rfl)) ?_
          exact ⟨(((gseeS u0 u1 u2).2) == 0) && (((((gseeS u0 u1 u2).1).Key) == u0.Key) && (((((gseeS u0 u1 u2).1).Last) == (w64 (q362.tmod 16))) && (((((gseeS u0 u1 u2).1).Bad) == 1) && (((((gseeS u0 u1 u2).1).State) == 4) && true)))), rfl, hp630, hM648.below⟩
         ·
          have hp674 := hp614.2 hb629; clear hp614
          refine wp_skip ?_
          refine thn ?_
          refine sqH ?_; intro hQ675Q hQ675
          refine s1 hF628 148 (.int .i64 ((gseeS u0 u1 u2).2)) ?_; intro a676 hF677; clear hF628
          refine s1 hF677 149 (.bool (((gseeS u0 u1 u2).2) == 0)) ?_; intro a678 hF679; clear hF677
          refine s1 hF679 150 (.bool (((gseeS u0 u1 u2).2) == 0)) ?_; intro a680 hF681; clear hF679
          have hF682 := hF681.atom ((((gseeS u0 u1 u2).2) == 0) == true) (by kernel_rfl); clear hF681
          refine gd hF682 (.agg #[.int .i64 (((gseeS u0 u1 u2).1).Key), .int .i64 (((gseeS u0 u1 u2).1).Last), .int .i64 (((gseeS u0 u1 u2).1).Bad), .int .i64 (((gseeS u0 u1 u2).1).State)]) (m := 0) (cj := []) (bj := ((gseeS u0 u1 u2).2) == 0) rfl rfl (by kernel_rfl) rfl (by kernel_rfl) (by kernel_rfl) (by kernel_rfl) (fun hg => lda hF682 hM625 1 (g := [0]) (b := b32) (off := 0) (k := 4) (cs := [.int .i64 (((gseeS u0 u1 u2).1).Key), .int .i64 (((gseeS u0 u1 u2).1).Last), .int .i64 (((gseeS u0 u1 u2).1).Bad), .int .i64 (((gseeS u0 u1 u2).1).State)]) (vs := [.int .i64 (((gseeS u0 u1 u2).1).Key), .int .i64 (((gseeS u0 u1 u2).1).Last), .int .i64 (((gseeS u0 u1 u2).1).Bad), .int .i64 (((gseeS u0 u1 u2).1).State)]) (ty := 62) rfl (by kernel_rfl) (by kernel_rfl) (by kernel_rfl) (by kernel_rfl) (by kernel_rfl) hg) ?_; intro a683 hF684; clear hF682
          refine gd hF684 (.agg #[.int .i64 u0.Key, .int .i64 (w64 (q362.tmod 16)), .int .i64 0, .int .i64 1]) (m := 0) (cj := []) (bj := ((gseeS u0 u1 u2).2) == 0) rfl rfl (by kernel_rfl) rfl (by kernel_rfl) (by kernel_rfl) (by kernel_rfl) (fun hg => lda hF684 hM625 0 (g := [0]) (b := b381) (off := 0) (k := 4) (cs := [.int .i64 u0.Key, .int .i64 (w64 (q362.tmod 16)), .int .i64 0, .int .i64 1]) (vs := [.int .i64 u0.Key, .int .i64 (w64 (q362.tmod 16)), .int .i64 0, .int .i64 1]) (ty := 62) rfl (by kernel_rfl) (by kernel_rfl) (by kernel_rfl) (by kernel_rfl) (by kernel_rfl) hg) ?_; intro a685 hF686; clear hF684
          refine gd hF686 (.bool (((((gseeS u0 u1 u2).1).Key) == u0.Key) && (((((gseeS u0 u1 u2).1).Last) == (w64 (q362.tmod 16))) && (((((gseeS u0 u1 u2).1).Bad) == 0) && (((((gseeS u0 u1 u2).1).State) == 1) && true))))) (m := 0) (cj := []) (bj := ((gseeS u0 u1 u2).2) == 0) rfl rfl (by kernel_rfl) rfl (by kernel_rfl) (by kernel_rfl) (by kernel_rfl) (fun hg => eqs_run hF686 (g := [0]) (xs := #[.int .i64 (((gseeS u0 u1 u2).1).Key), .int .i64 (((gseeS u0 u1 u2).1).Last), .int .i64 (((gseeS u0 u1 u2).1).Bad), .int .i64 (((gseeS u0 u1 u2).1).State)]) (ys := #[.int .i64 u0.Key, .int .i64 (w64 (q362.tmod 16)), .int .i64 0, .int .i64 1]) (b := ((((gseeS u0 u1 u2).1).Key) == u0.Key) && (((((gseeS u0 u1 u2).1).Last) == (w64 (q362.tmod 16))) && (((((gseeS u0 u1 u2).1).Bad) == 0) && (((((gseeS u0 u1 u2).1).State) == 1) && true)))) rfl (by kernel_rfl) (by kernel_rfl) (by kernel_rfl) (by kernel_rfl) hg) ?_; intro a687 hF688; clear hF686
          refine st hF688 (.bool ((((gseeS u0 u1 u2).2) == 0) && (((((gseeS u0 u1 u2).1).Key) == u0.Key) && (((((gseeS u0 u1 u2).1).Last) == (w64 (q362.tmod 16))) && (((((gseeS u0 u1 u2).1).Bad) == 0) && (((((gseeS u0 u1 u2).1).State) == 1) && true)))))) (nog rfl _) rfl (by kernel_rfl) (pk_and hF688 (g := []) (m := 0) (b := ((gseeS u0 u1 u2).2) == 0) (v := ((((gseeS u0 u1 u2).1).Key) == u0.Key) && (((((gseeS u0 u1 u2).1).Last) == (w64 (q362.tmod 16))) && (((((gseeS u0 u1 u2).1).Bad) == 0) && (((((gseeS u0 u1 u2).1).State) == 1) && true)))) rfl (by kernel_rfl) (by kernel_rfl) (by kernel_rfl) rfl) ?_; intro a689 hF690; clear hF688
          refine s1 hF690 6 (.bool ((((gseeS u0 u1 u2).2) == 0) && (((((gseeS u0 u1 u2).1).Key) == u0.Key) && (((((gseeS u0 u1 u2).1).Last) == (w64 (q362.tmod 16))) && (((((gseeS u0 u1 u2).1).Bad) == 0) && (((((gseeS u0 u1 u2).1).State) == 1) && true)))))) ?_; intro a691 hF692; clear hF690
          refine nlH (hQ675 _ _ ?_); clear hQ675 hQ675Q
          refine wp_ret ?_
          refine rt (fn := Tryd.f9) (v := .bool ((((gseeS u0 u1 u2).2) == 0) && (((((gseeS u0 u1 u2).1).Key) == u0.Key) && (((((gseeS u0 u1 u2).1).Last) == (w64 (q362.tmod 16))) && (((((gseeS u0 u1 u2).1).Bad) == 0) && (((((gseeS u0 u1 u2).1).State) == 1) && true)))))) hF692 (re1 hF692 (fn := Tryd.f9) rfl (by kernel_rfl)) ?_
          exact ⟨(((gseeS u0 u1 u2).2) == 0) && (((((gseeS u0 u1 u2).1).Key) == u0.Key) && (((((gseeS u0 u1 u2).1).Last) == (w64 (q362.tmod 16))) && (((((gseeS u0 u1 u2).1).Bad) == 0) && (((((gseeS u0 u1 u2).1).State) == 1) && true)))), rfl, hp674, hM625.below⟩
        ·
         have hp693 := hp570.2 hb613; clear hp570
         have hF694 : Fr 155 [] [⟨2, [], .int .i64 u2⟩, ⟨7, [], .pointer (some ⟨b32, 0, none⟩)⟩, ⟨8, [], .int .i64 ((gseeS u0 u1 u2).2)⟩, ⟨11, [], .pointer (some ⟨b381, 0, none⟩)⟩, ⟨12, [], .bool (q529 != (gsumS u0.Key u1))⟩, ⟨13, [], .int .i64 ((w64 ((w64 ((w64 (q362.tmod 16)) + 15)) - u0.Last)).tmod 15)⟩] a611 := hF612.reg; clear hF612
         refine sqH ?_; intro hQ695Q hQ695
         refine s1 hF694 129 (.int .i64 ((w64 ((w64 ((w64 (q362.tmod 16)) + 15)) - u0.Last)).tmod 15)) ?_; intro a696 hF697; clear hF694
         refine s1 hF697 130 (.bool (((w64 ((w64 ((w64 (q362.tmod 16)) + 15)) - u0.Last)).tmod 15) == 0)) ?_; intro a698 hF699; clear hF697
         refine s1 hF699 128 (.bool (((w64 ((w64 ((w64 (q362.tmod 16)) + 15)) - u0.Last)).tmod 15) == 0)) ?_; intro a700 hF701; clear hF699
         refine nlH (hQ695 _ _ ?_); clear hQ695 hQ695Q
         refine cd hF701 (t := ((w64 ((w64 ((w64 (q362.tmod 16)) + 15)) - u0.Last)).tmod 15) == 0) (by kernel_rfl) (fun hb702 => ?_) (fun hb702 => ?_)
         ·
          have hp703 := hp693.1 hb702; clear hp693
          refine rgH ?_; intro hQ704Q hQ704
          refine s1 hF701 131 (.pointer (some ⟨b381, 3, none⟩)) ?_; intro a705 hF706; clear hF701
          refine sr hF706 hM594 0 [.int .i64 u0.Key, .int .i64 (w64 (q362.tmod 16)), .int .i64 u0.Bad, .int .i64 3] (b := b381) (off := 3) (cs := [.int .i64 u0.Key, .int .i64 (w64 (q362.tmod 16)), .int .i64 u0.Bad, .int .i64 u0.State]) (ty := 62) (u := .int .i64 3) (nog rfl _) rfl rfl (by kernel_rfl) (by kernel_rfl) (by kernel_rfl) (by kernel_rfl) (by kernel_rfl) (by kernel_rfl) (by kernel_rfl) ?_; intro wd707 hM708; clear hM594
          have hM709 : Mem w.heap.size [] w Z [.row b381 [.int .i64 u0.Key, .int .i64 (w64 (q362.tmod 16)), .int .i64 u0.Bad, .int .i64 3] 62, .row b32 [.int .i64 (((gseeS u0 u1 u2).1).Key), .int .i64 (((gseeS u0 u1 u2).1).Last), .int .i64 (((gseeS u0 u1 u2).1).Bad), .int .i64 (((gseeS u0 u1 u2).1).State)] 62, .row b6 [.int .i64 u0.Key, .int .i64 u0.Last, .int .i64 u0.Bad, .int .i64 u0.State] 62] Z wd707 := hM708; clear hM708
          refine nlH (hQ704 _ _ ?_); clear hQ704 hQ704Q
          refine ibn ?_
          refine thn ?_
          refine wp_seq ?_
          refine sqH ?_; intro hQ710Q hQ710
          refine s1 hF706 138 (.bool (q529 != (gsumS u0.Key u1))) ?_; intro a711 hF712; clear hF706
          refine nlH (hQ710 _ _ ?_); clear hQ710 hQ710Q
          refine cd hF712 (t := q529 != (gsumS u0.Key u1)) (by kernel_rfl) (fun hb713 => ?_) (fun hb713 => ?_)
          ·
           have hp714 := hp703.1 hb713; clear hp703
           refine sqH ?_; intro hQ715Q hQ715
           refine s1 hF712 139 (.pointer (some ⟨b381, 3, none⟩)) ?_; intro a716 hF717; clear hF712
           refine sr hF717 hM709 0 [.int .i64 u0.Key, .int .i64 (w64 (q362.tmod 16)), .int .i64 u0.Bad, .int .i64 4] (b := b381) (off := 3) (cs := [.int .i64 u0.Key, .int .i64 (w64 (q362.tmod 16)), .int .i64 u0.Bad, .int .i64 3]) (ty := 62) (u := .int .i64 4) (nog rfl _) rfl rfl (by kernel_rfl) (by kernel_rfl) (by kernel_rfl) (by kernel_rfl) (by kernel_rfl) (by kernel_rfl) (by kernel_rfl) ?_; intro wd718 hM719; clear hM709
           have hM720 : Mem w.heap.size [] w Z [.row b381 [.int .i64 u0.Key, .int .i64 (w64 (q362.tmod 16)), .int .i64 u0.Bad, .int .i64 4] 62, .row b32 [.int .i64 (((gseeS u0 u1 u2).1).Key), .int .i64 (((gseeS u0 u1 u2).1).Last), .int .i64 (((gseeS u0 u1 u2).1).Bad), .int .i64 (((gseeS u0 u1 u2).1).State)] 62, .row b6 [.int .i64 u0.Key, .int .i64 u0.Last, .int .i64 u0.Bad, .int .i64 u0.State] 62] Z wd718 := hM719; clear hM719
           refine nlH (hQ715 _ _ ?_); clear hQ715 hQ715Q
           refine sqH ?_; intro hQ721Q hQ721
           refine s1 hF717 140 (.pointer (some ⟨b381, 2, none⟩)) ?_; intro a722 hF723; clear hF717
           refine l1 hF723 hM720 141 0 2 (.int .i64 u0.Bad) rfl rfl ?_; intro a724 hF725; clear hF723
           refine s1 hF725 142 (.int .i64 (w64 (u0.Bad + 1))) ?_; intro a726 hF727; clear hF725
           refine s1 hF727 143 (.pointer (some ⟨b381, 2, none⟩)) ?_; intro a728 hF729; clear hF727
           refine sr hF729 hM720 0 [.int .i64 u0.Key, .int .i64 (w64 (q362.tmod 16)), .int .i64 (w64 (u0.Bad + 1)), .int .i64 4] (b := b381) (off := 2) (cs := [.int .i64 u0.Key, .int .i64 (w64 (q362.tmod 16)), .int .i64 u0.Bad, .int .i64 4]) (ty := 62) (u := .int .i64 (w64 (u0.Bad + 1))) (nog rfl _) rfl rfl (by kernel_rfl) (by kernel_rfl) (by kernel_rfl) (by kernel_rfl) (by kernel_rfl) (by kernel_rfl) (by kernel_rfl) ?_; intro wd730 hM731; clear hM720
           have hM732 : Mem w.heap.size [] w Z [.row b381 [.int .i64 u0.Key, .int .i64 (w64 (q362.tmod 16)), .int .i64 (w64 (u0.Bad + 1)), .int .i64 4] 62, .row b32 [.int .i64 (((gseeS u0 u1 u2).1).Key), .int .i64 (((gseeS u0 u1 u2).1).Last), .int .i64 (((gseeS u0 u1 u2).1).Bad), .int .i64 (((gseeS u0 u1 u2).1).State)] 62, .row b6 [.int .i64 u0.Key, .int .i64 u0.Last, .int .i64 u0.Bad, .int .i64 u0.State] 62] Z wd730 := hM731; clear hM731
           refine nlH (hQ721 _ _ ?_); clear hQ721 hQ721Q
           refine sqH ?_; intro hQ733Q hQ733
           refine s1 hF729 144 (.pointer (some ⟨b381, 2, none⟩)) ?_; intro a734 hF735; clear hF729
           refine l1 hF735 hM732 145 0 2 (.int .i64 (w64 (u0.Bad + 1))) rfl rfl ?_; intro a736 hF737; clear hF735
           refine s1 hF737 146 (.bool (decide ((w64 (u0.Bad + 1)) > 1000000))) ?_; intro a738 hF739; clear hF737
           refine nlH (hQ733 _ _ ?_); clear hQ733 hQ733Q
           refine cd hF739 (t := decide ((w64 (u0.Bad + 1)) > 1000000)) (by kernel_rfl) (fun hb740 => ?_) (fun hb740 => ?_)
           ·
            have hp741 := hp714.1 hb740; clear hp714
            refine rgH ?_; intro hQ742Q hQ742
            refine s1 hF739 147 (.pointer (some ⟨b381, 2, none⟩)) ?_; intro a743 hF744; clear hF739
            refine sr hF744 hM732 0 [.int .i64 u0.Key, .int .i64 (w64 (q362.tmod 16)), .int .i64 1000000, .int .i64 4] (b := b381) (off := 2) (cs := [.int .i64 u0.Key, .int .i64 (w64 (q362.tmod 16)), .int .i64 (w64 (u0.Bad + 1)), .int .i64 4]) (ty := 62) (u := .int .i64 1000000) (nog rfl _) rfl rfl (by kernel_rfl) (by kernel_rfl) (by kernel_rfl) (by kernel_rfl) (by kernel_rfl) (by kernel_rfl) (by kernel_rfl) ?_; intro wd745 hM746; clear hM732
            have hM747 : Mem w.heap.size [] w Z [.row b381 [.int .i64 u0.Key, .int .i64 (w64 (q362.tmod 16)), .int .i64 1000000, .int .i64 4] 62, .row b32 [.int .i64 (((gseeS u0 u1 u2).1).Key), .int .i64 (((gseeS u0 u1 u2).1).Last), .int .i64 (((gseeS u0 u1 u2).1).Bad), .int .i64 (((gseeS u0 u1 u2).1).State)] 62, .row b6 [.int .i64 u0.Key, .int .i64 u0.Last, .int .i64 u0.Bad, .int .i64 u0.State] 62] Z wd745 := hM746; clear hM746
            refine nlH (hQ742 _ _ ?_); clear hQ742 hQ742Q
            refine thn ?_
            have hF748 : Fr 155 [] [⟨7, [], .pointer (some ⟨b32, 0, none⟩)⟩, ⟨8, [], .int .i64 ((gseeS u0 u1 u2).2)⟩, ⟨11, [], .pointer (some ⟨b381, 0, none⟩)⟩] a743 := hF744.reg; clear hF744
            refine sqH ?_; intro hQ749Q hQ749
            refine s1 hF748 148 (.int .i64 ((gseeS u0 u1 u2).2)) ?_; intro a750 hF751; clear hF748
            refine s1 hF751 149 (.bool (((gseeS u0 u1 u2).2) == 0)) ?_; intro a752 hF753; clear hF751
            refine s1 hF753 150 (.bool (((gseeS u0 u1 u2).2) == 0)) ?_; intro a754 hF755; clear hF753
            have hF756 := hF755.atom ((((gseeS u0 u1 u2).2) == 0) == true) (by kernel_rfl); clear hF755
            refine gd hF756 (.agg #[.int .i64 (((gseeS u0 u1 u2).1).Key), .int .i64 (((gseeS u0 u1 u2).1).Last), .int .i64 (((gseeS u0 u1 u2).1).Bad), .int .i64 (((gseeS u0 u1 u2).1).State)]) (m := 0) (cj := []) (bj := ((gseeS u0 u1 u2).2) == 0) rfl rfl (by kernel_rfl) rfl (by kernel_rfl) (by kernel_rfl) (by kernel_rfl) (fun hg => lda hF756 hM747 1 (g := [0]) (b := b32) (off := 0) (k := 4) (cs := [.int .i64 (((gseeS u0 u1 u2).1).Key), .int .i64 (((gseeS u0 u1 u2).1).Last), .int .i64 (((gseeS u0 u1 u2).1).Bad), .int .i64 (((gseeS u0 u1 u2).1).State)]) (vs := [.int .i64 (((gseeS u0 u1 u2).1).Key), .int .i64 (((gseeS u0 u1 u2).1).Last), .int .i64 (((gseeS u0 u1 u2).1).Bad), .int .i64 (((gseeS u0 u1 u2).1).State)]) (ty := 62) rfl (by kernel_rfl) (by kernel_rfl) (by kernel_rfl) (by kernel_rfl) (by kernel_rfl) hg) ?_; intro a757 hF758; clear hF756
            refine gd hF758 (.agg #[.int .i64 u0.Key, .int .i64 (w64 (q362.tmod 16)), .int .i64 1000000, .int .i64 4]) (m := 0) (cj := []) (bj := ((gseeS u0 u1 u2).2) == 0) rfl rfl (by kernel_rfl) rfl (by kernel_rfl) (by kernel_rfl) (by kernel_rfl) (fun hg => lda hF758 hM747 0 (g := [0]) (b := b381) (off := 0) (k := 4) (cs := [.int .i64 u0.Key, .int .i64 (w64 (q362.tmod 16)), .int .i64 1000000, .int .i64 4]) (vs := [.int .i64 u0.Key, .int .i64 (w64 (q362.tmod 16)), .int .i64 1000000, .int .i64 4]) (ty := 62) rfl (by kernel_rfl) (by kernel_rfl) (by kernel_rfl) (by kernel_rfl) (by kernel_rfl) hg) ?_; intro a759 hF760; clear hF758
            refine gd hF760 (.bool (((((gseeS u0 u1 u2).1).Key) == u0.Key) && (((((gseeS u0 u1 u2).1).Last) == (w64 (q362.tmod 16))) && (((((gseeS u0 u1 u2).1).Bad) == 1000000) && (((((gseeS u0 u1 u2).1).State) == 4) && true))))) (m := 0) (cj := []) (bj := ((gseeS u0 u1 u2).2) == 0) rfl rfl (by kernel_rfl) rfl (by kernel_rfl) (by kernel_rfl) (by kernel_rfl) (fun hg => eqs_run hF760 (g := [0]) (xs := #[.int .i64 (((gseeS u0 u1 u2).1).Key), .int .i64 (((gseeS u0 u1 u2).1).Last), .int .i64 (((gseeS u0 u1 u2).1).Bad), .int .i64 (((gseeS u0 u1 u2).1).State)]) (ys := #[.int .i64 u0.Key, .int .i64 (w64 (q362.tmod 16)), .int .i64 1000000, .int .i64 4]) (b := ((((gseeS u0 u1 u2).1).Key) == u0.Key) && (((((gseeS u0 u1 u2).1).Last) == (w64 (q362.tmod 16))) && (((((gseeS u0 u1 u2).1).Bad) == 1000000) && (((((gseeS u0 u1 u2).1).State) == 4) && true)))) rfl (by kernel_rfl) (by kernel_rfl) (by kernel_rfl) (by kernel_rfl) hg) ?_; intro a761 hF762; clear hF760
            refine st hF762 (.bool ((((gseeS u0 u1 u2).2) == 0) && (((((gseeS u0 u1 u2).1).Key) == u0.Key) && (((((gseeS u0 u1 u2).1).Last) == (w64 (q362.tmod 16))) && (((((gseeS u0 u1 u2).1).Bad) == 1000000) && (((((gseeS u0 u1 u2).1).State) == 4) && true)))))) (nog rfl _) rfl (by kernel_rfl) (pk_and hF762 (g := []) (m := 0) (b := ((gseeS u0 u1 u2).2) == 0) (v := ((((gseeS u0 u1 u2).1).Key) == u0.Key) && (((((gseeS u0 u1 u2).1).Last) == (w64 (q362.tmod 16))) && (((((gseeS u0 u1 u2).1).Bad) == 1000000) && (((((gseeS u0 u1 u2).1).State) == 4) && true)))) rfl (by kernel_rfl) (by kernel_rfl) (by kernel_rfl) rfl) ?_; intro a763 hF764; clear hF762
            refine s1 hF764 6 (.bool ((((gseeS u0 u1 u2).2) == 0) && (((((gseeS u0 u1 u2).1).Key) == u0.Key) && (((((gseeS u0 u1 u2).1).Last) == (w64 (q362.tmod 16))) && (((((gseeS u0 u1 u2).1).Bad) == 1000000) && (((((gseeS u0 u1 u2).1).State) == 4) && true)))))) ?_; intro a765 hF766; clear hF764
            refine nlH (hQ749 _ _ ?_); clear hQ749 hQ749Q
            refine wp_ret ?_
            refine rt (fn := Tryd.f9) (v := .bool ((((gseeS u0 u1 u2).2) == 0) && (((((gseeS u0 u1 u2).1).Key) == u0.Key) && (((((gseeS u0 u1 u2).1).Last) == (w64 (q362.tmod 16))) && (((((gseeS u0 u1 u2).1).Bad) == 1000000) && (((((gseeS u0 u1 u2).1).State) == 4) && true)))))) hF766 (re1 hF766 (fn := Tryd.f9) rfl (by kernel_rfl)) ?_
            exact ⟨(((gseeS u0 u1 u2).2) == 0) && (((((gseeS u0 u1 u2).1).Key) == u0.Key) && (((((gseeS u0 u1 u2).1).Last) == (w64 (q362.tmod 16))) && (((((gseeS u0 u1 u2).1).Bad) == 1000000) && (((((gseeS u0 u1 u2).1).State) == 4) && true)))), rfl, hp741, hM747.below⟩
           ·
            have hp767 := hp714.2 hb740; clear hp714
            refine wp_skip ?_
            refine thn ?_
            refine sqH ?_; intro hQ768Q hQ768
            refine s1 hF739 148 (.int .i64 ((gseeS u0 u1 u2).2)) ?_; intro a769 hF770; clear hF739
            refine s1 hF770 149 (.bool (((gseeS u0 u1 u2).2) == 0)) ?_; intro a771 hF772; clear hF770
            refine s1 hF772 150 (.bool (((gseeS u0 u1 u2).2) == 0)) ?_; intro a773 hF774; clear hF772
            have hF775 := hF774.atom ((((gseeS u0 u1 u2).2) == 0) == true) (by kernel_rfl); clear hF774
            refine gd hF775 (.agg #[.int .i64 (((gseeS u0 u1 u2).1).Key), .int .i64 (((gseeS u0 u1 u2).1).Last), .int .i64 (((gseeS u0 u1 u2).1).Bad), .int .i64 (((gseeS u0 u1 u2).1).State)]) (m := 0) (cj := []) (bj := ((gseeS u0 u1 u2).2) == 0) rfl rfl (by kernel_rfl) rfl (by kernel_rfl) (by kernel_rfl) (by kernel_rfl) (fun hg => lda hF775 hM732 1 (g := [0]) (b := b32) (off := 0) (k := 4) (cs := [.int .i64 (((gseeS u0 u1 u2).1).Key), .int .i64 (((gseeS u0 u1 u2).1).Last), .int .i64 (((gseeS u0 u1 u2).1).Bad), .int .i64 (((gseeS u0 u1 u2).1).State)]) (vs := [.int .i64 (((gseeS u0 u1 u2).1).Key), .int .i64 (((gseeS u0 u1 u2).1).Last), .int .i64 (((gseeS u0 u1 u2).1).Bad), .int .i64 (((gseeS u0 u1 u2).1).State)]) (ty := 62) rfl (by kernel_rfl) (by kernel_rfl) (by kernel_rfl) (by kernel_rfl) (by kernel_rfl) hg) ?_; intro a776 hF777; clear hF775
            refine gd hF777 (.agg #[.int .i64 u0.Key, .int .i64 (w64 (q362.tmod 16)), .int .i64 (w64 (u0.Bad + 1)), .int .i64 4]) (m := 0) (cj := []) (bj := ((gseeS u0 u1 u2).2) == 0) rfl rfl (by kernel_rfl) rfl (by kernel_rfl) (by kernel_rfl) (by kernel_rfl) (fun hg => lda hF777 hM732 0 (g := [0]) (b := b381) (off := 0) (k := 4) (cs := [.int .i64 u0.Key, .int .i64 (w64 (q362.tmod 16)), .int .i64 (w64 (u0.Bad + 1)), .int .i64 4]) (vs := [.int .i64 u0.Key, .int .i64 (w64 (q362.tmod 16)), .int .i64 (w64 (u0.Bad + 1)), .int .i64 4]) (ty := 62) rfl (by kernel_rfl) (by kernel_rfl) (by kernel_rfl) (by kernel_rfl) (by kernel_rfl) hg) ?_; intro a778 hF779; clear hF777
            refine gd hF779 (.bool (((((gseeS u0 u1 u2).1).Key) == u0.Key) && (((((gseeS u0 u1 u2).1).Last) == (w64 (q362.tmod 16))) && (((((gseeS u0 u1 u2).1).Bad) == (w64 (u0.Bad + 1))) && (((((gseeS u0 u1 u2).1).State) == 4) && true))))) (m := 0) (cj := []) (bj := ((gseeS u0 u1 u2).2) == 0) rfl rfl (by kernel_rfl) rfl (by kernel_rfl) (by kernel_rfl) (by kernel_rfl) (fun hg => eqs_run hF779 (g := [0]) (xs := #[.int .i64 (((gseeS u0 u1 u2).1).Key), .int .i64 (((gseeS u0 u1 u2).1).Last), .int .i64 (((gseeS u0 u1 u2).1).Bad), .int .i64 (((gseeS u0 u1 u2).1).State)]) (ys := #[.int .i64 u0.Key, .int .i64 (w64 (q362.tmod 16)), .int .i64 (w64 (u0.Bad + 1)), .int .i64 4]) (b := ((((gseeS u0 u1 u2).1).Key) == u0.Key) && (((((gseeS u0 u1 u2).1).Last) == (w64 (q362.tmod 16))) && (((((gseeS u0 u1 u2).1).Bad) == (w64 (u0.Bad + 1))) && (((((gseeS u0 u1 u2).1).State) == 4) && true)))) rfl (by kernel_rfl) (by kernel_rfl) (by kernel_rfl) (by kernel_rfl) hg) ?_; intro a780 hF781; clear hF779
            refine st hF781 (.bool ((((gseeS u0 u1 u2).2) == 0) && (((((gseeS u0 u1 u2).1).Key) == u0.Key) && (((((gseeS u0 u1 u2).1).Last) == (w64 (q362.tmod 16))) && (((((gseeS u0 u1 u2).1).Bad) == (w64 (u0.Bad + 1))) && (((((gseeS u0 u1 u2).1).State) == 4) && true)))))) (nog rfl _) rfl (by kernel_rfl) (pk_and hF781 (g := []) (m := 0) (b := ((gseeS u0 u1 u2).2) == 0) (v := ((((gseeS u0 u1 u2).1).Key) == u0.Key) && (((((gseeS u0 u1 u2).1).Last) == (w64 (q362.tmod 16))) && (((((gseeS u0 u1 u2).1).Bad) == (w64 (u0.Bad + 1))) && (((((gseeS u0 u1 u2).1).State) == 4) && true)))) rfl (by kernel_rfl) (by kernel_rfl) (by kernel_rfl) rfl) ?_; intro a782 hF783; clear hF781
            refine s1 hF783 6 (.bool ((((gseeS u0 u1 u2).2) == 0) && (((((gseeS u0 u1 u2).1).Key) == u0.Key) && (((((gseeS u0 u1 u2).1).Last) == (w64 (q362.tmod 16))) && (((((gseeS u0 u1 u2).1).Bad) == (w64 (u0.Bad + 1))) && (((((gseeS u0 u1 u2).1).State) == 4) && true)))))) ?_; intro a784 hF785; clear hF783
            refine nlH (hQ768 _ _ ?_); clear hQ768 hQ768Q
            refine wp_ret ?_
            refine rt (fn := Tryd.f9) (v := .bool ((((gseeS u0 u1 u2).2) == 0) && (((((gseeS u0 u1 u2).1).Key) == u0.Key) && (((((gseeS u0 u1 u2).1).Last) == (w64 (q362.tmod 16))) && (((((gseeS u0 u1 u2).1).Bad) == (w64 (u0.Bad + 1))) && (((((gseeS u0 u1 u2).1).State) == 4) && true)))))) hF785 (re1 hF785 (fn := Tryd.f9) rfl (by kernel_rfl)) ?_
            exact ⟨(((gseeS u0 u1 u2).2) == 0) && (((((gseeS u0 u1 u2).1).Key) == u0.Key) && (((((gseeS u0 u1 u2).1).Last) == (w64 (q362.tmod 16))) && (((((gseeS u0 u1 u2).1).Bad) == (w64 (u0.Bad + 1))) && (((((gseeS u0 u1 u2).1).State) == 4) && true)))), rfl, hp767, hM732.below⟩
          ·
           have hp786 := hp703.2 hb713; clear hp703
           refine wp_skip ?_
           refine thn ?_
           refine sqH ?_; intro hQ787Q hQ787
           refine s1 hF712 148 (.int .i64 ((gseeS u0 u1 u2).2)) ?_; intro a788 hF789; clear hF712
           refine s1 hF789 149 (.bool (((gseeS u0 u1 u2).2) == 0)) ?_; intro a790 hF791; clear hF789
           refine s1 hF791 150 (.bool (((gseeS u0 u1 u2).2) == 0)) ?_; intro a792 hF793; clear hF791
           have hF794 := hF793.atom ((((gseeS u0 u1 u2).2) == 0) == true) (by kernel_rfl); clear hF793
           refine gd hF794 (.agg #[.int .i64 (((gseeS u0 u1 u2).1).Key), .int .i64 (((gseeS u0 u1 u2).1).Last), .int .i64 (((gseeS u0 u1 u2).1).Bad), .int .i64 (((gseeS u0 u1 u2).1).State)]) (m := 0) (cj := []) (bj := ((gseeS u0 u1 u2).2) == 0) rfl rfl (by kernel_rfl) rfl (by kernel_rfl) (by kernel_rfl) (by kernel_rfl) (fun hg => lda hF794 hM709 1 (g := [0]) (b := b32) (off := 0) (k := 4) (cs := [.int .i64 (((gseeS u0 u1 u2).1).Key), .int .i64 (((gseeS u0 u1 u2).1).Last), .int .i64 (((gseeS u0 u1 u2).1).Bad), .int .i64 (((gseeS u0 u1 u2).1).State)]) (vs := [.int .i64 (((gseeS u0 u1 u2).1).Key), .int .i64 (((gseeS u0 u1 u2).1).Last), .int .i64 (((gseeS u0 u1 u2).1).Bad), .int .i64 (((gseeS u0 u1 u2).1).State)]) (ty := 62) rfl (by kernel_rfl) (by kernel_rfl) (by kernel_rfl) (by kernel_rfl) (by kernel_rfl) hg) ?_; intro a795 hF796; clear hF794
           refine gd hF796 (.agg #[.int .i64 u0.Key, .int .i64 (w64 (q362.tmod 16)), .int .i64 u0.Bad, .int .i64 3]) (m := 0) (cj := []) (bj := ((gseeS u0 u1 u2).2) == 0) rfl rfl (by kernel_rfl) rfl (by kernel_rfl) (by kernel_rfl) (by kernel_rfl) (fun hg => lda hF796 hM709 0 (g := [0]) (b := b381) (off := 0) (k := 4) (cs := [.int .i64 u0.Key, .int .i64 (w64 (q362.tmod 16)), .int .i64 u0.Bad, .int .i64 3]) (vs := [.int .i64 u0.Key, .int .i64 (w64 (q362.tmod 16)), .int .i64 u0.Bad, .int .i64 3]) (ty := 62) rfl (by kernel_rfl) (by kernel_rfl) (by kernel_rfl) (by kernel_rfl) (by kernel_rfl) hg) ?_; intro a797 hF798; clear hF796
           refine gd hF798 (.bool (((((gseeS u0 u1 u2).1).Key) == u0.Key) && (((((gseeS u0 u1 u2).1).Last) == (w64 (q362.tmod 16))) && (((((gseeS u0 u1 u2).1).Bad) == u0.Bad) && (((((gseeS u0 u1 u2).1).State) == 3) && true))))) (m := 0) (cj := []) (bj := ((gseeS u0 u1 u2).2) == 0) rfl rfl (by kernel_rfl) rfl (by kernel_rfl) (by kernel_rfl) (by kernel_rfl) (fun hg => eqs_run hF798 (g := [0]) (xs := #[.int .i64 (((gseeS u0 u1 u2).1).Key), .int .i64 (((gseeS u0 u1 u2).1).Last), .int .i64 (((gseeS u0 u1 u2).1).Bad), .int .i64 (((gseeS u0 u1 u2).1).State)]) (ys := #[.int .i64 u0.Key, .int .i64 (w64 (q362.tmod 16)), .int .i64 u0.Bad, .int .i64 3]) (b := ((((gseeS u0 u1 u2).1).Key) == u0.Key) && (((((gseeS u0 u1 u2).1).Last) == (w64 (q362.tmod 16))) && (((((gseeS u0 u1 u2).1).Bad) == u0.Bad) && (((((gseeS u0 u1 u2).1).State) == 3) && true)))) rfl (by kernel_rfl) (by kernel_rfl) (by kernel_rfl) (by kernel_rfl) hg) ?_; intro a799 hF800; clear hF798
           refine st hF800 (.bool ((((gseeS u0 u1 u2).2) == 0) && (((((gseeS u0 u1 u2).1).Key) == u0.Key) && (((((gseeS u0 u1 u2).1).Last) == (w64 (q362.tmod 16))) && (((((gseeS u0 u1 u2).1).Bad) == u0.Bad) && (((((gseeS u0 u1 u2).1).State) == 3) && true)))))) (nog rfl _) rfl (by kernel_rfl) (pk_and hF800 (g := []) (m := 0) (b := ((gseeS u0 u1 u2).2) == 0) (v := ((((gseeS u0 u1 u2).1).Key) == u0.Key) && (((((gseeS u0 u1 u2).1).Last) == (w64 (q362.tmod 16))) && (((((gseeS u0 u1 u2).1).Bad) == u0.Bad) && (((((gseeS u0 u1 u2).1).State) == 3) && true)))) rfl (by kernel_rfl) (by kernel_rfl) (by kernel_rfl) rfl) ?_; intro a801 hF802; clear hF800
           refine s1 hF802 6 (.bool ((((gseeS u0 u1 u2).2) == 0) && (((((gseeS u0 u1 u2).1).Key) == u0.Key) && (((((gseeS u0 u1 u2).1).Last) == (w64 (q362.tmod 16))) && (((((gseeS u0 u1 u2).1).Bad) == u0.Bad) && (((((gseeS u0 u1 u2).1).State) == 3) && true)))))) ?_; intro a803 hF804; clear hF802
           refine nlH (hQ787 _ _ ?_); clear hQ787 hQ787Q
           refine wp_ret ?_
           refine rt (fn := Tryd.f9) (v := .bool ((((gseeS u0 u1 u2).2) == 0) && (((((gseeS u0 u1 u2).1).Key) == u0.Key) && (((((gseeS u0 u1 u2).1).Last) == (w64 (q362.tmod 16))) && (((((gseeS u0 u1 u2).1).Bad) == u0.Bad) && (((((gseeS u0 u1 u2).1).State) == 3) && true)))))) hF804 (re1 hF804 (fn := Tryd.f9) rfl (by kernel_rfl)) ?_
           exact ⟨(((gseeS u0 u1 u2).2) == 0) && (((((gseeS u0 u1 u2).1).Key) == u0.Key) && (((((gseeS u0 u1 u2).1).Last) == (w64 (q362.tmod 16))) && (((((gseeS u0 u1 u2).1).Bad) == u0.Bad) && (((((gseeS u0 u1 u2).1).State) == 3) && true)))), rfl, hp786, hM709.below⟩
         ·
          have hp805 := hp693.2 hb702; clear hp693
          refine sqH ?_; intro hQ806Q hQ806
          refine s1 hF701 133 (.int .i64 ((w64 ((w64 ((w64 (q362.tmod 16)) + 15)) - u0.Last)).tmod 15)) ?_; intro a807 hF808; clear hF701
          refine s1 hF808 134 (.int .i64 u2) ?_; intro a809 hF810; clear hF808
          refine s1 hF810 135 (.bool (decide (((w64 ((w64 ((w64 (q362.tmod 16)) + 15)) - u0.Last)).tmod 15) ≤ u2))) ?_; intro a811 hF812; clear hF810
          refine s1 hF812 132 (.bool (decide (((w64 ((w64 ((w64 (q362.tmod 16)) + 15)) - u0.Last)).tmod 15) ≤ u2))) ?_; intro a813 hF814; clear hF812
          refine nlH (hQ806 _ _ ?_); clear hQ806 hQ806Q
          refine cd hF814 (t := decide (((w64 ((w64 ((w64 (q362.tmod 16)) + 15)) - u0.Last)).tmod 15) ≤ u2)) (by kernel_rfl) (fun hb815 => ?_) (fun hb815 => ?_)
          ·
           have hp816 := hp805.1 hb815; clear hp805
           refine rgH ?_; intro hQ817Q hQ817
           refine s1 hF814 136 (.pointer (some ⟨b381, 3, none⟩)) ?_; intro a818 hF819; clear hF814
           refine sr hF819 hM594 0 [.int .i64 u0.Key, .int .i64 (w64 (q362.tmod 16)), .int .i64 u0.Bad, .int .i64 2] (b := b381) (off := 3) (cs := [.int .i64 u0.Key, .int .i64 (w64 (q362.tmod 16)), .int .i64 u0.Bad, .int .i64 u0.State]) (ty := 62) (u := .int .i64 2) (nog rfl _) rfl rfl (by kernel_rfl) (by kernel_rfl) (by kernel_rfl) (by kernel_rfl) (by kernel_rfl) (by kernel_rfl) (by kernel_rfl) ?_; intro wd820 hM821; clear hM594
           refine s1 hF819 137 (.pointer (some ⟨b381, 2, none⟩)) ?_; intro a822 hF823; clear hF819
           refine sr hF823 hM821 0 [.int .i64 u0.Key, .int .i64 (w64 (q362.tmod 16)), .int .i64 0, .int .i64 2] (b := b381) (off := 2) (cs := [.int .i64 u0.Key, .int .i64 (w64 (q362.tmod 16)), .int .i64 u0.Bad, .int .i64 2]) (ty := 62) (u := .int .i64 0) (nog rfl _) rfl rfl (by kernel_rfl) (by kernel_rfl) (by kernel_rfl) (by kernel_rfl) (by kernel_rfl) (by kernel_rfl) (by kernel_rfl) ?_; intro wd824 hM825; clear hM821
           have hM826 : Mem w.heap.size [] w Z [.row b381 [.int .i64 u0.Key, .int .i64 (w64 (q362.tmod 16)), .int .i64 0, .int .i64 2] 62, .row b32 [.int .i64 (((gseeS u0 u1 u2).1).Key), .int .i64 (((gseeS u0 u1 u2).1).Last), .int .i64 (((gseeS u0 u1 u2).1).Bad), .int .i64 (((gseeS u0 u1 u2).1).State)] 62, .row b6 [.int .i64 u0.Key, .int .i64 u0.Last, .int .i64 u0.Bad, .int .i64 u0.State] 62] Z wd824 := hM825; clear hM825
           refine nlH (hQ817 _ _ ?_); clear hQ817 hQ817Q
           refine ibn ?_
           refine thn ?_
           refine wp_seq ?_
           refine sqH ?_; intro hQ827Q hQ827
           refine s1 hF823 138 (.bool (q529 != (gsumS u0.Key u1))) ?_; intro a828 hF829; clear hF823
           refine nlH (hQ827 _ _ ?_); clear hQ827 hQ827Q
           refine cd hF829 (t := q529 != (gsumS u0.Key u1)) (by kernel_rfl) (fun hb830 => ?_) (fun hb830 => ?_)
           ·
            have hp831 := hp816.1 hb830; clear hp816
            refine sqH ?_; intro hQ832Q hQ832
            refine s1 hF829 139 (.pointer (some ⟨b381, 3, none⟩)) ?_; intro a833 hF834; clear hF829
            refine sr hF834 hM826 0 [.int .i64 u0.Key, .int .i64 (w64 (q362.tmod 16)), .int .i64 0, .int .i64 4] (b := b381) (off := 3) (cs := [.int .i64 u0.Key, .int .i64 (w64 (q362.tmod 16)), .int .i64 0, .int .i64 2]) (ty := 62) (u := .int .i64 4) (nog rfl _) rfl rfl (by kernel_rfl) (by kernel_rfl) (by kernel_rfl) (by kernel_rfl) (by kernel_rfl) (by kernel_rfl) (by kernel_rfl) ?_; intro wd835 hM836; clear hM826
            have hM837 : Mem w.heap.size [] w Z [.row b381 [.int .i64 u0.Key, .int .i64 (w64 (q362.tmod 16)), .int .i64 0, .int .i64 4] 62, .row b32 [.int .i64 (((gseeS u0 u1 u2).1).Key), .int .i64 (((gseeS u0 u1 u2).1).Last), .int .i64 (((gseeS u0 u1 u2).1).Bad), .int .i64 (((gseeS u0 u1 u2).1).State)] 62, .row b6 [.int .i64 u0.Key, .int .i64 u0.Last, .int .i64 u0.Bad, .int .i64 u0.State] 62] Z wd835 := hM836; clear hM836
            refine nlH (hQ832 _ _ ?_); clear hQ832 hQ832Q
            refine sqH ?_; intro hQ838Q hQ838
            refine s1 hF834 140 (.pointer (some ⟨b381, 2, none⟩)) ?_; intro a839 hF840; clear hF834
            refine l1 hF840 hM837 141 0 2 (.int .i64 0) rfl rfl ?_; intro a841 hF842; clear hF840
            refine s1 hF842 142 (.int .i64 1) ?_; intro a843 hF844; clear hF842
            refine s1 hF844 143 (.pointer (some ⟨b381, 2, none⟩)) ?_; intro a845 hF846; clear hF844
            refine sr hF846 hM837 0 [.int .i64 u0.Key, .int .i64 (w64 (q362.tmod 16)), .int .i64 1, .int .i64 4] (b := b381) (off := 2) (cs := [.int .i64 u0.Key, .int .i64 (w64 (q362.tmod 16)), .int .i64 0, .int .i64 4]) (ty := 62) (u := .int .i64 1) (nog rfl _) rfl rfl (by kernel_rfl) (by kernel_rfl) (by kernel_rfl) (by kernel_rfl) (by kernel_rfl) (by kernel_rfl) (by kernel_rfl) ?_; intro wd847 hM848; clear hM837
            have hM849 : Mem w.heap.size [] w Z [.row b381 [.int .i64 u0.Key, .int .i64 (w64 (q362.tmod 16)), .int .i64 1, .int .i64 4] 62, .row b32 [.int .i64 (((gseeS u0 u1 u2).1).Key), .int .i64 (((gseeS u0 u1 u2).1).Last), .int .i64 (((gseeS u0 u1 u2).1).Bad), .int .i64 (((gseeS u0 u1 u2).1).State)] 62, .row b6 [.int .i64 u0.Key, .int .i64 u0.Last, .int .i64 u0.Bad, .int .i64 u0.State] 62] Z wd847 := hM848; clear hM848
            refine nlH (hQ838 _ _ ?_); clear hQ838 hQ838Q
            have hF850 : Fr 155 [] [⟨7, [], .pointer (some ⟨b32, 0, none⟩)⟩, ⟨8, [], .int .i64 ((gseeS u0 u1 u2).2)⟩, ⟨11, [], .pointer (some ⟨b381, 0, none⟩)⟩] a845 := hF846.reg; clear hF846
            refine sqH ?_; intro hQ851Q hQ851
            refine s1 hF850 144 (.pointer (some ⟨b381, 2, none⟩)) ?_; intro a852 hF853; clear hF850
            refine l1 hF853 hM849 145 0 2 (.int .i64 1) rfl rfl ?_; intro a854 hF855; clear hF853
            refine s1 hF855 146 (.bool false) ?_; intro a856 hF857; clear hF855
            refine nlH (hQ851 _ _ ?_); clear hQ851 hQ851Q
            refine cdF hF857 (by kernel_rfl) ?_
            refine wp_skip ?_
            refine thn ?_
            refine sqH ?_; intro hQ858Q hQ858
            refine s1 hF857 148 (.int .i64 ((gseeS u0 u1 u2).2)) ?_; intro a859 hF860; clear hF857
            refine s1 hF860 149 (.bool (((gseeS u0 u1 u2).2) == 0)) ?_; intro a861 hF862; clear hF860
            refine s1 hF862 150 (.bool (((gseeS u0 u1 u2).2) == 0)) ?_; intro a863 hF864; clear hF862
            have hF865 := hF864.atom ((((gseeS u0 u1 u2).2) == 0) == true) (by kernel_rfl); clear hF864
            refine gd hF865 (.agg #[.int .i64 (((gseeS u0 u1 u2).1).Key), .int .i64 (((gseeS u0 u1 u2).1).Last), .int .i64 (((gseeS u0 u1 u2).1).Bad), .int .i64 (((gseeS u0 u1 u2).1).State)]) (m := 0) (cj := []) (bj := ((gseeS u0 u1 u2).2) == 0) rfl rfl (by kernel_rfl) rfl (by kernel_rfl) (by kernel_rfl) (by kernel_rfl) (fun hg => lda hF865 hM849 1 (g := [0]) (b := b32) (off := 0) (k := 4) (cs := [.int .i64 (((gseeS u0 u1 u2).1).Key), .int .i64 (((gseeS u0 u1 u2).1).Last), .int .i64 (((gseeS u0 u1 u2).1).Bad), .int .i64 (((gseeS u0 u1 u2).1).State)]) (vs := [.int .i64 (((gseeS u0 u1 u2).1).Key), .int .i64 (((gseeS u0 u1 u2).1).Last), .int .i64 (((gseeS u0 u1 u2).1).Bad), .int .i64 (((gseeS u0 u1 u2).1).State)]) (ty := 62) rfl (by kernel_rfl) (by kernel_rfl) (by kernel_rfl) (by kernel_rfl) (by kernel_rfl) hg) ?_; intro a866 hF867; clear hF865
            refine gd hF867 (.agg #[.int .i64 u0.Key, .int .i64 (w64 (q362.tmod 16)), .int .i64 1, .int .i64 4]) (m := 0) (cj := []) (bj := ((gseeS u0 u1 u2).2) == 0) rfl rfl (by kernel_rfl) rfl (by kernel_rfl) (by kernel_rfl) (by kernel_rfl) (fun hg => lda hF867 hM849 0 (g := [0]) (b := b381) (off := 0) (k := 4) (cs := [.int .i64 u0.Key, .int .i64 (w64 (q362.tmod 16)), .int .i64 1, .int .i64 4]) (vs := [.int .i64 u0.Key, .int .i64 (w64 (q362.tmod 16)), .int .i64 1, .int .i64 4]) (ty := 62) rfl (by kernel_rfl) (by kernel_rfl) (by kernel_rfl) (by kernel_rfl) (by kernel_rfl) hg) ?_; intro a868 hF869; clear hF867
            refine gd hF869 (.bool (((((gseeS u0 u1 u2).1).Key) == u0.Key) && (((((gseeS u0 u1 u2).1).Last) == (w64 (q362.tmod 16))) && (((((gseeS u0 u1 u2).1).Bad) == 1) && (((((gseeS u0 u1 u2).1).State) == 4) && true))))) (m := 0) (cj := []) (bj := ((gseeS u0 u1 u2).2) == 0) rfl rfl (by kernel_rfl) rfl (by kernel_rfl) (by kernel_rfl) (by kernel_rfl) (fun hg => eqs_run hF869 (g := [0]) (xs := #[.int .i64 (((gseeS u0 u1 u2).1).Key), .int .i64 (((gseeS u0 u1 u2).1).Last), .int .i64 (((gseeS u0 u1 u2).1).Bad), .int .i64 (((gseeS u0 u1 u2).1).State)]) (ys := #[.int .i64 u0.Key, .int .i64 (w64 (q362.tmod 16)), .int .i64 1, .int .i64 4]) (b := ((((gseeS u0 u1 u2).1).Key) == u0.Key) && (((((gseeS u0 u1 u2).1).Last) == (w64 (q362.tmod 16))) && (((((gseeS u0 u1 u2).1).Bad) == 1) && (((((gseeS u0 u1 u2).1).State) == 4) && true)))) rfl (by kernel_rfl) (by kernel_rfl) (by kernel_rfl) (by kernel_rfl) hg) ?_; intro a870 hF871; clear hF869
            refine st hF871 (.bool ((((gseeS u0 u1 u2).2) == 0) && (((((gseeS u0 u1 u2).1).Key) == u0.Key) && (((((gseeS u0 u1 u2).1).Last) == (w64 (q362.tmod 16))) && (((((gseeS u0 u1 u2).1).Bad) == 1) && (((((gseeS u0 u1 u2).1).State) == 4) && true)))))) (nog rfl _) rfl (by kernel_rfl) (pk_and hF871 (g := []) (m := 0) (b := ((gseeS u0 u1 u2).2) == 0) (v := ((((gseeS u0 u1 u2).1).Key) == u0.Key) && (((((gseeS u0 u1 u2).1).Last) == (w64 (q362.tmod 16))) && (((((gseeS u0 u1 u2).1).Bad) == 1) && (((((gseeS u0 u1 u2).1).State) == 4) && true)))) rfl (by kernel_rfl) (by kernel_rfl) (by kernel_rfl) rfl) ?_; intro a872 hF873; clear hF871
            refine s1 hF873 6 (.bool ((((gseeS u0 u1 u2).2) == 0) && (((((gseeS u0 u1 u2).1).Key) == u0.Key) && (((((gseeS u0 u1 u2).1).Last) == (w64 (q362.tmod 16))) && (((((gseeS u0 u1 u2).1).Bad) == 1) && (((((gseeS u0 u1 u2).1).State) == 4) && true)))))) ?_; intro a874 hF875; clear hF873
            refine nlH (hQ858 _ _ ?_); clear hQ858 hQ858Q
            refine wp_ret ?_
            refine rt (fn := Tryd.f9) (v := .bool ((((gseeS u0 u1 u2).2) == 0) && (((((gseeS u0 u1 u2).1).Key) == u0.Key) && (((((gseeS u0 u1 u2).1).Last) == (w64 (q362.tmod 16))) && (((((gseeS u0 u1 u2).1).Bad) == 1) && (((((gseeS u0 u1 u2).1).State) == 4) && true)))))) hF875 (re1 hF875 (fn := Tryd.f9) rfl (by kernel_rfl)) ?_
            exact ⟨(((gseeS u0 u1 u2).2) == 0) && (((((gseeS u0 u1 u2).1).Key) == u0.Key) && (((((gseeS u0 u1 u2).1).Last) == (w64 (q362.tmod 16))) && (((((gseeS u0 u1 u2).1).Bad) == 1) && (((((gseeS u0 u1 u2).1).State) == 4) && true)))), rfl, hp831, hM849.below⟩
           ·
            have hp876 := hp816.2 hb830; clear hp816
            refine wp_skip ?_
            refine thn ?_
            refine sqH ?_; intro hQ877Q hQ877
            refine s1 hF829 148 (.int .i64 ((gseeS u0 u1 u2).2)) ?_; intro a878 hF879; clear hF829
            refine s1 hF879 149 (.bool (((gseeS u0 u1 u2).2) == 0)) ?_; intro a880 hF881; clear hF879
            refine s1 hF881 150 (.bool (((gseeS u0 u1 u2).2) == 0)) ?_; intro a882 hF883; clear hF881
            have hF884 := hF883.atom ((((gseeS u0 u1 u2).2) == 0) == true) (by kernel_rfl); clear hF883
            refine gd hF884 (.agg #[.int .i64 (((gseeS u0 u1 u2).1).Key), .int .i64 (((gseeS u0 u1 u2).1).Last), .int .i64 (((gseeS u0 u1 u2).1).Bad), .int .i64 (((gseeS u0 u1 u2).1).State)]) (m := 0) (cj := []) (bj := ((gseeS u0 u1 u2).2) == 0) rfl rfl (by kernel_rfl) rfl (by kernel_rfl) (by kernel_rfl) (by kernel_rfl) (fun hg => lda hF884 hM826 1 (g := [0]) (b := b32) (off := 0) (k := 4) (cs := [.int .i64 (((gseeS u0 u1 u2).1).Key), .int .i64 (((gseeS u0 u1 u2).1).Last), .int .i64 (((gseeS u0 u1 u2).1).Bad), .int .i64 (((gseeS u0 u1 u2).1).State)]) (vs := [.int .i64 (((gseeS u0 u1 u2).1).Key), .int .i64 (((gseeS u0 u1 u2).1).Last), .int .i64 (((gseeS u0 u1 u2).1).Bad), .int .i64 (((gseeS u0 u1 u2).1).State)]) (ty := 62) rfl (by kernel_rfl) (by kernel_rfl) (by kernel_rfl) (by kernel_rfl) (by kernel_rfl) hg) ?_; intro a885 hF886; clear hF884
            refine gd hF886 (.agg #[.int .i64 u0.Key, .int .i64 (w64 (q362.tmod 16)), .int .i64 0, .int .i64 2]) (m := 0) (cj := []) (bj := ((gseeS u0 u1 u2).2) == 0) rfl rfl (by kernel_rfl) rfl (by kernel_rfl) (by kernel_rfl) (by kernel_rfl) (fun hg => lda hF886 hM826 0 (g := [0]) (b := b381) (off := 0) (k := 4) (cs := [.int .i64 u0.Key, .int .i64 (w64 (q362.tmod 16)), .int .i64 0, .int .i64 2]) (vs := [.int .i64 u0.Key, .int .i64 (w64 (q362.tmod 16)), .int .i64 0, .int .i64 2]) (ty := 62) rfl (by kernel_rfl) (by kernel_rfl) (by kernel_rfl) (by kernel_rfl) (by kernel_rfl) hg) ?_; intro a887 hF888; clear hF886
            refine gd hF888 (.bool (((((gseeS u0 u1 u2).1).Key) == u0.Key) && (((((gseeS u0 u1 u2).1).Last) == (w64 (q362.tmod 16))) && (((((gseeS u0 u1 u2).1).Bad) == 0) && (((((gseeS u0 u1 u2).1).State) == 2) && true))))) (m := 0) (cj := []) (bj := ((gseeS u0 u1 u2).2) == 0) rfl rfl (by kernel_rfl) rfl (by kernel_rfl) (by kernel_rfl) (by kernel_rfl) (fun hg => eqs_run hF888 (g := [0]) (xs := #[.int .i64 (((gseeS u0 u1 u2).1).Key), .int .i64 (((gseeS u0 u1 u2).1).Last), .int .i64 (((gseeS u0 u1 u2).1).Bad), .int .i64 (((gseeS u0 u1 u2).1).State)]) (ys := #[.int .i64 u0.Key, .int .i64 (w64 (q362.tmod 16)), .int .i64 0, .int .i64 2]) (b := ((((gseeS u0 u1 u2).1).Key) == u0.Key) && (((((gseeS u0 u1 u2).1).Last) == (w64 (q362.tmod 16))) && (((((gseeS u0 u1 u2).1).Bad) == 0) && (((((gseeS u0 u1 u2).1).State) == 2) && true)))) rfl (by kernel_rfl) (by kernel_rfl) (by kernel_rfl) (by kernel_rfl) hg) ?_; intro a889 hF890; clear hF888
            refine st hF890 (.bool ((((gseeS u0 u1 u2).2) == 0) && (((((gseeS u0 u1 u2).1).Key) == u0.Key) && (((((gseeS u0 u1 u2).1).Last) == (w64 (q362.tmod 16))) && (((((gseeS u0 u1 u2).1).Bad) == 0) && (((((gseeS u0 u1 u2).1).State) == 2) && true)))))) (nog rfl _) rfl (by kernel_rfl) (pk_and hF890 (g := []) (m := 0) (b := ((gseeS u0 u1 u2).2) == 0) (v := ((((gseeS u0 u1 u2).1).Key) == u0.Key) && (((((gseeS u0 u1 u2).1).Last) == (w64 (q362.tmod 16))) && (((((gseeS u0 u1 u2).1).Bad) == 0) && (((((gseeS u0 u1 u2).1).State) == 2) && true)))) rfl (by kernel_rfl) (by kernel_rfl) (by kernel_rfl) rfl) ?_; intro a891 hF892; clear hF890
            refine s1 hF892 6 (.bool ((((gseeS u0 u1 u2).2) == 0) && (((((gseeS u0 u1 u2).1).Key) == u0.Key) && (((((gseeS u0 u1 u2).1).Last) == (w64 (q362.tmod 16))) && (((((gseeS u0 u1 u2).1).Bad) == 0) && (((((gseeS u0 u1 u2).1).State) == 2) && true)))))) ?_; intro a893 hF894; clear hF892
            refine nlH (hQ877 _ _ ?_); clear hQ877 hQ877Q
            refine wp_ret ?_
            refine rt (fn := Tryd.f9) (v := .bool ((((gseeS u0 u1 u2).2) == 0) && (((((gseeS u0 u1 u2).1).Key) == u0.Key) && (((((gseeS u0 u1 u2).1).Last) == (w64 (q362.tmod 16))) && (((((gseeS u0 u1 u2).1).Bad) == 0) && (((((gseeS u0 u1 u2).1).State) == 2) && true)))))) hF894 (re1 hF894 (fn := Tryd.f9) rfl (by kernel_rfl)) ?_
            exact ⟨(((gseeS u0 u1 u2).2) == 0) && (((((gseeS u0 u1 u2).1).Key) == u0.Key) && (((((gseeS u0 u1 u2).1).Last) == (w64 (q362.tmod 16))) && (((((gseeS u0 u1 u2).1).Bad) == 0) && (((((gseeS u0 u1 u2).1).State) == 2) && true)))), rfl, hp876, hM826.below⟩
          ·
           have hp895 := hp805.2 hb815; clear hp805
           refine rgH ?_; intro hQ896Q hQ896
           refine s1 hF814 12 (.bool true) ?_; intro a897 hF898; clear hF814
           refine nlH (hQ896 _ _ ?_); clear hQ896 hQ896Q
           refine ibn ?_
           refine thn ?_
           refine wp_seq ?_
           refine sqH ?_; intro hQ899Q hQ899
           refine s1 hF898 138 (.bool true) ?_; intro a900 hF901; clear hF898
           refine nlH (hQ899 _ _ ?_); clear hQ899 hQ899Q
           refine cdT hF901 (by kernel_rfl) ?_
           refine sqH ?_; intro hQ902Q hQ902
           refine s1 hF901 139 (.pointer (some ⟨b381, 3, none⟩)) ?_; intro a903 hF904; clear hF901
           refine sr hF904 hM594 0 [.int .i64 u0.Key, .int .i64 (w64 (q362.tmod 16)), .int .i64 u0.Bad, .int .i64 4] (b := b381) (off := 3) (cs := [.int .i64 u0.Key, .int .i64 (w64 (q362.tmod 16)), .int .i64 u0.Bad, .int .i64 u0.State]) (ty := 62) (u := .int .i64 4) (nog rfl _) rfl rfl (by kernel_rfl) (by kernel_rfl) (by kernel_rfl) (by kernel_rfl) (by kernel_rfl) (by kernel_rfl) (by kernel_rfl) ?_; intro wd905 hM906; clear hM594
           have hM907 : Mem w.heap.size [] w Z [.row b381 [.int .i64 u0.Key, .int .i64 (w64 (q362.tmod 16)), .int .i64 u0.Bad, .int .i64 4] 62, .row b32 [.int .i64 (((gseeS u0 u1 u2).1).Key), .int .i64 (((gseeS u0 u1 u2).1).Last), .int .i64 (((gseeS u0 u1 u2).1).Bad), .int .i64 (((gseeS u0 u1 u2).1).State)] 62, .row b6 [.int .i64 u0.Key, .int .i64 u0.Last, .int .i64 u0.Bad, .int .i64 u0.State] 62] Z wd905 := hM906; clear hM906
           refine nlH (hQ902 _ _ ?_); clear hQ902 hQ902Q
           refine sqH ?_; intro hQ908Q hQ908
           refine s1 hF904 140 (.pointer (some ⟨b381, 2, none⟩)) ?_; intro a909 hF910; clear hF904
           refine l1 hF910 hM907 141 0 2 (.int .i64 u0.Bad) rfl rfl ?_; intro a911 hF912; clear hF910
           refine s1 hF912 142 (.int .i64 (w64 (u0.Bad + 1))) ?_; intro a913 hF914; clear hF912
           refine s1 hF914 143 (.pointer (some ⟨b381, 2, none⟩)) ?_; intro a915 hF916; clear hF914
           refine sr hF916 hM907 0 [.int .i64 u0.Key, .int .i64 (w64 (q362.tmod 16)), .int .i64 (w64 (u0.Bad + 1)), .int .i64 4] (b := b381) (off := 2) (cs := [.int .i64 u0.Key, .int .i64 (w64 (q362.tmod 16)), .int .i64 u0.Bad, .int .i64 4]) (ty := 62) (u := .int .i64 (w64 (u0.Bad + 1))) (nog rfl _) rfl rfl (by kernel_rfl) (by kernel_rfl) (by kernel_rfl) (by kernel_rfl) (by kernel_rfl) (by kernel_rfl) (by kernel_rfl) ?_; intro wd917 hM918; clear hM907
           have hM919 : Mem w.heap.size [] w Z [.row b381 [.int .i64 u0.Key, .int .i64 (w64 (q362.tmod 16)), .int .i64 (w64 (u0.Bad + 1)), .int .i64 4] 62, .row b32 [.int .i64 (((gseeS u0 u1 u2).1).Key), .int .i64 (((gseeS u0 u1 u2).1).Last), .int .i64 (((gseeS u0 u1 u2).1).Bad), .int .i64 (((gseeS u0 u1 u2).1).State)] 62, .row b6 [.int .i64 u0.Key, .int .i64 u0.Last, .int .i64 u0.Bad, .int .i64 u0.State] 62] Z wd917 := hM918; clear hM918
           refine nlH (hQ908 _ _ ?_); clear hQ908 hQ908Q
           have hF920 : Fr 155 [] [⟨7, [], .pointer (some ⟨b32, 0, none⟩)⟩, ⟨8, [], .int .i64 ((gseeS u0 u1 u2).2)⟩, ⟨11, [], .pointer (some ⟨b381, 0, none⟩)⟩] a915 := hF916.reg; clear hF916
           refine sqH ?_; intro hQ921Q hQ921
           refine s1 hF920 144 (.pointer (some ⟨b381, 2, none⟩)) ?_; intro a922 hF923; clear hF920
           refine l1 hF923 hM919 145 0 2 (.int .i64 (w64 (u0.Bad + 1))) rfl rfl ?_; intro a924 hF925; clear hF923
           refine s1 hF925 146 (.bool (decide ((w64 (u0.Bad + 1)) > 1000000))) ?_; intro a926 hF927; clear hF925
           refine nlH (hQ921 _ _ ?_); clear hQ921 hQ921Q
           refine cd hF927 (t := decide ((w64 (u0.Bad + 1)) > 1000000)) (by kernel_rfl) (fun hb928 => ?_) (fun hb928 => ?_)
           ·
            have hp929 := hp895.1 hb928; clear hp895
            refine rgH ?_; intro hQ930Q hQ930
            refine s1 hF927 147 (.pointer (some ⟨b381, 2, none⟩)) ?_; intro a931 hF932; clear hF927
            refine sr hF932 hM919 0 [.int .i64 u0.Key, .int .i64 (w64 (q362.tmod 16)), .int .i64 1000000, .int .i64 4] (b := b381) (off := 2) (cs := [.int .i64 u0.Key, .int .i64 (w64 (q362.tmod 16)), .int .i64 (w64 (u0.Bad + 1)), .int .i64 4]) (ty := 62) (u := .int .i64 1000000) (nog rfl _) rfl rfl (by kernel_rfl) (by kernel_rfl) (by kernel_rfl) (by kernel_rfl) (by kernel_rfl) (by kernel_rfl) (by kernel_rfl) ?_; intro wd933 hM934; clear hM919
            have hM935 : Mem w.heap.size [] w Z [.row b381 [.int .i64 u0.Key, .int .i64 (w64 (q362.tmod 16)), .int .i64 1000000, .int .i64 4] 62, .row b32 [.int .i64 (((gseeS u0 u1 u2).1).Key), .int .i64 (((gseeS u0 u1 u2).1).Last), .int .i64 (((gseeS u0 u1 u2).1).Bad), .int .i64 (((gseeS u0 u1 u2).1).State)] 62, .row b6 [.int .i64 u0.Key, .int .i64 u0.Last, .int .i64 u0.Bad, .int .i64 u0.State] 62] Z wd933 := hM934; clear hM934
            refine nlH (hQ930 _ _ ?_); clear hQ930 hQ930Q
            refine thn ?_
            refine sqH ?_; intro hQ936Q hQ936
            refine s1 hF932 148 (.int .i64 ((gseeS u0 u1 u2).2)) ?_; intro a937 hF938; clear hF932
            refine s1 hF938 149 (.bool (((gseeS u0 u1 u2).2) == 0)) ?_; intro a939 hF940; clear hF938
            refine s1 hF940 150 (.bool (((gseeS u0 u1 u2).2) == 0)) ?_; intro a941 hF942; clear hF940
            have hF943 := hF942.atom ((((gseeS u0 u1 u2).2) == 0) == true) (by kernel_rfl); clear hF942
            refine gd hF943 (.agg #[.int .i64 (((gseeS u0 u1 u2).1).Key), .int .i64 (((gseeS u0 u1 u2).1).Last), .int .i64 (((gseeS u0 u1 u2).1).Bad), .int .i64 (((gseeS u0 u1 u2).1).State)]) (m := 0) (cj := []) (bj := ((gseeS u0 u1 u2).2) == 0) rfl rfl (by kernel_rfl) rfl (by kernel_rfl) (by kernel_rfl) (by kernel_rfl) (fun hg => lda hF943 hM935 1 (g := [0]) (b := b32) (off := 0) (k := 4) (cs := [.int .i64 (((gseeS u0 u1 u2).1).Key), .int .i64 (((gseeS u0 u1 u2).1).Last), .int .i64 (((gseeS u0 u1 u2).1).Bad), .int .i64 (((gseeS u0 u1 u2).1).State)]) (vs := [.int .i64 (((gseeS u0 u1 u2).1).Key), .int .i64 (((gseeS u0 u1 u2).1).Last), .int .i64 (((gseeS u0 u1 u2).1).Bad), .int .i64 (((gseeS u0 u1 u2).1).State)]) (ty := 62) rfl (by kernel_rfl) (by kernel_rfl) (by kernel_rfl) (by kernel_rfl) (by kernel_rfl) hg) ?_; intro a944 hF945; clear hF943
            refine gd hF945 (.agg #[.int .i64 u0.Key, .int .i64 (w64 (q362.tmod 16)), .int .i64 1000000, .int .i64 4]) (m := 0) (cj := []) (bj := ((gseeS u0 u1 u2).2) == 0) rfl rfl (by kernel_rfl) rfl (by kernel_rfl) (by kernel_rfl) (by kernel_rfl) (fun hg => lda hF945 hM935 0 (g := [0]) (b := b381) (off := 0) (k := 4) (cs := [.int .i64 u0.Key, .int .i64 (w64 (q362.tmod 16)), .int .i64 1000000, .int .i64 4]) (vs := [.int .i64 u0.Key, .int .i64 (w64 (q362.tmod 16)), .int .i64 1000000, .int .i64 4]) (ty := 62) rfl (by kernel_rfl) (by kernel_rfl) (by kernel_rfl) (by kernel_rfl) (by kernel_rfl) hg) ?_; intro a946 hF947; clear hF945
            refine gd hF947 (.bool (((((gseeS u0 u1 u2).1).Key) == u0.Key) && (((((gseeS u0 u1 u2).1).Last) == (w64 (q362.tmod 16))) && (((((gseeS u0 u1 u2).1).Bad) == 1000000) && (((((gseeS u0 u1 u2).1).State) == 4) && true))))) (m := 0) (cj := []) (bj := ((gseeS u0 u1 u2).2) == 0) rfl rfl (by kernel_rfl) rfl (by kernel_rfl) (by kernel_rfl) (by kernel_rfl) (fun hg => eqs_run hF947 (g := [0]) (xs := #[.int .i64 (((gseeS u0 u1 u2).1).Key), .int .i64 (((gseeS u0 u1 u2).1).Last), .int .i64 (((gseeS u0 u1 u2).1).Bad), .int .i64 (((gseeS u0 u1 u2).1).State)]) (ys := #[.int .i64 u0.Key, .int .i64 (w64 (q362.tmod 16)), .int .i64 1000000, .int .i64 4]) (b := ((((gseeS u0 u1 u2).1).Key) == u0.Key) && (((((gseeS u0 u1 u2).1).Last) == (w64 (q362.tmod 16))) && (((((gseeS u0 u1 u2).1).Bad) == 1000000) && (((((gseeS u0 u1 u2).1).State) == 4) && true)))) rfl (by kernel_rfl) (by kernel_rfl) (by kernel_rfl) (by kernel_rfl) hg) ?_; intro a948 hF949; clear hF947
            refine st hF949 (.bool ((((gseeS u0 u1 u2).2) == 0) && (((((gseeS u0 u1 u2).1).Key) == u0.Key) && (((((gseeS u0 u1 u2).1).Last) == (w64 (q362.tmod 16))) && (((((gseeS u0 u1 u2).1).Bad) == 1000000) && (((((gseeS u0 u1 u2).1).State) == 4) && true)))))) (nog rfl _) rfl (by kernel_rfl) (pk_and hF949 (g := []) (m := 0) (b := ((gseeS u0 u1 u2).2) == 0) (v := ((((gseeS u0 u1 u2).1).Key) == u0.Key) && (((((gseeS u0 u1 u2).1).Last) == (w64 (q362.tmod 16))) && (((((gseeS u0 u1 u2).1).Bad) == 1000000) && (((((gseeS u0 u1 u2).1).State) == 4) && true)))) rfl (by kernel_rfl) (by kernel_rfl) (by kernel_rfl) rfl) ?_; intro a950 hF951; clear hF949
            refine s1 hF951 6 (.bool ((((gseeS u0 u1 u2).2) == 0) && (((((gseeS u0 u1 u2).1).Key) == u0.Key) && (((((gseeS u0 u1 u2).1).Last) == (w64 (q362.tmod 16))) && (((((gseeS u0 u1 u2).1).Bad) == 1000000) && (((((gseeS u0 u1 u2).1).State) == 4) && true)))))) ?_; intro a952 hF953; clear hF951
            refine nlH (hQ936 _ _ ?_); clear hQ936 hQ936Q
            refine wp_ret ?_
            refine rt (fn := Tryd.f9) (v := .bool ((((gseeS u0 u1 u2).2) == 0) && (((((gseeS u0 u1 u2).1).Key) == u0.Key) && (((((gseeS u0 u1 u2).1).Last) == (w64 (q362.tmod 16))) && (((((gseeS u0 u1 u2).1).Bad) == 1000000) && (((((gseeS u0 u1 u2).1).State) == 4) && true)))))) hF953 (re1 hF953 (fn := Tryd.f9) rfl (by kernel_rfl)) ?_
            exact ⟨(((gseeS u0 u1 u2).2) == 0) && (((((gseeS u0 u1 u2).1).Key) == u0.Key) && (((((gseeS u0 u1 u2).1).Last) == (w64 (q362.tmod 16))) && (((((gseeS u0 u1 u2).1).Bad) == 1000000) && (((((gseeS u0 u1 u2).1).State) == 4) && true)))), rfl, hp929, hM935.below⟩
           ·
            have hp954 := hp895.2 hb928; clear hp895
            refine wp_skip ?_
            refine thn ?_
            refine sqH ?_; intro hQ955Q hQ955
            refine s1 hF927 148 (.int .i64 ((gseeS u0 u1 u2).2)) ?_; intro a956 hF957; clear hF927
            refine s1 hF957 149 (.bool (((gseeS u0 u1 u2).2) == 0)) ?_; intro a958 hF959; clear hF957
            refine s1 hF959 150 (.bool (((gseeS u0 u1 u2).2) == 0)) ?_; intro a960 hF961; clear hF959
            have hF962 := hF961.atom ((((gseeS u0 u1 u2).2) == 0) == true) (by kernel_rfl); clear hF961
            refine gd hF962 (.agg #[.int .i64 (((gseeS u0 u1 u2).1).Key), .int .i64 (((gseeS u0 u1 u2).1).Last), .int .i64 (((gseeS u0 u1 u2).1).Bad), .int .i64 (((gseeS u0 u1 u2).1).State)]) (m := 0) (cj := []) (bj := ((gseeS u0 u1 u2).2) == 0) rfl rfl (by kernel_rfl) rfl (by kernel_rfl) (by kernel_rfl) (by kernel_rfl) (fun hg => lda hF962 hM919 1 (g := [0]) (b := b32) (off := 0) (k := 4) (cs := [.int .i64 (((gseeS u0 u1 u2).1).Key), .int .i64 (((gseeS u0 u1 u2).1).Last), .int .i64 (((gseeS u0 u1 u2).1).Bad), .int .i64 (((gseeS u0 u1 u2).1).State)]) (vs := [.int .i64 (((gseeS u0 u1 u2).1).Key), .int .i64 (((gseeS u0 u1 u2).1).Last), .int .i64 (((gseeS u0 u1 u2).1).Bad), .int .i64 (((gseeS u0 u1 u2).1).State)]) (ty := 62) rfl (by kernel_rfl) (by kernel_rfl) (by kernel_rfl) (by kernel_rfl) (by kernel_rfl) hg) ?_; intro a963 hF964; clear hF962
            refine gd hF964 (.agg #[.int .i64 u0.Key, .int .i64 (w64 (q362.tmod 16)), .int .i64 (w64 (u0.Bad + 1)), .int .i64 4]) (m := 0) (cj := []) (bj := ((gseeS u0 u1 u2).2) == 0) rfl rfl (by kernel_rfl) rfl (by kernel_rfl) (by kernel_rfl) (by kernel_rfl) (fun hg => lda hF964 hM919 0 (g := [0]) (b := b381) (off := 0) (k := 4) (cs := [.int .i64 u0.Key, .int .i64 (w64 (q362.tmod 16)), .int .i64 (w64 (u0.Bad + 1)), .int .i64 4]) (vs := [.int .i64 u0.Key, .int .i64 (w64 (q362.tmod 16)), .int .i64 (w64 (u0.Bad + 1)), .int .i64 4]) (ty := 62) rfl (by kernel_rfl) (by kernel_rfl) (by kernel_rfl) (by kernel_rfl) (by kernel_rfl) hg) ?_; intro a965 hF966; clear hF964
            refine gd hF966 (.bool (((((gseeS u0 u1 u2).1).Key) == u0.Key) && (((((gseeS u0 u1 u2).1).Last) == (w64 (q362.tmod 16))) && (((((gseeS u0 u1 u2).1).Bad) == (w64 (u0.Bad + 1))) && (((((gseeS u0 u1 u2).1).State) == 4) && true))))) (m := 0) (cj := []) (bj := ((gseeS u0 u1 u2).2) == 0) rfl rfl (by kernel_rfl) rfl (by kernel_rfl) (by kernel_rfl) (by kernel_rfl) (fun hg => eqs_run hF966 (g := [0]) (xs := #[.int .i64 (((gseeS u0 u1 u2).1).Key), .int .i64 (((gseeS u0 u1 u2).1).Last), .int .i64 (((gseeS u0 u1 u2).1).Bad), .int .i64 (((gseeS u0 u1 u2).1).State)]) (ys := #[.int .i64 u0.Key, .int .i64 (w64 (q362.tmod 16)), .int .i64 (w64 (u0.Bad + 1)), .int .i64 4]) (b := ((((gseeS u0 u1 u2).1).Key) == u0.Key) && (((((gseeS u0 u1 u2).1).Last) == (w64 (q362.tmod 16))) && (((((gseeS u0 u1 u2).1).Bad) == (w64 (u0.Bad + 1))) && (((((gseeS u0 u1 u2).1).State) == 4) && true)))) rfl (by kernel_rfl) (by kernel_rfl) (by kernel_rfl) (by kernel_rfl) hg) ?_; intro a967 hF968; clear hF966
            refine st hF968 (.bool ((((gseeS u0 u1 u2).2) == 0) && (((((gseeS u0 u1 u2).1).Key) == u0.Key) && (((((gseeS u0 u1 u2).1).Last) == (w64 (q362.tmod 16))) && (((((gseeS u0 u1 u2).1).Bad) == (w64 (u0.Bad + 1))) && (((((gseeS u0 u1 u2).1).State) == 4) && true)))))) (nog rfl _) rfl (by kernel_rfl) (pk_and hF968 (g := []) (m := 0) (b := ((gseeS u0 u1 u2).2) == 0) (v := ((((gseeS u0 u1 u2).1).Key) == u0.Key) && (((((gseeS u0 u1 u2).1).Last) == (w64 (q362.tmod 16))) && (((((gseeS u0 u1 u2).1).Bad) == (w64 (u0.Bad + 1))) && (((((gseeS u0 u1 u2).1).State) == 4) && true)))) rfl (by kernel_rfl) (by kernel_rfl) (by kernel_rfl) rfl) ?_; intro a969 hF970; clear hF968
            refine s1 hF970 6 (.bool ((((gseeS u0 u1 u2).2) == 0) && (((((gseeS u0 u1 u2).1).Key) == u0.Key) && (((((gseeS u0 u1 u2).1).Last) == (w64 (q362.tmod 16))) && (((((gseeS u0 u1 u2).1).Bad) == (w64 (u0.Bad + 1))) && (((((gseeS u0 u1 u2).1).State) == 4) && true)))))) ?_; intro a971 hF972; clear hF970
            refine nlH (hQ955 _ _ ?_); clear hQ955 hQ955Q
            refine wp_ret ?_
            refine rt (fn := Tryd.f9) (v := .bool ((((gseeS u0 u1 u2).2) == 0) && (((((gseeS u0 u1 u2).1).Key) == u0.Key) && (((((gseeS u0 u1 u2).1).Last) == (w64 (q362.tmod 16))) && (((((gseeS u0 u1 u2).1).Bad) == (w64 (u0.Bad + 1))) && (((((gseeS u0 u1 u2).1).State) == 4) && true)))))) hF972 (re1 hF972 (fn := Tryd.f9) rfl (by kernel_rfl)) ?_
            exact ⟨(((gseeS u0 u1 u2).2) == 0) && (((((gseeS u0 u1 u2).1).Key) == u0.Key) && (((((gseeS u0 u1 u2).1).Last) == (w64 (q362.tmod 16))) && (((((gseeS u0 u1 u2).1).Bad) == (w64 (u0.Bad + 1))) && (((((gseeS u0 u1 u2).1).State) == 4) && true)))), rfl, hp954, hM919.below⟩
       ·
        have hp973 := hp550.2 hb569; clear hp550
        refine wp_skip ?_
        refine thn ?_
        refine wp_seq ?_
        have hF974 : Fr 155 [] [⟨7, [], .pointer (some ⟨b32, 0, none⟩)⟩, ⟨8, [], .int .i64 ((gseeS u0 u1 u2).2)⟩, ⟨11, [], .pointer (some ⟨b381, 0, none⟩)⟩, ⟨12, [], .bool (q529 != (gsumS u0.Key u1))⟩] a567 := hF568.reg; clear hF568
        refine sqH ?_; intro hQ975Q hQ975
        refine s1 hF974 138 (.bool (q529 != (gsumS u0.Key u1))) ?_; intro a976 hF977; clear hF974
        refine nlH (hQ975 _ _ ?_); clear hQ975 hQ975Q
        refine cd hF977 (t := q529 != (gsumS u0.Key u1)) (by kernel_rfl) (fun hb978 => ?_) (fun hb978 => ?_)
        ·
         have hp979 := hp973.1 hb978; clear hp973
         refine sqH ?_; intro hQ980Q hQ980
         refine s1 hF977 139 (.pointer (some ⟨b381, 3, none⟩)) ?_; intro a981 hF982; clear hF977
         refine sr hF982 hM563 0 [.int .i64 u0.Key, .int .i64 u0.Last, .int .i64 u0.Bad, .int .i64 4] (b := b381) (off := 3) (cs := [.int .i64 u0.Key, .int .i64 u0.Last, .int .i64 u0.Bad, .int .i64 u0.State]) (ty := 62) (u := .int .i64 4) (nog rfl _) rfl rfl (by kernel_rfl) (by kernel_rfl) (by kernel_rfl) (by kernel_rfl) (by kernel_rfl) (by kernel_rfl) (by kernel_rfl) ?_; intro wd983 hM984; clear hM563
         have hM985 : Mem w.heap.size [] w Z [.row b381 [.int .i64 u0.Key, .int .i64 u0.Last, .int .i64 u0.Bad, .int .i64 4] 62, .row b32 [.int .i64 (((gseeS u0 u1 u2).1).Key), .int .i64 (((gseeS u0 u1 u2).1).Last), .int .i64 (((gseeS u0 u1 u2).1).Bad), .int .i64 (((gseeS u0 u1 u2).1).State)] 62, .row b6 [.int .i64 u0.Key, .int .i64 u0.Last, .int .i64 u0.Bad, .int .i64 u0.State] 62] Z wd983 := hM984; clear hM984
         refine nlH (hQ980 _ _ ?_); clear hQ980 hQ980Q
         refine sqH ?_; intro hQ986Q hQ986
         refine s1 hF982 140 (.pointer (some ⟨b381, 2, none⟩)) ?_; intro a987 hF988; clear hF982
         refine l1 hF988 hM985 141 0 2 (.int .i64 u0.Bad) rfl rfl ?_; intro a989 hF990; clear hF988
         refine s1 hF990 142 (.int .i64 (w64 (u0.Bad + 1))) ?_; intro a991 hF992; clear hF990
         refine s1 hF992 143 (.pointer (some ⟨b381, 2, none⟩)) ?_; intro a993 hF994; clear hF992
         refine sr hF994 hM985 0 [.int .i64 u0.Key, .int .i64 u0.Last, .int .i64 (w64 (u0.Bad + 1)), .int .i64 4] (b := b381) (off := 2) (cs := [.int .i64 u0.Key, .int .i64 u0.Last, .int .i64 u0.Bad, .int .i64 4]) (ty := 62) (u := .int .i64 (w64 (u0.Bad + 1))) (nog rfl _) rfl rfl (by kernel_rfl) (by kernel_rfl) (by kernel_rfl) (by kernel_rfl) (by kernel_rfl) (by kernel_rfl) (by kernel_rfl) ?_; intro wd995 hM996; clear hM985
         have hM997 : Mem w.heap.size [] w Z [.row b381 [.int .i64 u0.Key, .int .i64 u0.Last, .int .i64 (w64 (u0.Bad + 1)), .int .i64 4] 62, .row b32 [.int .i64 (((gseeS u0 u1 u2).1).Key), .int .i64 (((gseeS u0 u1 u2).1).Last), .int .i64 (((gseeS u0 u1 u2).1).Bad), .int .i64 (((gseeS u0 u1 u2).1).State)] 62, .row b6 [.int .i64 u0.Key, .int .i64 u0.Last, .int .i64 u0.Bad, .int .i64 u0.State] 62] Z wd995 := hM996; clear hM996
         refine nlH (hQ986 _ _ ?_); clear hQ986 hQ986Q
         refine sqH ?_; intro hQ998Q hQ998
         refine s1 hF994 144 (.pointer (some ⟨b381, 2, none⟩)) ?_; intro a999 hF1000; clear hF994
         refine l1 hF1000 hM997 145 0 2 (.int .i64 (w64 (u0.Bad + 1))) rfl rfl ?_; intro a1001 hF1002; clear hF1000
         refine s1 hF1002 146 (.bool (decide ((w64 (u0.Bad + 1)) > 1000000))) ?_; intro a1003 hF1004; clear hF1002
         refine nlH (hQ998 _ _ ?_); clear hQ998 hQ998Q
         refine cd hF1004 (t := decide ((w64 (u0.Bad + 1)) > 1000000)) (by kernel_rfl) (fun hb1005 => ?_) (fun hb1005 => ?_)
         ·
          have hp1006 := hp979.1 hb1005; clear hp979
          refine rgH ?_; intro hQ1007Q hQ1007
          refine s1 hF1004 147 (.pointer (some ⟨b381, 2, none⟩)) ?_; intro a1008 hF1009; clear hF1004
          refine sr hF1009 hM997 0 [.int .i64 u0.Key, .int .i64 u0.Last, .int .i64 1000000, .int .i64 4] (b := b381) (off := 2) (cs := [.int .i64 u0.Key, .int .i64 u0.Last, .int .i64 (w64 (u0.Bad + 1)), .int .i64 4]) (ty := 62) (u := .int .i64 1000000) (nog rfl _) rfl rfl (by kernel_rfl) (by kernel_rfl) (by kernel_rfl) (by kernel_rfl) (by kernel_rfl) (by kernel_rfl) (by kernel_rfl) ?_; intro wd1010 hM1011; clear hM997
          have hM1012 : Mem w.heap.size [] w Z [.row b381 [.int .i64 u0.Key, .int .i64 u0.Last, .int .i64 1000000, .int .i64 4] 62, .row b32 [.int .i64 (((gseeS u0 u1 u2).1).Key), .int .i64 (((gseeS u0 u1 u2).1).Last), .int .i64 (((gseeS u0 u1 u2).1).Bad), .int .i64 (((gseeS u0 u1 u2).1).State)] 62, .row b6 [.int .i64 u0.Key, .int .i64 u0.Last, .int .i64 u0.Bad, .int .i64 u0.State] 62] Z wd1010 := hM1011; clear hM1011
          refine nlH (hQ1007 _ _ ?_); clear hQ1007 hQ1007Q
          refine thn ?_
          refine sqH ?_; intro hQ1013Q hQ1013
          refine s1 hF1009 148 (.int .i64 ((gseeS u0 u1 u2).2)) ?_; intro a1014 hF1015; clear hF1009
          refine s1 hF1015 149 (.bool (((gseeS u0 u1 u2).2) == 0)) ?_; intro a1016 hF1017; clear hF1015
          refine s1 hF1017 150 (.bool (((gseeS u0 u1 u2).2) == 0)) ?_; intro a1018 hF1019; clear hF1017
          have hF1020 := hF1019.atom ((((gseeS u0 u1 u2).2) == 0) == true) (by kernel_rfl); clear hF1019
          refine gd hF1020 (.agg #[.int .i64 (((gseeS u0 u1 u2).1).Key), .int .i64 (((gseeS u0 u1 u2).1).Last), .int .i64 (((gseeS u0 u1 u2).1).Bad), .int .i64 (((gseeS u0 u1 u2).1).State)]) (m := 0) (cj := []) (bj := ((gseeS u0 u1 u2).2) == 0) rfl rfl (by kernel_rfl) rfl (by kernel_rfl) (by kernel_rfl) (by kernel_rfl) (fun hg => lda hF1020 hM1012 1 (g := [0]) (b := b32) (off := 0) (k := 4) (cs := [.int .i64 (((gseeS u0 u1 u2).1).Key), .int .i64 (((gseeS u0 u1 u2).1).Last), .int .i64 (((gseeS u0 u1 u2).1).Bad), .int .i64 (((gseeS u0 u1 u2).1).State)]) (vs := [.int .i64 (((gseeS u0 u1 u2).1).Key), .int .i64 (((gseeS u0 u1 u2).1).Last), .int .i64 (((gseeS u0 u1 u2).1).Bad), .int .i64 (((gseeS u0 u1 u2).1).State)]) (ty := 62) rfl (by kernel_rfl) (by kernel_rfl) (by kernel_rfl) (by kernel_rfl) (by kernel_rfl) hg) ?_; intro a1021 hF1022; clear hF1020
          refine gd hF1022 (.agg #[.int .i64 u0.Key, .int .i64 u0.Last, .int .i64 1000000, .int .i64 4]) (m := 0) (cj := []) (bj := ((gseeS u0 u1 u2).2) == 0) rfl rfl (by kernel_rfl) rfl (by kernel_rfl) (by kernel_rfl) (by kernel_rfl) (fun hg => lda hF1022 hM1012 0 (g := [0]) (b := b381) (off := 0) (k := 4) (cs := [.int .i64 u0.Key, .int .i64 u0.Last, .int .i64 1000000, .int .i64 4]) (vs := [.int .i64 u0.Key, .int .i64 u0.Last, .int .i64 1000000, .int .i64 4]) (ty := 62) rfl (by kernel_rfl) (by kernel_rfl) (by kernel_rfl) (by kernel_rfl) (by kernel_rfl) hg) ?_; intro a1023 hF1024; clear hF1022
          refine gd hF1024 (.bool (((((gseeS u0 u1 u2).1).Key) == u0.Key) && (((((gseeS u0 u1 u2).1).Last) == u0.Last) && (((((gseeS u0 u1 u2).1).Bad) == 1000000) && (((((gseeS u0 u1 u2).1).State) == 4) && true))))) (m := 0) (cj := []) (bj := ((gseeS u0 u1 u2).2) == 0) rfl rfl (by kernel_rfl) rfl (by kernel_rfl) (by kernel_rfl) (by kernel_rfl) (fun hg => eqs_run hF1024 (g := [0]) (xs := #[.int .i64 (((gseeS u0 u1 u2).1).Key), .int .i64 (((gseeS u0 u1 u2).1).Last), .int .i64 (((gseeS u0 u1 u2).1).Bad), .int .i64 (((gseeS u0 u1 u2).1).State)]) (ys := #[.int .i64 u0.Key, .int .i64 u0.Last, .int .i64 1000000, .int .i64 4]) (b := ((((gseeS u0 u1 u2).1).Key) == u0.Key) && (((((gseeS u0 u1 u2).1).Last) == u0.Last) && (((((gseeS u0 u1 u2).1).Bad) == 1000000) && (((((gseeS u0 u1 u2).1).State) == 4) && true)))) rfl (by kernel_rfl) (by kernel_rfl) (by kernel_rfl) (by kernel_rfl) hg) ?_; intro a1025 hF1026; clear hF1024
          refine st hF1026 (.bool ((((gseeS u0 u1 u2).2) == 0) && (((((gseeS u0 u1 u2).1).Key) == u0.Key) && (((((gseeS u0 u1 u2).1).Last) == u0.Last) && (((((gseeS u0 u1 u2).1).Bad) == 1000000) && (((((gseeS u0 u1 u2).1).State) == 4) && true)))))) (nog rfl _) rfl (by kernel_rfl) (pk_and hF1026 (g := []) (m := 0) (b := ((gseeS u0 u1 u2).2) == 0) (v := ((((gseeS u0 u1 u2).1).Key) == u0.Key) && (((((gseeS u0 u1 u2).1).Last) == u0.Last) && (((((gseeS u0 u1 u2).1).Bad) == 1000000) && (((((gseeS u0 u1 u2).1).State) == 4) && true)))) rfl (by kernel_rfl) (by kernel_rfl) (by kernel_rfl) rfl) ?_; intro a1027 hF1028; clear hF1026
          refine s1 hF1028 6 (.bool ((((gseeS u0 u1 u2).2) == 0) && (((((gseeS u0 u1 u2).1).Key) == u0.Key) && (((((gseeS u0 u1 u2).1).Last) == u0.Last) && (((((gseeS u0 u1 u2).1).Bad) == 1000000) && (((((gseeS u0 u1 u2).1).State) == 4) && true)))))) ?_; intro a1029 hF1030; clear hF1028
          refine nlH (hQ1013 _ _ ?_); clear hQ1013 hQ1013Q
          refine wp_ret ?_
          refine rt (fn := Tryd.f9) (v := .bool ((((gseeS u0 u1 u2).2) == 0) && (((((gseeS u0 u1 u2).1).Key) == u0.Key) && (((((gseeS u0 u1 u2).1).Last) == u0.Last) && (((((gseeS u0 u1 u2).1).Bad) == 1000000) && (((((gseeS u0 u1 u2).1).State) == 4) && true)))))) hF1030 (re1 hF1030 (fn := Tryd.f9) rfl (by kernel_rfl)) ?_
          exact ⟨(((gseeS u0 u1 u2).2) == 0) && (((((gseeS u0 u1 u2).1).Key) == u0.Key) && (((((gseeS u0 u1 u2).1).Last) == u0.Last) && (((((gseeS u0 u1 u2).1).Bad) == 1000000) && (((((gseeS u0 u1 u2).1).State) == 4) && true)))), rfl, hp1006, hM1012.below⟩
         ·
          have hp1031 := hp979.2 hb1005; clear hp979
          refine wp_skip ?_
          refine thn ?_
          refine sqH ?_; intro hQ1032Q hQ1032
          refine s1 hF1004 148 (.int .i64 ((gseeS u0 u1 u2).2)) ?_; intro a1033 hF1034; clear hF1004
          refine s1 hF1034 149 (.bool (((gseeS u0 u1 u2).2) == 0)) ?_; intro a1035 hF1036; clear hF1034
          refine s1 hF1036 150 (.bool (((gseeS u0 u1 u2).2) == 0)) ?_; intro a1037 hF1038; clear hF1036
          have hF1039 := hF1038.atom ((((gseeS u0 u1 u2).2) == 0) == true) (by kernel_rfl); clear hF1038
          refine gd hF1039 (.agg #[.int .i64 (((gseeS u0 u1 u2).1).Key), .int .i64 (((gseeS u0 u1 u2).1).Last), .int .i64 (((gseeS u0 u1 u2).1).Bad), .int .i64 (((gseeS u0 u1 u2).1).State)]) (m := 0) (cj := []) (bj := ((gseeS u0 u1 u2).2) == 0) rfl rfl (by kernel_rfl) rfl (by kernel_rfl) (by kernel_rfl) (by kernel_rfl) (fun hg => lda hF1039 hM997 1 (g := [0]) (b := b32) (off := 0) (k := 4) (cs := [.int .i64 (((gseeS u0 u1 u2).1).Key), .int .i64 (((gseeS u0 u1 u2).1).Last), .int .i64 (((gseeS u0 u1 u2).1).Bad), .int .i64 (((gseeS u0 u1 u2).1).State)]) (vs := [.int .i64 (((gseeS u0 u1 u2).1).Key), .int .i64 (((gseeS u0 u1 u2).1).Last), .int .i64 (((gseeS u0 u1 u2).1).Bad), .int .i64 (((gseeS u0 u1 u2).1).State)]) (ty := 62) rfl (by kernel_rfl) (by kernel_rfl) (by kernel_rfl) (by kernel_rfl) (by kernel_rfl) hg) ?_; intro a1040 hF1041; clear hF1039
          refine gd hF1041 (.agg #[.int .i64 u0.Key, .int .i64 u0.Last, .int .i64 (w64 (u0.Bad + 1)), .int .i64 4]) (m := 0) (cj := []) (bj := ((gseeS u0 u1 u2).2) == 0) rfl rfl (by kernel_rfl) rfl (by kernel_rfl) (by kernel_rfl) (by kernel_rfl) (fun hg => lda hF1041 hM997 0 (g := [0]) (b := b381) (off := 0) (k := 4) (cs := [.int .i64 u0.Key, .int .i64 u0.Last, .int .i64 (w64 (u0.Bad + 1)), .int .i64 4]) (vs := [.int .i64 u0.Key, .int .i64 u0.Last, .int .i64 (w64 (u0.Bad + 1)), .int .i64 4]) (ty := 62) rfl (by kernel_rfl) (by kernel_rfl) (by kernel_rfl) (by kernel_rfl) (by kernel_rfl) hg) ?_; intro a1042 hF1043; clear hF1041
          refine gd hF1043 (.bool (((((gseeS u0 u1 u2).1).Key) == u0.Key) && (((((gseeS u0 u1 u2).1).Last) == u0.Last) && (((((gseeS u0 u1 u2).1).Bad) == (w64 (u0.Bad + 1))) && (((((gseeS u0 u1 u2).1).State) == 4) && true))))) (m := 0) (cj := []) (bj := ((gseeS u0 u1 u2).2) == 0) rfl rfl (by kernel_rfl) rfl (by kernel_rfl) (by kernel_rfl) (by kernel_rfl) (fun hg => eqs_run hF1043 (g := [0]) (xs := #[.int .i64 (((gseeS u0 u1 u2).1).Key), .int .i64 (((gseeS u0 u1 u2).1).Last), .int .i64 (((gseeS u0 u1 u2).1).Bad), .int .i64 (((gseeS u0 u1 u2).1).State)]) (ys := #[.int .i64 u0.Key, .int .i64 u0.Last, .int .i64 (w64 (u0.Bad + 1)), .int .i64 4]) (b := ((((gseeS u0 u1 u2).1).Key) == u0.Key) && (((((gseeS u0 u1 u2).1).Last) == u0.Last) && (((((gseeS u0 u1 u2).1).Bad) == (w64 (u0.Bad + 1))) && (((((gseeS u0 u1 u2).1).State) == 4) && true)))) rfl (by kernel_rfl) (by kernel_rfl) (by kernel_rfl) (by kernel_rfl) hg) ?_; intro a1044 hF1045; clear hF1043
          refine st hF1045 (.bool ((((gseeS u0 u1 u2).2) == 0) && (((((gseeS u0 u1 u2).1).Key) == u0.Key) && (((((gseeS u0 u1 u2).1).Last) == u0.Last) && (((((gseeS u0 u1 u2).1).Bad) == (w64 (u0.Bad + 1))) && (((((gseeS u0 u1 u2).1).State) == 4) && true)))))) (nog rfl _) rfl (by kernel_rfl) (pk_and hF1045 (g := []) (m := 0) (b := ((gseeS u0 u1 u2).2) == 0) (v := ((((gseeS u0 u1 u2).1).Key) == u0.Key) && (((((gseeS u0 u1 u2).1).Last) == u0.Last) && (((((gseeS u0 u1 u2).1).Bad) == (w64 (u0.Bad + 1))) && (((((gseeS u0 u1 u2).1).State) == 4) && true)))) rfl (by kernel_rfl) (by kernel_rfl) (by kernel_rfl) rfl) ?_; intro a1046 hF1047; clear hF1045
          refine s1 hF1047 6 (.bool ((((gseeS u0 u1 u2).2) == 0) && (((((gseeS u0 u1 u2).1).Key) == u0.Key) && (((((gseeS u0 u1 u2).1).Last) == u0.Last) && (((((gseeS u0 u1 u2).1).Bad) == (w64 (u0.Bad + 1))) && (((((gseeS u0 u1 u2).1).State) == 4) && true)))))) ?_; intro a1048 hF1049; clear hF1047
          refine nlH (hQ1032 _ _ ?_); clear hQ1032 hQ1032Q
          refine wp_ret ?_
          refine rt (fn := Tryd.f9) (v := .bool ((((gseeS u0 u1 u2).2) == 0) && (((((gseeS u0 u1 u2).1).Key) == u0.Key) && (((((gseeS u0 u1 u2).1).Last) == u0.Last) && (((((gseeS u0 u1 u2).1).Bad) == (w64 (u0.Bad + 1))) && (((((gseeS u0 u1 u2).1).State) == 4) && true)))))) hF1049 (re1 hF1049 (fn := Tryd.f9) rfl (by kernel_rfl)) ?_
          exact ⟨(((gseeS u0 u1 u2).2) == 0) && (((((gseeS u0 u1 u2).1).Key) == u0.Key) && (((((gseeS u0 u1 u2).1).Last) == u0.Last) && (((((gseeS u0 u1 u2).1).Bad) == (w64 (u0.Bad + 1))) && (((((gseeS u0 u1 u2).1).State) == 4) && true)))), rfl, hp1031, hM997.below⟩
        ·
         have hp1050 := hp973.2 hb978; clear hp973
         refine wp_skip ?_
         refine thn ?_
         refine sqH ?_; intro hQ1051Q hQ1051
         refine s1 hF977 148 (.int .i64 ((gseeS u0 u1 u2).2)) ?_; intro a1052 hF1053; clear hF977
         refine s1 hF1053 149 (.bool (((gseeS u0 u1 u2).2) == 0)) ?_; intro a1054 hF1055; clear hF1053
         refine s1 hF1055 150 (.bool (((gseeS u0 u1 u2).2) == 0)) ?_; intro a1056 hF1057; clear hF1055
         have hF1058 := hF1057.atom ((((gseeS u0 u1 u2).2) == 0) == true) (by kernel_rfl); clear hF1057
         refine gd hF1058 (.agg #[.int .i64 (((gseeS u0 u1 u2).1).Key), .int .i64 (((gseeS u0 u1 u2).1).Last), .int .i64 (((gseeS u0 u1 u2).1).Bad), .int .i64 (((gseeS u0 u1 u2).1).State)]) (m := 0) (cj := []) (bj := ((gseeS u0 u1 u2).2) == 0) rfl rfl (by kernel_rfl) rfl (by kernel_rfl) (by kernel_rfl) (by kernel_rfl) (fun hg => lda hF1058 hM563 1 (g := [0]) (b := b32) (off := 0) (k := 4) (cs := [.int .i64 (((gseeS u0 u1 u2).1).Key), .int .i64 (((gseeS u0 u1 u2).1).Last), .int .i64 (((gseeS u0 u1 u2).1).Bad), .int .i64 (((gseeS u0 u1 u2).1).State)]) (vs := [.int .i64 (((gseeS u0 u1 u2).1).Key), .int .i64 (((gseeS u0 u1 u2).1).Last), .int .i64 (((gseeS u0 u1 u2).1).Bad), .int .i64 (((gseeS u0 u1 u2).1).State)]) (ty := 62) rfl (by kernel_rfl) (by kernel_rfl) (by kernel_rfl) (by kernel_rfl) (by kernel_rfl) hg) ?_; intro a1059 hF1060; clear hF1058
         refine gd hF1060 (.agg #[.int .i64 u0.Key, .int .i64 u0.Last, .int .i64 u0.Bad, .int .i64 u0.State]) (m := 0) (cj := []) (bj := ((gseeS u0 u1 u2).2) == 0) rfl rfl (by kernel_rfl) rfl (by kernel_rfl) (by kernel_rfl) (by kernel_rfl) (fun hg => lda hF1060 hM563 0 (g := [0]) (b := b381) (off := 0) (k := 4) (cs := [.int .i64 u0.Key, .int .i64 u0.Last, .int .i64 u0.Bad, .int .i64 u0.State]) (vs := [.int .i64 u0.Key, .int .i64 u0.Last, .int .i64 u0.Bad, .int .i64 u0.State]) (ty := 62) rfl (by kernel_rfl) (by kernel_rfl) (by kernel_rfl) (by kernel_rfl) (by kernel_rfl) hg) ?_; intro a1061 hF1062; clear hF1060
         refine gd hF1062 (.bool (((((gseeS u0 u1 u2).1).Key) == u0.Key) && (((((gseeS u0 u1 u2).1).Last) == u0.Last) && (((((gseeS u0 u1 u2).1).Bad) == u0.Bad) && (((((gseeS u0 u1 u2).1).State) == u0.State) && true))))) (m := 0) (cj := []) (bj := ((gseeS u0 u1 u2).2) == 0) rfl rfl (by kernel_rfl) rfl (by kernel_rfl) (by kernel_rfl) (by kernel_rfl) (fun hg => eqs_run hF1062 (g := [0]) (xs := #[.int .i64 (((gseeS u0 u1 u2).1).Key), .int .i64 (((gseeS u0 u1 u2).1).Last), .int .i64 (((gseeS u0 u1 u2).1).Bad), .int .i64 (((gseeS u0 u1 u2).1).State)]) (ys := #[.int .i64 u0.Key, .int .i64 u0.Last, .int .i64 u0.Bad, .int .i64 u0.State]) (b := ((((gseeS u0 u1 u2).1).Key) == u0.Key) && (((((gseeS u0 u1 u2).1).Last) == u0.Last) && (((((gseeS u0 u1 u2).1).Bad) == u0.Bad) && (((((gseeS u0 u1 u2).1).State) == u0.State) && true)))) rfl (by kernel_rfl) (by kernel_rfl) (by kernel_rfl) (by kernel_rfl) hg) ?_; intro a1063 hF1064; clear hF1062
         refine st hF1064 (.bool ((((gseeS u0 u1 u2).2) == 0) && (((((gseeS u0 u1 u2).1).Key) == u0.Key) && (((((gseeS u0 u1 u2).1).Last) == u0.Last) && (((((gseeS u0 u1 u2).1).Bad) == u0.Bad) && (((((gseeS u0 u1 u2).1).State) == u0.State) && true)))))) (nog rfl _) rfl (by kernel_rfl) (pk_and hF1064 (g := []) (m := 0) (b := ((gseeS u0 u1 u2).2) == 0) (v := ((((gseeS u0 u1 u2).1).Key) == u0.Key) && (((((gseeS u0 u1 u2).1).Last) == u0.Last) && (((((gseeS u0 u1 u2).1).Bad) == u0.Bad) && (((((gseeS u0 u1 u2).1).State) == u0.State) && true)))) rfl (by kernel_rfl) (by kernel_rfl) (by kernel_rfl) rfl) ?_; intro a1065 hF1066; clear hF1064
         refine s1 hF1066 6 (.bool ((((gseeS u0 u1 u2).2) == 0) && (((((gseeS u0 u1 u2).1).Key) == u0.Key) && (((((gseeS u0 u1 u2).1).Last) == u0.Last) && (((((gseeS u0 u1 u2).1).Bad) == u0.Bad) && (((((gseeS u0 u1 u2).1).State) == u0.State) && true)))))) ?_; intro a1067 hF1068; clear hF1066
         refine nlH (hQ1051 _ _ ?_); clear hQ1051 hQ1051Q
         refine wp_ret ?_
         refine rt (fn := Tryd.f9) (v := .bool ((((gseeS u0 u1 u2).2) == 0) && (((((gseeS u0 u1 u2).1).Key) == u0.Key) && (((((gseeS u0 u1 u2).1).Last) == u0.Last) && (((((gseeS u0 u1 u2).1).Bad) == u0.Bad) && (((((gseeS u0 u1 u2).1).State) == u0.State) && true)))))) hF1068 (re1 hF1068 (fn := Tryd.f9) rfl (by kernel_rfl)) ?_
         exact ⟨(((gseeS u0 u1 u2).2) == 0) && (((((gseeS u0 u1 u2).1).Key) == u0.Key) && (((((gseeS u0 u1 u2).1).Last) == u0.Last) && (((((gseeS u0 u1 u2).1).Bad) == u0.Bad) && (((((gseeS u0 u1 u2).1).State) == u0.State) && true)))), rfl, hp1050, hM563.below⟩

end Go.Proofs.YtinegicenfndkaaDoor
