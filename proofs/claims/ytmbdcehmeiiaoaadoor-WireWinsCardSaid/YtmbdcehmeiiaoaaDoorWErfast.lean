/- The walks, made by program: each call does what its pure predicate says. -/
import Derived.Test.YtmbdcehmeiiaoaaDoorWE
set_option linter.unusedVariables false
set_option linter.unusedSimpArgs false
namespace Go.Proofs.YtmbdcehmeiiaoaaDoor
open Go.Sy Go.RowKit
set_option maxRecDepth 100000 in
set_option maxHeartbeats 0 in
theorem rfast_walk (u0 : FReader) (b1 : Nat) (ao2 : Option Addr) (cap3 : Nat) (B : Nat) (w0 : World) (Z0 : Fz) (Rr : List Res) (Z : Fz) (w : World) (hs4 : SlR (tyInt .u8) Z ao2 cap3 u0.f.Data) (hM0 : Mem B [] w0 Z0 ((.row b1 [str u0.Reader.Row, .int .i64 u0.Reader.At, .int .i64 u0.Reader.Code, .int .u8 u0.Reader.c.last, .int .i64 u0.Reader.c.n, .int .i64 u0.f.ID, .bool u0.f.Long, .bool u0.f.Fast, .bool u0.f.Remote, .int .i64 u0.f.Size, .slice ao2 u0.f.Data.length cap3] 64) :: Rr) Z w) (hZ : Z.on w) {K : FReader → Prop} (hp : rfast_vc u0 K) : Calls Tryd.prog 43 #[.pointer (some ⟨b1, 0, none⟩)] w fun e w' => ∃ (r : FReader) (ao1001 : Option Addr) (cap1002 : Nat) (Z' : Fz), e = .returned (.tuple #[]) ∧ K r ∧ Fz.le Z Z' ∧ SlR (tyInt .u8) Z' ao1001 cap1002 r.f.Data ∧ Mem B [] w0 Z0 ((.row b1 [str r.Reader.Row, .int .i64 r.Reader.At, .int .i64 r.Reader.Code, .int .u8 r.Reader.c.last, .int .i64 r.Reader.c.n, .int .i64 r.f.ID, .bool r.f.Long, .bool r.f.Fast, .bool r.f.Remote, .int .i64 r.f.Size, .slice ao1001 r.f.Data.length cap1002] 64) :: Rr) Z' w' := by
 refine enter0 Tryd.func43 rfl rfl (by kernel_rfl) ?_; intro a0 hF0; have hle0 := Fz.le.refl Z
 have hp5 := hp (hs4.small); clear hp
 refine wp_seq ?_
 refine sqH ?_; intro hQ6Q hQ6
 refine s1 hF0 10 (.pointer (some ⟨b1, 0, none⟩)) ?_; intro a7 hF8; clear hF0
 refine s1 hF8 11 (.pointer (some ⟨b1, 0, none⟩)) ?_; intro a9 hF10; clear hF8
 refine s1 hF10 12 (.pointer (some ⟨b1, 0, none⟩)) ?_; intro a11 hF12; clear hF10
 refine s1 hF12 13 (.pointer (some ⟨b1, 2, none⟩)) ?_; intro a13 hF14; clear hF12
 refine l1 hF14 hM0 14 0 2 (.int .i64 u0.Reader.Code) rfl rfl ?_; intro a15 hF16; clear hF14
 refine s1 hF16 15 (.bool (u0.Reader.Code != 0)) ?_; intro a17 hF18; clear hF16
 refine nlH (hQ6 _ _ ?_); clear hQ6 hQ6Q
 refine cd hF18 (t := u0.Reader.Code != 0) (by kernel_rfl) (fun hb19 => ?_) (fun hb19 => ?_)
 · -- yes
  have hp20 := hp5.1 hb19; clear hp5
  refine wp_ret ?_
  refine thr ?_
  refine rt (fn := Tryd.f43) (v := .tuple #[]) hF18 (re0 hF18 (fn := Tryd.f43) rfl) ?_
  exact ⟨u0, ao2, cap3, Z, rfl, hp20, hle0, hs4, hM0.keep (List.Sublist.cons_cons _ (List.Sublist.refl _))⟩
 · -- no
  have hp21 := hp5.2 hb19; clear hp5
  refine wp_skip ?_
  refine thn ?_
  have hF22 : Fr 119 [] [⟨0, [], .pointer (some ⟨b1, 0, none⟩)⟩] a17 := hF18.region (by kernel_rfl) (by kernel_rfl); clear hF18
  refine sqQH mixed (by kernel_rfl) hM0 ?_; intro hQ23Q hQ23
  refine q1 hF22 16 (.pointer (some ⟨b1, 0, none⟩)) ?_; intro a25 hF26; clear hF22
  refine q1 hF26 17 (.pointer (some ⟨b1, 0, none⟩)) ?_; intro a28 hF29; clear hF26
  refine q1 hF29 18 (.pointer (some ⟨b1, 0, none⟩)) ?_; intro a31 hF32; clear hF29
  refine q1 hF32 19 (.pointer (some ⟨b1, 0, none⟩)) ?_; intro a34 hF35; clear hF32
  refine qst hF35 (str u0.Reader.Row) (nog rfl _) rfl (by kernel_rfl) (fun v36 hC => ld hF35 hC 0 (g := []) (b := b1) (off := 0) (cs := [str u0.Reader.Row, .int .i64 u0.Reader.At, .int .i64 u0.Reader.Code, .int .u8 u0.Reader.c.last, .int .i64 u0.Reader.c.n, .int .i64 u0.f.ID, .bool u0.f.Long, .bool u0.f.Fast, .bool u0.f.Remote, .int .i64 u0.f.Size, .slice ao2 u0.f.Data.length cap3]) (ty := 64) rfl (by kernel_rfl) (by kernel_rfl) (by kernel_rfl) (by kernel_rfl) rfl) ?_; intro a37 hF38; clear hF35
  refine q1 hF38 21 (.pointer (some ⟨b1, 0, none⟩)) ?_; intro a40 hF41; clear hF38
  refine q1 hF41 22 (.pointer (some ⟨b1, 0, none⟩)) ?_; intro a43 hF44; clear hF41
  refine q1 hF44 23 (.pointer (some ⟨b1, 0, none⟩)) ?_; intro a46 hF47; clear hF44
  refine q1 hF47 24 (.pointer (some ⟨b1, 1, none⟩)) ?_; intro a49 hF50; clear hF47
  refine qst hF50 (.int .i64 u0.Reader.At) (nog rfl _) rfl (by kernel_rfl) (fun v51 hC => ld hF50 hC 0 (g := []) (b := b1) (off := 1) (cs := [str u0.Reader.Row, .int .i64 u0.Reader.At, .int .i64 u0.Reader.Code, .int .u8 u0.Reader.c.last, .int .i64 u0.Reader.c.n, .int .i64 u0.f.ID, .bool u0.f.Long, .bool u0.f.Fast, .bool u0.f.Remote, .int .i64 u0.f.Size, .slice ao2 u0.f.Data.length cap3]) (ty := 64) rfl (by kernel_rfl) (by kernel_rfl) (by kernel_rfl) (by kernel_rfl) rfl) ?_; intro a52 hF53; clear hF50
  have hc55 := hp21.1; have hp56 := hp21.2; clear hp21
  refine qst hF53 (str (u0.Reader.Row.take u0.Reader.At.toNat)) (nog rfl _) rfl (by kernel_rfl) (fun v54 hC => strslH_run hF53 (g := []) (k := .i64) rfl (by kernel_rfl) (by kernel_rfl) (by kernel_rfl) hc55 rfl) ?_; intro a57 hF58; clear hF53
  refine q1 hF58 2 (str (u0.Reader.Row.take u0.Reader.At.toNat)) ?_; intro a60 hF61; clear hF58
  refine qnl (hQ23 _ ?_); clear hQ23 hQ23Q; intro wd62 hM63; clear hM0
  refine sqH ?_; intro hQ64Q hQ64
  refine s1 hF61 27 (str (u0.Reader.Row.take u0.Reader.At.toNat)) ?_; intro a65 hF66; clear hF61
  refine s1 hF66 28 (.int .i64 ((u0.Reader.Row.take u0.Reader.At.toNat).length : Int)) ?_; intro a67 hF68; clear hF66
  refine s1 hF68 29 (.pointer (some ⟨b1, 0, none⟩)) ?_; intro a69 hF70; clear hF68
  refine s1 hF70 30 (.pointer (some ⟨b1, 0, none⟩)) ?_; intro a71 hF72; clear hF70
  refine s1 hF72 31 (.pointer (some ⟨b1, 5, none⟩)) ?_; intro a73 hF74; clear hF72
  refine l2 hF74 hM63 32 0 5 6 [.int .i64 u0.f.ID, .bool u0.f.Long, .bool u0.f.Fast, .bool u0.f.Remote, .int .i64 u0.f.Size, .slice ao2 u0.f.Data.length cap3] rfl rfl ?_; intro a75 hF76; clear hF74
  have hc77 := hp56.1; have hp78 := hp56.2; clear hp56
  refine fcl hF76 hM63 (str (fheadS u0.f)) 30 #[.agg #[.int .i64 u0.f.ID, .bool u0.f.Long, .bool u0.f.Fast, .bool u0.f.Remote, .int .i64 u0.f.Size, .slice ao2 u0.f.Data.length cap3]] (nog rfl _) rfl (by kernel_rfl) (fun _ => by kernel_rfl) (fhead_fun u0.f hc77 ao2 cap3 _ _ hs4 hM63.fz) ?_; intro a79 wd81 hF80 hM82; clear hF76 hM63
  refine s1 hF80 34 (.int .i64 ((fheadS u0.f).length : Int)) ?_; intro a83 hF84; clear hF80
  refine s1 hF84 35 (.int .i64 (w64 (((u0.Reader.Row.take u0.Reader.At.toNat).length : Int) - ((fheadS u0.f).length : Int)))) ?_; intro a85 hF86; clear hF84
  have hc87 := hp78.1; have hp88 := hp78.2; clear hp78
  refine fcl hF86 hM82 (str (fcountS (w64 (((u0.Reader.Row.take u0.Reader.At.toNat).length : Int) - ((fheadS u0.f).length : Int))))) 33 #[.int .i64 (w64 (((u0.Reader.Row.take u0.Reader.At.toNat).length : Int) - ((fheadS u0.f).length : Int)))] (nog rfl _) rfl (by kernel_rfl) (fun _ => by kernel_rfl) (fcount_fun (w64 (((u0.Reader.Row.take u0.Reader.At.toNat).length : Int) - ((fheadS u0.f).length : Int))) hc87 _ _ hM82.fz) ?_; intro a89 wd91 hF90 hM92; clear hF86 hM82
  refine s1 hF90 3 (str (fcountS (w64 (((u0.Reader.Row.take u0.Reader.At.toNat).length : Int) - ((fheadS u0.f).length : Int))))) ?_; intro a93 hF94; clear hF90
  refine nlH (hQ64 _ _ ?_); clear hQ64 hQ64Q
  have hF95 : Fr 119 [] [⟨0, [], .pointer (some ⟨b1, 0, none⟩)⟩, ⟨2, [], str (u0.Reader.Row.take u0.Reader.At.toNat)⟩, ⟨3, [], str (fcountS (w64 (((u0.Reader.Row.take u0.Reader.At.toNat).length : Int) - ((fheadS u0.f).length : Int))))⟩] a93 := hF94.region (by kernel_rfl) (by kernel_rfl); clear hF94
  refine sqH ?_; intro hQ96Q hQ96
  refine s1 hF95 38 (.pointer (some ⟨b1, 0, none⟩)) ?_; intro a97 hF98; clear hF95
  refine s1 hF98 39 (.pointer (some ⟨b1, 0, none⟩)) ?_; intro a99 hF100; clear hF98
  refine s1 hF100 40 (.pointer (some ⟨b1, 5, none⟩)) ?_; intro a101 hF102; clear hF100
  refine l2 hF102 hM92 41 0 5 6 [.int .i64 u0.f.ID, .bool u0.f.Long, .bool u0.f.Fast, .bool u0.f.Remote, .int .i64 u0.f.Size, .slice ao2 u0.f.Data.length cap3] rfl rfl ?_; intro a103 hF104; clear hF102
  refine fcl hF104 hM92 (.int .i64 (fkind u0.f)) 34 #[.agg #[.int .i64 u0.f.ID, .bool u0.f.Long, .bool u0.f.Fast, .bool u0.f.Remote, .int .i64 u0.f.Size, .slice ao2 u0.f.Data.length cap3]] (nog rfl _) rfl (by kernel_rfl) (fun _ => by kernel_rfl) (fkind_fun u0.f ao2 cap3 _ _ hs4 hM92.fz) ?_; intro a105 wd107 hF106 hM108; clear hF104 hM92
  refine s1 hF106 43 (str (u0.Reader.Row.take u0.Reader.At.toNat)) ?_; intro a109 hF110; clear hF106
  refine s1 hF110 44 (str (fcountS (w64 (((u0.Reader.Row.take u0.Reader.At.toNat).length : Int) - ((fheadS u0.f).length : Int))))) ?_; intro a111 hF112; clear hF110
  have hc113 := hp88.1; have hp114 := hp88.2; clear hp88
  refine st hF112 (str ((u0.Reader.Row.take u0.Reader.At.toNat) ++ (fcountS (w64 (((u0.Reader.Row.take u0.Reader.At.toNat).length : Int) - ((fheadS u0.f).length : Int)))))) (nog rfl _) rfl (by kernel_rfl) (stradd_run hF112 (g := []) rfl (by kernel_rfl) (by kernel_rfl) hc113 rfl) ?_; intro a115 hF116; clear hF112
  refine fcl hF116 hM108 (.tuple #[str ((csumS (fkind u0.f) ((u0.Reader.Row.take u0.Reader.At.toNat) ++ (fcountS (w64 (((u0.Reader.Row.take u0.Reader.At.toNat).length : Int) - ((fheadS u0.f).length : Int)))))).1), .int .i64 ((csumS (fkind u0.f) ((u0.Reader.Row.take u0.Reader.At.toNat) ++ (fcountS (w64 (((u0.Reader.Row.take u0.Reader.At.toNat).length : Int) - ((fheadS u0.f).length : Int)))))).2)]) 31 #[.int .i64 (fkind u0.f), str ((u0.Reader.Row.take u0.Reader.At.toNat) ++ (fcountS (w64 (((u0.Reader.Row.take u0.Reader.At.toNat).length : Int) - ((fheadS u0.f).length : Int)))))] (nog rfl _) rfl (by kernel_rfl) (fun _ => by kernel_rfl) (csum_fun (fkind u0.f) ((u0.Reader.Row.take u0.Reader.At.toNat) ++ (fcountS (w64 (((u0.Reader.Row.take u0.Reader.At.toNat).length : Int) - ((fheadS u0.f).length : Int))))) _ _ hM108.fz) ?_; intro a117 wd119 hF118 hM120; clear hF116 hM108
  refine s1 hF118 37 (.tuple #[str ((csumS (fkind u0.f) ((u0.Reader.Row.take u0.Reader.At.toNat) ++ (fcountS (w64 (((u0.Reader.Row.take u0.Reader.At.toNat).length : Int) - ((fheadS u0.f).length : Int)))))).1), .int .i64 ((csumS (fkind u0.f) ((u0.Reader.Row.take u0.Reader.At.toNat) ++ (fcountS (w64 (((u0.Reader.Row.take u0.Reader.At.toNat).length : Int) - ((fheadS u0.f).length : Int)))))).2)]) ?_; intro a121 hF122; clear hF118
  refine s1 hF122 47 (str ((csumS (fkind u0.f) ((u0.Reader.Row.take u0.Reader.At.toNat) ++ (fcountS (w64 (((u0.Reader.Row.take u0.Reader.At.toNat).length : Int) - ((fheadS u0.f).length : Int)))))).1)) ?_; intro a123 hF124; clear hF122
  refine s1 hF124 48 (.int .i64 ((csumS (fkind u0.f) ((u0.Reader.Row.take u0.Reader.At.toNat) ++ (fcountS (w64 (((u0.Reader.Row.take u0.Reader.At.toNat).length : Int) - ((fheadS u0.f).length : Int)))))).2)) ?_; intro a125 hF126; clear hF124
  refine s1 hF126 4 (str ((csumS (fkind u0.f) ((u0.Reader.Row.take u0.Reader.At.toNat) ++ (fcountS (w64 (((u0.Reader.Row.take u0.Reader.At.toNat).length : Int) - ((fheadS u0.f).length : Int)))))).1)) ?_; intro a127 hF128; clear hF126
  refine s1 hF128 5 (.int .i64 ((csumS (fkind u0.f) ((u0.Reader.Row.take u0.Reader.At.toNat) ++ (fcountS (w64 (((u0.Reader.Row.take u0.Reader.At.toNat).length : Int) - ((fheadS u0.f).length : Int)))))).2)) ?_; intro a129 hF130; clear hF128
  refine nlH (hQ96 _ _ ?_); clear hQ96 hQ96Q
  have hF131 : Fr 119 [] [⟨0, [], .pointer (some ⟨b1, 0, none⟩)⟩, ⟨2, [], str (u0.Reader.Row.take u0.Reader.At.toNat)⟩, ⟨3, [], str (fcountS (w64 (((u0.Reader.Row.take u0.Reader.At.toNat).length : Int) - ((fheadS u0.f).length : Int))))⟩, ⟨4, [], str ((csumS (fkind u0.f) ((u0.Reader.Row.take u0.Reader.At.toNat) ++ (fcountS (w64 (((u0.Reader.Row.take u0.Reader.At.toNat).length : Int) - ((fheadS u0.f).length : Int)))))).1)⟩] a129 := hF130.region (by kernel_rfl) (by kernel_rfl); clear hF130
  refine sqH ?_; intro hQ132Q hQ132
  refine s1 hF131 50 (str (fcountS (w64 (((u0.Reader.Row.take u0.Reader.At.toNat).length : Int) - ((fheadS u0.f).length : Int))))) ?_; intro a133 hF134; clear hF131
  refine s1 hF134 51 (str ((csumS (fkind u0.f) ((u0.Reader.Row.take u0.Reader.At.toNat) ++ (fcountS (w64 (((u0.Reader.Row.take u0.Reader.At.toNat).length : Int) - ((fheadS u0.f).length : Int)))))).1)) ?_; intro a135 hF136; clear hF134
  have hc137 := hp114.1; have hp138 := hp114.2; clear hp114
  refine st hF136 (str ((fcountS (w64 (((u0.Reader.Row.take u0.Reader.At.toNat).length : Int) - ((fheadS u0.f).length : Int)))) ++ ((csumS (fkind u0.f) ((u0.Reader.Row.take u0.Reader.At.toNat) ++ (fcountS (w64 (((u0.Reader.Row.take u0.Reader.At.toNat).length : Int) - ((fheadS u0.f).length : Int)))))).1))) (nog rfl _) rfl (by kernel_rfl) (stradd_run hF136 (g := []) rfl (by kernel_rfl) (by kernel_rfl) hc137 rfl) ?_; intro a139 hF140; clear hF136
  refine s1 hF140 53 (str (u0.Reader.Row.take u0.Reader.At.toNat)) ?_; intro a141 hF142; clear hF140
  refine s1 hF142 54 (str (u0.Reader.Row.take u0.Reader.At.toNat)) ?_; intro a143 hF144; clear hF142
  refine s1 hF144 55 (.int .i64 ((u0.Reader.Row.take u0.Reader.At.toNat).length : Int)) ?_; intro a145 hF146; clear hF144
  refine s1 hF146 56 (.int .i64 (w64 (((u0.Reader.Row.take u0.Reader.At.toNat).length : Int) - 1))) ?_; intro a147 hF148; clear hF146
  have hc149 := hp138.1; have hp150 := hp138.2; clear hp138
  obtain ⟨c151, hq152⟩ : ∃ q, (u0.Reader.Row.take u0.Reader.At.toNat)[(w64 (((u0.Reader.Row.take u0.Reader.At.toNat).length : Int) - 1)).toNat]? = some q := ⟨_, List.getElem?_eq_getElem (by omega)⟩; have hp153 := hp150 c151 hq152
  refine st hF148 (.int .u8 (c151.toNat : Int)) (nog rfl _) rfl (by kernel_rfl) (stridx_run hF148 (k := .i64) rfl (by kernel_rfl) (by kernel_rfl) (by kernel_rfl) hc149.1 hq152) ?_; intro a154 hF155; clear hF148
  refine fcl hF155 hM120 (.tuple #[str ((sfixedS ((fcountS (w64 (((u0.Reader.Row.take u0.Reader.At.toNat).length : Int) - ((fheadS u0.f).length : Int)))) ++ ((csumS (fkind u0.f) ((u0.Reader.Row.take u0.Reader.At.toNat) ++ (fcountS (w64 (((u0.Reader.Row.take u0.Reader.At.toNat).length : Int) - ((fheadS u0.f).length : Int)))))).1)) (c151.toNat : Int)).1), .int .i64 ((sfixedS ((fcountS (w64 (((u0.Reader.Row.take u0.Reader.At.toNat).length : Int) - ((fheadS u0.f).length : Int)))) ++ ((csumS (fkind u0.f) ((u0.Reader.Row.take u0.Reader.At.toNat) ++ (fcountS (w64 (((u0.Reader.Row.take u0.Reader.At.toNat).length : Int) - ((fheadS u0.f).length : Int)))))).1)) (c151.toNat : Int)).2)]) 35 #[str ((fcountS (w64 (((u0.Reader.Row.take u0.Reader.At.toNat).length : Int) - ((fheadS u0.f).length : Int)))) ++ ((csumS (fkind u0.f) ((u0.Reader.Row.take u0.Reader.At.toNat) ++ (fcountS (w64 (((u0.Reader.Row.take u0.Reader.At.toNat).length : Int) - ((fheadS u0.f).length : Int)))))).1)), .int .u8 (c151.toNat : Int)] (nog rfl _) rfl (by kernel_rfl) (fun _ => by kernel_rfl) (sfixed_fun ((fcountS (w64 (((u0.Reader.Row.take u0.Reader.At.toNat).length : Int) - ((fheadS u0.f).length : Int)))) ++ ((csumS (fkind u0.f) ((u0.Reader.Row.take u0.Reader.At.toNat) ++ (fcountS (w64 (((u0.Reader.Row.take u0.Reader.At.toNat).length : Int) - ((fheadS u0.f).length : Int)))))).1)) (c151.toNat : Int) _ _ hM120.fz) ?_; intro a156 wd158 hF157 hM159; clear hF155 hM120
  refine s1 hF157 49 (.tuple #[str ((sfixedS ((fcountS (w64 (((u0.Reader.Row.take u0.Reader.At.toNat).length : Int) - ((fheadS u0.f).length : Int)))) ++ ((csumS (fkind u0.f) ((u0.Reader.Row.take u0.Reader.At.toNat) ++ (fcountS (w64 (((u0.Reader.Row.take u0.Reader.At.toNat).length : Int) - ((fheadS u0.f).length : Int)))))).1)) (c151.toNat : Int)).1), .int .i64 ((sfixedS ((fcountS (w64 (((u0.Reader.Row.take u0.Reader.At.toNat).length : Int) - ((fheadS u0.f).length : Int)))) ++ ((csumS (fkind u0.f) ((u0.Reader.Row.take u0.Reader.At.toNat) ++ (fcountS (w64 (((u0.Reader.Row.take u0.Reader.At.toNat).length : Int) - ((fheadS u0.f).length : Int)))))).1)) (c151.toNat : Int)).2)]) ?_; intro a160 hF161; clear hF157
  refine s1 hF161 59 (str ((sfixedS ((fcountS (w64 (((u0.Reader.Row.take u0.Reader.At.toNat).length : Int) - ((fheadS u0.f).length : Int)))) ++ ((csumS (fkind u0.f) ((u0.Reader.Row.take u0.Reader.At.toNat) ++ (fcountS (w64 (((u0.Reader.Row.take u0.Reader.At.toNat).length : Int) - ((fheadS u0.f).length : Int)))))).1)) (c151.toNat : Int)).1)) ?_; intro a162 hF163; clear hF161
  refine s1 hF163 60 (.int .i64 ((sfixedS ((fcountS (w64 (((u0.Reader.Row.take u0.Reader.At.toNat).length : Int) - ((fheadS u0.f).length : Int)))) ++ ((csumS (fkind u0.f) ((u0.Reader.Row.take u0.Reader.At.toNat) ++ (fcountS (w64 (((u0.Reader.Row.take u0.Reader.At.toNat).length : Int) - ((fheadS u0.f).length : Int)))))).1)) (c151.toNat : Int)).2)) ?_; intro a164 hF165; clear hF163
  refine s1 hF165 6 (str ((sfixedS ((fcountS (w64 (((u0.Reader.Row.take u0.Reader.At.toNat).length : Int) - ((fheadS u0.f).length : Int)))) ++ ((csumS (fkind u0.f) ((u0.Reader.Row.take u0.Reader.At.toNat) ++ (fcountS (w64 (((u0.Reader.Row.take u0.Reader.At.toNat).length : Int) - ((fheadS u0.f).length : Int)))))).1)) (c151.toNat : Int)).1)) ?_; intro a166 hF167; clear hF165
  refine s1 hF167 7 (.int .i64 ((sfixedS ((fcountS (w64 (((u0.Reader.Row.take u0.Reader.At.toNat).length : Int) - ((fheadS u0.f).length : Int)))) ++ ((csumS (fkind u0.f) ((u0.Reader.Row.take u0.Reader.At.toNat) ++ (fcountS (w64 (((u0.Reader.Row.take u0.Reader.At.toNat).length : Int) - ((fheadS u0.f).length : Int)))))).1)) (c151.toNat : Int)).2)) ?_; intro a168 hF169; clear hF167
  refine nlH (hQ132 _ _ ?_); clear hQ132 hQ132Q
  have hF170 : Fr 119 [] [⟨0, [], .pointer (some ⟨b1, 0, none⟩)⟩, ⟨2, [], str (u0.Reader.Row.take u0.Reader.At.toNat)⟩, ⟨6, [], str ((sfixedS ((fcountS (w64 (((u0.Reader.Row.take u0.Reader.At.toNat).length : Int) - ((fheadS u0.f).length : Int)))) ++ ((csumS (fkind u0.f) ((u0.Reader.Row.take u0.Reader.At.toNat) ++ (fcountS (w64 (((u0.Reader.Row.take u0.Reader.At.toNat).length : Int) - ((fheadS u0.f).length : Int)))))).1)) (c151.toNat : Int)).1)⟩] a168 := hF169.region (by kernel_rfl) (by kernel_rfl); clear hF169
  refine sqH ?_; intro hQ171Q hQ171
  refine s1 hF170 61 (.pointer (some ⟨b1, 0, none⟩)) ?_; intro a172 hF173; clear hF170
  refine s1 hF173 62 (.pointer (some ⟨b1, 0, none⟩)) ?_; intro a174 hF175; clear hF173
  refine s1 hF175 63 (.pointer (some ⟨b1, 0, none⟩)) ?_; intro a176 hF177; clear hF175
  refine s1 hF177 64 (str ((sfixedS ((fcountS (w64 (((u0.Reader.Row.take u0.Reader.At.toNat).length : Int) - ((fheadS u0.f).length : Int)))) ++ ((csumS (fkind u0.f) ((u0.Reader.Row.take u0.Reader.At.toNat) ++ (fcountS (w64 (((u0.Reader.Row.take u0.Reader.At.toNat).length : Int) - ((fheadS u0.f).length : Int)))))).1)) (c151.toNat : Int)).1)) ?_; intro a178 hF179; clear hF177
  refine s1 hF179 65 (.int .i64 (((sfixedS ((fcountS (w64 (((u0.Reader.Row.take u0.Reader.At.toNat).length : Int) - ((fheadS u0.f).length : Int)))) ++ ((csumS (fkind u0.f) ((u0.Reader.Row.take u0.Reader.At.toNat) ++ (fcountS (w64 (((u0.Reader.Row.take u0.Reader.At.toNat).length : Int) - ((fheadS u0.f).length : Int)))))).1)) (c151.toNat : Int)).1).length : Int)) ?_; intro a180 hF181; clear hF179
  have hc182 := hp153.1; have hp183 := hp153.2; clear hp153
  refine cl hF181 44 #[.pointer (some ⟨b1, 0, none⟩), .int .i64 (((sfixedS ((fcountS (w64 (((u0.Reader.Row.take u0.Reader.At.toNat).length : Int) - ((fheadS u0.f).length : Int)))) ++ ((csumS (fkind u0.f) ((u0.Reader.Row.take u0.Reader.At.toNat) ++ (fcountS (w64 (((u0.Reader.Row.take u0.Reader.At.toNat).length : Int) - ((fheadS u0.f).length : Int)))))).1)) (c151.toNat : Int)).1).length : Int)] (nog rfl _) rfl (by kernel_rfl) (by kernel_rfl) ?_
  obtain ⟨r188, hr189⟩ : ∃ x, (rplainFS u0 (((sfixedS ((fcountS (w64 (((u0.Reader.Row.take u0.Reader.At.toNat).length : Int) - ((fheadS u0.f).length : Int)))) ++ ((csumS (fkind u0.f) ((u0.Reader.Row.take u0.Reader.At.toNat) ++ (fcountS (w64 (((u0.Reader.Row.take u0.Reader.At.toNat).length : Int) - ((fheadS u0.f).length : Int)))))).1)) (c151.toNat : Int)).1).length : Int)) = x := ⟨_, rfl⟩; have hp190 := hp183 r188 hr189; clear hp183
  have h9 := rplainF_fun u0 (((sfixedS ((fcountS (w64 (((u0.Reader.Row.take u0.Reader.At.toNat).length : Int) - ((fheadS u0.f).length : Int)))) ++ ((csumS (fkind u0.f) ((u0.Reader.Row.take u0.Reader.At.toNat) ++ (fcountS (w64 (((u0.Reader.Row.take u0.Reader.At.toNat).length : Int) - ((fheadS u0.f).length : Int)))))).1)) (c151.toNat : Int)).1).length : Int) hc182 b1 ao2 cap3 _ _ _ _ _ _ hs4 hM159 hM159.fz; rw [hr189] at h9; refine h9.mono ?_; clear h9; rintro _ wd184 ⟨ao192, cap193, Z195, rfl, hle196, hs194, hm⟩; refine ⟨_, rfl, ?_⟩; intro a185 hF186; have hM187 := hm; clear hm hM159 hF181
  replace hs4 := hs4.mono hle196
  replace hle0 := Fz.le.trans hle0 hle196
  have hM197 : Mem B [] w0 Z0 ((.row b1 [str r188.2.Reader.Row, .int .i64 r188.2.Reader.At, .int .i64 r188.2.Reader.Code, .int .u8 r188.2.Reader.c.last, .int .i64 r188.2.Reader.c.n, .int .i64 r188.2.f.ID, .bool r188.2.f.Long, .bool r188.2.f.Fast, .bool r188.2.f.Remote, .int .i64 r188.2.f.Size, .slice ao192 r188.2.f.Data.length cap193] 64) :: Rr) Z195 wd184 := hM187; clear hM187
  have hp198 := hp190 (hs194.small); clear hp190
  refine s1 hF186 8 (str r188.1) ?_; intro a199 hF200; clear hF186
  refine nlH (hQ171 _ _ ?_); clear hQ171 hQ171Q
  refine wp_seq ?_
  refine sqH ?_; intro hQ201Q hQ201
  refine s1 hF200 67 (str r188.1) ?_; intro a202 hF203; clear hF200
  refine s1 hF203 68 (.int .i64 (r188.1.length : Int)) ?_; intro a204 hF205; clear hF203
  refine s1 hF205 69 (.int .i64 0) ?_; intro a206 hF207; clear hF205
  refine nlH (hQ201 _ _ ?_); clear hQ201 hQ201Q
  refine wp_block ?_
  have hF208 : Fr 119 [] [⟨0, [], .pointer (some ⟨b1, 0, none⟩)⟩, ⟨2, [], str (u0.Reader.Row.take u0.Reader.At.toNat)⟩, ⟨6, [], str ((sfixedS ((fcountS (w64 (((u0.Reader.Row.take u0.Reader.At.toNat).length : Int) - ((fheadS u0.f).length : Int)))) ++ ((csumS (fkind u0.f) ((u0.Reader.Row.take u0.Reader.At.toNat) ++ (fcountS (w64 (((u0.Reader.Row.take u0.Reader.At.toNat).length : Int) - ((fheadS u0.f).length : Int)))))).1)) (c151.toNat : Int)).1)⟩, ⟨8, [], str r188.1⟩, ⟨68, [], .int .i64 (r188.1.length : Int)⟩, ⟨69, [], .int .i64 0⟩] a206 := hF207.region (by kernel_rfl) (by kernel_rfl); clear hF207
  have hF210 : Fr 119 [] [⟨0, [], .pointer (some ⟨b1, 0, none⟩)⟩, ⟨2, [], str (u0.Reader.Row.take u0.Reader.At.toNat)⟩, ⟨6, [], str ((sfixedS ((fcountS (w64 (((u0.Reader.Row.take u0.Reader.At.toNat).length : Int) - ((fheadS u0.f).length : Int)))) ++ ((csumS (fkind u0.f) ((u0.Reader.Row.take u0.Reader.At.toNat) ++ (fcountS (w64 (((u0.Reader.Row.take u0.Reader.At.toNat).length : Int) - ((fheadS u0.f).length : Int)))))).1)) (c151.toNat : Int)).1)⟩, ⟨8, [], str r188.1⟩, ⟨68, [], .int .i64 (r188.1.length : Int)⟩, ⟨69, [], .int .i64 0⟩] a206 := hF208.region (by kernel_rfl) (by kernel_rfl); clear hF208
  obtain ⟨inv209, mu209, hI213, hr212⟩ := hp198
  have hle214 := hle0
  refine lp (ι := Int × FReader × (Option Addr) × Nat × Fz) (fun (s : Int × FReader × (Option Addr) × Nat × Fz) => [⟨0, [], .pointer (some ⟨b1, 0, none⟩)⟩, ⟨2, [], str (u0.Reader.Row.take u0.Reader.At.toNat)⟩, ⟨6, [], str ((sfixedS ((fcountS (w64 (((u0.Reader.Row.take u0.Reader.At.toNat).length : Int) - ((fheadS u0.f).length : Int)))) ++ ((csumS (fkind u0.f) ((u0.Reader.Row.take u0.Reader.At.toNat) ++ (fcountS (w64 (((u0.Reader.Row.take u0.Reader.At.toNat).length : Int) - ((fheadS u0.f).length : Int)))))).1)) (c151.toNat : Int)).1)⟩, ⟨8, [], str r188.1⟩, ⟨68, [], .int .i64 (r188.1.length : Int)⟩, ⟨69, [], .int .i64 s.1⟩]) (fun (s : Int × FReader × (Option Addr) × Nat × Fz) => ((.row b1 [str s.2.1.Reader.Row, .int .i64 s.2.1.Reader.At, .int .i64 s.2.1.Reader.Code, .int .u8 s.2.1.Reader.c.last, .int .i64 s.2.1.Reader.c.n, .int .i64 s.2.1.f.ID, .bool s.2.1.f.Long, .bool s.2.1.f.Fast, .bool s.2.1.f.Remote, .int .i64 s.2.1.f.Size, .slice s.2.2.1 s.2.1.f.Data.length s.2.2.2.1] 64) :: Rr)) (fun (s : Int × FReader × (Option Addr) × Nat × Fz) => s.2.2.2.2) (fun (s : Int × FReader × (Option Addr) × Nat × Fz) => inv209 s.1 s.2.1 ∧ SlR (tyInt .u8) s.2.2.2.2 s.2.2.1 s.2.2.2.1 s.2.1.f.Data ∧ Fz.le Z195 s.2.2.2.2) (fun (s : Int × FReader × (Option Addr) × Nat × Fz) => mu209 s.1 s.2.1) ⟨0, r188.2, ao192, cap193, Z195⟩ ⟨hI213, hs194, Fz.le.refl _⟩ (by exact hF210.region (by kernel_rfl) (by kernel_rfl)) (by exact hM197) ?_
  rintro ⟨x69, yb1, aoyb1_0, capyb1_0, ZL209⟩ ⟨hI211, hsyb1_0, hleL209⟩ a215 wd216 hF217 hM218
  have hF219 : Fr 119 [] [⟨0, [], .pointer (some ⟨b1, 0, none⟩)⟩, ⟨2, [], str (u0.Reader.Row.take u0.Reader.At.toNat)⟩, ⟨6, [], str ((sfixedS ((fcountS (w64 (((u0.Reader.Row.take u0.Reader.At.toNat).length : Int) - ((fheadS u0.f).length : Int)))) ++ ((csumS (fkind u0.f) ((u0.Reader.Row.take u0.Reader.At.toNat) ++ (fcountS (w64 (((u0.Reader.Row.take u0.Reader.At.toNat).length : Int) - ((fheadS u0.f).length : Int)))))).1)) (c151.toNat : Int)).1)⟩, ⟨8, [], str r188.1⟩, ⟨68, [], .int .i64 (r188.1.length : Int)⟩, ⟨69, [], .int .i64 x69⟩] a215 := hF217; clear hF217 hF210
  have hM220 : Mem B [] w0 Z0 ((.row b1 [str yb1.Reader.Row, .int .i64 yb1.Reader.At, .int .i64 yb1.Reader.Code, .int .u8 yb1.Reader.c.last, .int .i64 yb1.Reader.c.n, .int .i64 yb1.f.ID, .bool yb1.f.Long, .bool yb1.f.Fast, .bool yb1.f.Remote, .int .i64 yb1.f.Size, .slice aoyb1_0 yb1.f.Data.length capyb1_0] 64) :: Rr) ZL209 wd216 := hM218; clear hM218 hM197
  have hp221 := hr212 x69 yb1 hI211
  replace hle0 := Fz.le.trans hle0 hleL209
  have hs222 := hs4.mono hleL209
  have hs223 := hs194.mono hleL209
  refine sqH ?_; intro hQ224Q hQ224
  refine s1 hF219 70 (.bool (decide (x69 < (r188.1.length : Int)))) ?_; intro a225 hF226; clear hF219
  refine nlH (hQ224 _ _ ?_); clear hQ224 hQ224Q
  refine wp_seq ?_
  refine cd hF226 (t := decide (x69 < (r188.1.length : Int))) (by kernel_rfl) (fun hb227 => ?_) (fun hb227 => ?_)
  · -- yes
   have hp228 := hp221.1 hb227; clear hp221
   refine wp_skip ?_
   refine thn ?_
   have hF229 : Fr 119 [] [⟨0, [], .pointer (some ⟨b1, 0, none⟩)⟩, ⟨2, [], str (u0.Reader.Row.take u0.Reader.At.toNat)⟩, ⟨6, [], str ((sfixedS ((fcountS (w64 (((u0.Reader.Row.take u0.Reader.At.toNat).length : Int) - ((fheadS u0.f).length : Int)))) ++ ((csumS (fkind u0.f) ((u0.Reader.Row.take u0.Reader.At.toNat) ++ (fcountS (w64 (((u0.Reader.Row.take u0.Reader.At.toNat).length : Int) - ((fheadS u0.f).length : Int)))))).1)) (c151.toNat : Int)).1)⟩, ⟨8, [], str r188.1⟩, ⟨68, [], .int .i64 (r188.1.length : Int)⟩, ⟨69, [], .int .i64 x69⟩] a225 := hF226.region (by kernel_rfl) (by kernel_rfl); clear hF226
   have hF231 : Fr 119 [] [⟨0, [], .pointer (some ⟨b1, 0, none⟩)⟩, ⟨2, [], str (u0.Reader.Row.take u0.Reader.At.toNat)⟩, ⟨6, [], str ((sfixedS ((fcountS (w64 (((u0.Reader.Row.take u0.Reader.At.toNat).length : Int) - ((fheadS u0.f).length : Int)))) ++ ((csumS (fkind u0.f) ((u0.Reader.Row.take u0.Reader.At.toNat) ++ (fcountS (w64 (((u0.Reader.Row.take u0.Reader.At.toNat).length : Int) - ((fheadS u0.f).length : Int)))))).1)) (c151.toNat : Int)).1)⟩, ⟨8, [], str r188.1⟩, ⟨68, [], .int .i64 (r188.1.length : Int)⟩, ⟨69, [], .int .i64 x69⟩] a225 := hF229.region (by kernel_rfl) (by kernel_rfl); clear hF229
   obtain ⟨inv230, hp232, hp233⟩ := hp228
   refine wp_seq_k fun KJ234 hKJ235 => ?_
   have hJ236 : ∀ (yb1v : FReader) (aoyb1v_0 : Option Addr) (capyb1v_0 : Nat) (ZJ230 : Fz), inv230 yb1v ∧ SlR (tyInt .u8) ZJ230 aoyb1v_0 capyb1v_0 yb1v.f.Data ∧ Fz.le ZL209 ZJ230 → ∀ a1 w1, Fr 119 [] [⟨0, [], .pointer (some ⟨b1, 0, none⟩)⟩, ⟨2, [], str (u0.Reader.Row.take u0.Reader.At.toNat)⟩, ⟨6, [], str ((sfixedS ((fcountS (w64 (((u0.Reader.Row.take u0.Reader.At.toNat).length : Int) - ((fheadS u0.f).length : Int)))) ++ ((csumS (fkind u0.f) ((u0.Reader.Row.take u0.Reader.At.toNat) ++ (fcountS (w64 (((u0.Reader.Row.take u0.Reader.At.toNat).length : Int) - ((fheadS u0.f).length : Int)))))).1)) (c151.toNat : Int)).1)⟩, ⟨8, [], str r188.1⟩, ⟨68, [], .int .i64 (r188.1.length : Int)⟩, ⟨69, [], .int .i64 x69⟩] a1 → Mem B [] w0 Z0 ((.row b1 [str yb1v.Reader.Row, .int .i64 yb1v.Reader.At, .int .i64 yb1v.Reader.Code, .int .u8 yb1v.Reader.c.last, .int .i64 yb1v.Reader.c.n, .int .i64 yb1v.f.ID, .bool yb1v.f.Long, .bool yb1v.f.Fast, .bool yb1v.f.Remote, .int .i64 yb1v.f.Size, .slice aoyb1v_0 yb1v.f.Data.length capyb1v_0] 64) :: Rr) ZJ230 w1 → KJ234 a1 w1 := by
    rintro yb1v aoyb1v_0 capyb1v_0 ZJ230 ⟨hI241, hsyb1v_0, hleJ230⟩ a237 wd238 hF239 hM240; clear hF231 hM220
    refine hKJ235 _ _ ?_; clear hKJ235
    have hp242 := hp233 yb1v hI241
    replace hle0 := Fz.le.trans hle0 hleJ230
    have hs243 := hs222.mono hleJ230
    have hs244 := hs223.mono hleJ230
    have hs245 := hsyb1_0.mono hleJ230
    have hs246 := hleL209.mono hleJ230
    refine rgH ?_; intro hQ247Q hQ247
    refine s1 hF239 105 (.int .i64 (w64 (x69 + 1))) ?_; intro a248 hF249; clear hF239
    refine s1 hF249 69 (.int .i64 (w64 (x69 + 1))) ?_; intro a250 hF251; clear hF249
    refine nlH (hQ247 _ _ ?_); clear hQ247 hQ247Q
    refine rd ?_
    exact ⟨⟨w64 (x69 + 1), yb1v, aoyb1v_0, capyb1v_0, ZJ230⟩, ⟨hp242.1, hsyb1v_0, hs246⟩, hp242.2, (hF251.region (by kernel_rfl) (by kernel_rfl)).anyβ _ (by kernel_rfl), hM240.keep (List.Sublist.cons_cons _ (List.Sublist.refl _))⟩
   have hle252 := Fz.le.refl ZL209
   refine wp_block ?_
   refine sqH ?_; intro hQ253Q hQ253
   refine s1 hF231 71 (.int .i64 x69) ?_; intro a254 hF255; clear hF231
   refine s1 hF255 9 (.int .i64 x69) ?_; intro a256 hF257; clear hF255
   refine nlH (hQ253 _ _ ?_); clear hQ253 hQ253Q
   have hF258 : Fr 119 [] [⟨0, [], .pointer (some ⟨b1, 0, none⟩)⟩, ⟨2, [], str (u0.Reader.Row.take u0.Reader.At.toNat)⟩, ⟨6, [], str ((sfixedS ((fcountS (w64 (((u0.Reader.Row.take u0.Reader.At.toNat).length : Int) - ((fheadS u0.f).length : Int)))) ++ ((csumS (fkind u0.f) ((u0.Reader.Row.take u0.Reader.At.toNat) ++ (fcountS (w64 (((u0.Reader.Row.take u0.Reader.At.toNat).length : Int) - ((fheadS u0.f).length : Int)))))).1)) (c151.toNat : Int)).1)⟩, ⟨8, [], str r188.1⟩, ⟨9, [], .int .i64 x69⟩, ⟨68, [], .int .i64 (r188.1.length : Int)⟩, ⟨69, [], .int .i64 x69⟩] a256 := hF257.region (by kernel_rfl) (by kernel_rfl); clear hF257
   refine sqQH mixed (by kernel_rfl) hM220 ?_; intro hQ259Q hQ259
   refine q1 hF258 72 (.int .i64 x69) ?_; intro a261 hF262; clear hF258
   refine q1 hF262 73 (.int .i64 (x69.tmod 5)) ?_; intro a264 hF265; clear hF262
   refine q1 hF265 74 (.bool ((x69.tmod 5) == 0)) ?_; intro a267 hF268; clear hF265
   refine q1 hF268 75 (.bool ((x69.tmod 5) == 0)) ?_; intro a270 hF271; clear hF268
   have hF272 := hF271.atom (((x69.tmod 5) == 0) == true) (by kernel_rfl); clear hF271
   refine qgd hF272 (.int .i64 x69) (m := 0) (cj := []) (bj := (x69.tmod 5) == 0) rfl rfl (by kernel_rfl) rfl (by kernel_rfl) (by kernel_rfl) (by kernel_rfl) (fun hg => qat_ok (fun v273 hC => pu hF272 (g := [0]) (by kernel_rfl) hg)) ?_; intro a274 hF275; clear hF272
   refine qgd hF275 (.bool (decide (x69 > 0))) (m := 0) (cj := []) (bj := (x69.tmod 5) == 0) rfl rfl (by kernel_rfl) rfl (by kernel_rfl) (by kernel_rfl) (by kernel_rfl) (fun hg => qat_ok (fun v276 hC => pu hF275 (g := [0]) (by kernel_rfl) hg)) ?_; intro a277 hF278; clear hF275
   refine qst hF278 (.bool (((x69.tmod 5) == 0) && (decide (x69 > 0)))) (nog rfl _) rfl (by kernel_rfl) (fun v279 hC => pk_and hF278 (g := []) (m := 0) (b := (x69.tmod 5) == 0) (v := decide (x69 > 0)) rfl (by kernel_rfl) (by kernel_rfl) (by kernel_rfl) rfl) ?_; intro a280 hF281; clear hF278
   refine q1 hF281 79 (.bool (((x69.tmod 5) == 0) && (decide (x69 > 0)))) ?_; intro a283 hF284; clear hF281
   have hF285 := hF284.atom ((((x69.tmod 5) == 0) && (decide (x69 > 0))) == true) (by kernel_rfl); clear hF284
   refine qgd hF285 (str r188.1) (m := 1) (cj := []) (bj := ((x69.tmod 5) == 0) && (decide (x69 > 0))) rfl rfl (by kernel_rfl) rfl (by kernel_rfl) (by kernel_rfl) (by kernel_rfl) (fun hg => qat_ok (fun v286 hC => pu hF285 (g := [1]) (by kernel_rfl) hg)) ?_; intro a287 hF288; clear hF285
   refine qgd hF288 (.int .i64 x69) (m := 1) (cj := []) (bj := ((x69.tmod 5) == 0) && (decide (x69 > 0))) rfl rfl (by kernel_rfl) rfl (by kernel_rfl) (by kernel_rfl) (by kernel_rfl) (fun hg => qat_ok (fun v289 hC => pu hF288 (g := [1]) (by kernel_rfl) hg)) ?_; intro a290 hF291; clear hF288
   rcases Bool.eq_false_or_eq_true (((x69.tmod 5) == 0) && (decide (x69 > 0))) with hb292 | hb292
   · -- true
    have hp293 := hp232.1 hb292; clear hp232
    have hF294 := hF291.reval (d := 79) (c := []) (v := .bool (((x69.tmod 5) == 0) && (decide (x69 > 0)))) (by kernel_rfl) (.bool true) (by rw [hb292]); clear hF291
    have hF295 := hF294.setc (d := 80) (c := [1]) (v := str r188.1) (by kernel_rfl) (v' := str r188.1) (by rw [hb292]; kernel_rfl); clear hF294
    have hF296 := hF295.setc (d := 81) (c := [1]) (v := .int .i64 x69) (by kernel_rfl) (v' := .int .i64 x69) (by rw [hb292]; kernel_rfl); clear hF295
    have hc298 := hp293.1; have hp299 := hp293.2; clear hp293
    obtain ⟨c300, hq301⟩ : ∃ q, r188.1[x69.toNat]? = some q := ⟨_, List.getElem?_eq_getElem (by omega)⟩; have hp302 := hp299 c300 hq301
    refine qst hF296 (.int .u8 (c300.toNat : Int)) (by rw [wanted_of hF296 (b := true) rfl rfl (by kernel_rfl) (by kernel_rfl)]; rfl) rfl (by kernel_rfl) (fun v297 hC => stridx_run hF296 (k := .i64) rfl (by kernel_rfl) (by kernel_rfl) (by kernel_rfl) hc298.1 hq301) ?_; intro a303 hF304; clear hF296
    refine qst hF304 (str r188.1) (by rw [wanted_of hF304 (b := true) rfl rfl (by kernel_rfl) (by kernel_rfl)]; rfl) rfl (by kernel_rfl) (fun v305 hC => p0 hF304 (by kernel_rfl)) ?_; intro a306 hF307; clear hF304
    refine qst hF307 (.int .i64 x69) (by rw [wanted_of hF307 (b := true) rfl rfl (by kernel_rfl) (by kernel_rfl)]; rfl) rfl (by kernel_rfl) (fun v308 hC => p0 hF307 (by kernel_rfl)) ?_; intro a309 hF310; clear hF307
    refine qst hF310 (.int .i64 (w64 (x69 - 1))) (by rw [wanted_of hF310 (b := true) rfl rfl (by kernel_rfl) (by kernel_rfl)]; rfl) rfl (by kernel_rfl) (fun v311 hC => p0 hF310 (by kernel_rfl)) ?_; intro a312 hF313; clear hF310
    have hc315 := hp302.1; have hp316 := hp302.2; clear hp302
    obtain ⟨c317, hq318⟩ : ∃ q, r188.1[(w64 (x69 - 1)).toNat]? = some q := ⟨_, List.getElem?_eq_getElem (by omega)⟩; have hp319 := hp316 c317 hq318
    refine qst hF313 (.int .u8 (c317.toNat : Int)) (by rw [wanted_of hF313 (b := true) rfl rfl (by kernel_rfl) (by kernel_rfl)]; rfl) rfl (by kernel_rfl) (fun v314 hC => stridx_run hF313 (k := .i64) rfl (by kernel_rfl) (by kernel_rfl) (by kernel_rfl) hc315.1 hq318) ?_; intro a320 hF321; clear hF313
    refine qst hF321 (.bool ((c300.toNat : Int) == (c317.toNat : Int))) (by rw [wanted_of hF321 (b := true) rfl rfl (by kernel_rfl) (by kernel_rfl)]; rfl) rfl (by kernel_rfl) (fun v322 hC => p0 hF321 (by kernel_rfl)) ?_; intro a323 hF324; clear hF321
    refine q1 hF324 88 (.bool ((c300.toNat : Int) == (c317.toNat : Int))) ?_; intro a326 hF327; clear hF324
    refine q1 hF327 89 (.bool ((c300.toNat : Int) == (c317.toNat : Int))) ?_; intro a329 hF330; clear hF327
    have hF331 := hF330.atom (((c300.toNat : Int) == (c317.toNat : Int)) == false) (by kernel_rfl); clear hF330
    refine qgd hF331 (.int .i64 x69) (m := 2) (cj := []) (bj := (c300.toNat : Int) == (c317.toNat : Int)) rfl rfl (by kernel_rfl) rfl (by kernel_rfl) (by kernel_rfl) (by kernel_rfl) (fun hg => qat_ok (fun v332 hC => pu hF331 (g := [2]) (by kernel_rfl) hg)) ?_; intro a333 hF334; clear hF331
    refine qgd hF334 (.bool (x69 == 0)) (m := 2) (cj := []) (bj := (c300.toNat : Int) == (c317.toNat : Int)) rfl rfl (by kernel_rfl) rfl (by kernel_rfl) (by kernel_rfl) (by kernel_rfl) (fun hg => qat_ok (fun v335 hC => pu hF334 (g := [2]) (by kernel_rfl) hg)) ?_; intro a336 hF337; clear hF334
    refine qgd hF337 (.bool (x69 == 0)) (m := 2) (cj := []) (bj := (c300.toNat : Int) == (c317.toNat : Int)) rfl rfl (by kernel_rfl) rfl (by kernel_rfl) (by kernel_rfl) (by kernel_rfl) (fun hg => qat_ok (fun v338 hC => pu hF337 (g := [2]) (by kernel_rfl) hg)) ?_; intro a339 hF340; clear hF337
    have hF341 := hF340.atom ((x69 == 0) == true) (by kernel_rfl); clear hF340
    refine qgd hF341 (str r188.1) (m := 3) (cj := [2]) (bj := x69 == 0) rfl rfl (by kernel_rfl) rfl (by kernel_rfl) (by kernel_rfl) (by kernel_rfl) (fun hg => qat_ok (fun v342 hC => pu hF341 (g := [3, 2]) (by kernel_rfl) hg)) ?_; intro a343 hF344; clear hF341
    rcases Bool.eq_false_or_eq_true ((c300.toNat : Int) == (c317.toNat : Int)) with hb345 | hb345
    · -- true
     have hp346 := hp319.1 hb345; clear hp319
     have hF347 := hF344.reval (d := 89) (c := []) (v := .bool ((c300.toNat : Int) == (c317.toNat : Int))) (by kernel_rfl) (.bool true) (by rw [hb345]); clear hF344
     have hF348 := hF347.setc (d := 90) (c := [2]) (v := .int .i64 x69) (by kernel_rfl) (v' := undef) (by rw [hb345]; kernel_rfl); clear hF347
     have hF349 := hF348.setc (d := 91) (c := [2]) (v := .bool (x69 == 0)) (by kernel_rfl) (v' := undef) (by rw [hb345]; kernel_rfl); clear hF348
     have hF350 := hF349.setc (d := 92) (c := [2]) (v := .bool (x69 == 0)) (by kernel_rfl) (v' := undef) (by rw [hb345]; kernel_rfl); clear hF349
     refine qsku hF350 rfl rfl (by kernel_rfl) (by kernel_rfl) rfl (by kernel_rfl) ?_; intro a351 hF352; clear hF350
     refine qsku hF352 rfl rfl (by kernel_rfl) (by kernel_rfl) rfl (by kernel_rfl) ?_; intro a353 hF354; clear hF352
     refine qsku hF354 rfl rfl (by kernel_rfl) (by kernel_rfl) rfl (by kernel_rfl) ?_; intro a355 hF356; clear hF354
     refine qsku hF356 rfl rfl (by kernel_rfl) (by kernel_rfl) rfl (by kernel_rfl) ?_; intro a357 hF358; clear hF356
     refine qsku hF358 rfl rfl (by kernel_rfl) (by kernel_rfl) rfl (by kernel_rfl) ?_; intro a359 hF360; clear hF358
     refine qsku hF360 rfl rfl (by kernel_rfl) (by kernel_rfl) rfl (by kernel_rfl) ?_; intro a361 hF362; clear hF360
     refine qsku hF362 rfl rfl (by kernel_rfl) (by kernel_rfl) rfl (by kernel_rfl) ?_; intro a363 hF364; clear hF362
     refine qsk hF364 (b := true) rfl rfl (by kernel_rfl) (by kernel_rfl) rfl rfl (by kernel_rfl) ?_; intro a365 hF366; clear hF364
     refine q1 hF366 102 (.bool true) ?_; intro a368 hF369; clear hF366
     refine qnl (hQ259 _ ?_); clear hQ259 hQ259Q; intro wd370 hM371; clear hM220
     refine cdT hF369 (by kernel_rfl) ?_
     have hF372 : Fr 119 [] [⟨0, [], .pointer (some ⟨b1, 0, none⟩)⟩, ⟨2, [], str (u0.Reader.Row.take u0.Reader.At.toNat)⟩, ⟨6, [], str ((sfixedS ((fcountS (w64 (((u0.Reader.Row.take u0.Reader.At.toNat).length : Int) - ((fheadS u0.f).length : Int)))) ++ ((csumS (fkind u0.f) ((u0.Reader.Row.take u0.Reader.At.toNat) ++ (fcountS (w64 (((u0.Reader.Row.take u0.Reader.At.toNat).length : Int) - ((fheadS u0.f).length : Int)))))).1)) (c151.toNat : Int)).1)⟩, ⟨8, [], str r188.1⟩, ⟨68, [], .int .i64 (r188.1.length : Int)⟩, ⟨69, [], .int .i64 x69⟩] a368 := hF369.region (by kernel_rfl) (by kernel_rfl); clear hF369
     refine rgH ?_; intro hQ373Q hQ373
     refine s1 hF372 103 (.pointer (some ⟨b1, 0, none⟩)) ?_; intro a374 hF375; clear hF372
     refine cl hF375 39 #[.pointer (some ⟨b1, 0, none⟩), .int .i64 5] (nog rfl _) rfl (by kernel_rfl) (by kernel_rfl) ?_
     obtain ⟨r380, hr381⟩ : ∃ x, (rfailS yb1 5) = x := ⟨_, rfl⟩; have hp382 := hp346 r380 hr381; clear hp346
     have h9 := rfail_fun yb1 5 b1 aoyb1_0 capyb1_0 _ _ _ _ _ _ hsyb1_0 hM371 hM371.fz; rw [hr381] at h9; refine h9.mono ?_; clear h9; rintro _ wd376 ⟨ao384, cap385, Z387, rfl, hle388, hs386, hm⟩; refine ⟨_, rfl, ?_⟩; intro a377 hF378; have hM379 := hm; clear hm hM371 hF375
     replace hs222 := hs222.mono hle388
     replace hs223 := hs223.mono hle388
     replace hsyb1_0 := hsyb1_0.mono hle388
     replace hleL209 := hleL209.mono hle388
     replace hle252 := hle252.mono hle388
     replace hle0 := Fz.le.trans hle0 hle388
     have hM389 : Mem B [] w0 Z0 ((.row b1 [str r380.Reader.Row, .int .i64 r380.Reader.At, .int .i64 r380.Reader.Code, .int .u8 r380.Reader.c.last, .int .i64 r380.Reader.c.n, .int .i64 r380.f.ID, .bool r380.f.Long, .bool r380.f.Fast, .bool r380.f.Remote, .int .i64 r380.f.Size, .slice ao384 r380.f.Data.length cap385] 64) :: Rr) Z387 wd376 := hM379; clear hM379
     have hp390 := hp382 (hs386.small); clear hp382
     refine nlH (hQ373 _ _ ?_); clear hQ373 hQ373Q
     refine ibn ?_
     refine rd ?_
     exact hJ236 r380 ao384 cap385 Z387 ⟨hp390, hs386, hle252⟩ _ _ ((hF378.region (by kernel_rfl) (by kernel_rfl)).anyβ _ (by kernel_rfl)) (hM389.keep (List.Sublist.cons_cons _ (List.Sublist.refl _)))
    · -- false
     have hp391 := hp319.2 hb345; clear hp319
     have hF392 := hF344.reval (d := 89) (c := []) (v := .bool ((c300.toNat : Int) == (c317.toNat : Int))) (by kernel_rfl) (.bool false) (by rw [hb345]); clear hF344
     have hF393 := hF392.setc (d := 90) (c := [2]) (v := .int .i64 x69) (by kernel_rfl) (v' := .int .i64 x69) (by rw [hb345]; kernel_rfl); clear hF392
     have hF394 := hF393.setc (d := 91) (c := [2]) (v := .bool (x69 == 0)) (by kernel_rfl) (v' := .bool (x69 == 0)) (by rw [hb345]; kernel_rfl); clear hF393
     have hF395 := hF394.setc (d := 92) (c := [2]) (v := .bool (x69 == 0)) (by kernel_rfl) (v' := .bool (x69 == 0)) (by rw [hb345]; kernel_rfl); clear hF394
     rcases Bool.eq_false_or_eq_true (x69 == 0) with hb396 | hb396
     · -- true
      have hp397 := hp391.1 hb396; clear hp391
      have hF398 := hF395.reval (d := 92) (c := []) (v := .bool (x69 == 0)) (by kernel_rfl) (.bool true) (by rw [hb396]); clear hF395
      have hF399 := hF398.setc (d := 93) (c := [3, 2]) (v := str r188.1) (by kernel_rfl) (v' := str r188.1) (by rw [hb396, hb345]; kernel_rfl); clear hF398
      have hc401 := hp397.1; have hp402 := hp397.2; clear hp397
      obtain ⟨c403, hq404⟩ : ∃ q, r188.1[(0 : Int).toNat]? = some q := ⟨_, List.getElem?_eq_getElem (by omega)⟩; have hp405 := hp402 c403 hq404
      refine qst hF399 (.int .u8 (c403.toNat : Int)) (by rw [wanted_of hF399 (b := true) rfl rfl (by kernel_rfl) (by kernel_rfl)]; rfl) rfl (by kernel_rfl) (fun v400 hC => stridx_run hF399 (k := .i64) rfl (by kernel_rfl) (by kernel_rfl) (by kernel_rfl) hc401.1 hq404) ?_; intro a406 hF407; clear hF399
      refine qst hF407 (str (u0.Reader.Row.take u0.Reader.At.toNat)) (by rw [wanted_of hF407 (b := true) rfl rfl (by kernel_rfl) (by kernel_rfl)]; rfl) rfl (by kernel_rfl) (fun v408 hC => p0 hF407 (by kernel_rfl)) ?_; intro a409 hF410; clear hF407
      refine qst hF410 (str (u0.Reader.Row.take u0.Reader.At.toNat)) (by rw [wanted_of hF410 (b := true) rfl rfl (by kernel_rfl) (by kernel_rfl)]; rfl) rfl (by kernel_rfl) (fun v411 hC => p0 hF410 (by kernel_rfl)) ?_; intro a412 hF413; clear hF410
      refine qst hF413 (.int .i64 ((u0.Reader.Row.take u0.Reader.At.toNat).length : Int)) (by rw [wanted_of hF413 (b := true) rfl rfl (by kernel_rfl) (by kernel_rfl)]; rfl) rfl (by kernel_rfl) (fun v414 hC => p0 hF413 (by kernel_rfl)) ?_; intro a415 hF416; clear hF413
      refine qst hF416 (.int .i64 (w64 (((u0.Reader.Row.take u0.Reader.At.toNat).length : Int) - 1))) (by rw [wanted_of hF416 (b := true) rfl rfl (by kernel_rfl) (by kernel_rfl)]; rfl) rfl (by kernel_rfl) (fun v417 hC => p0 hF416 (by kernel_rfl)) ?_; intro a418 hF419; clear hF416
      have hc421 := hp405.1; have hp422 := hp405.2; clear hp405
      obtain ⟨c423, hq424⟩ : ∃ q, (u0.Reader.Row.take u0.Reader.At.toNat)[(w64 (((u0.Reader.Row.take u0.Reader.At.toNat).length : Int) - 1)).toNat]? = some q := ⟨_, List.getElem?_eq_getElem (by omega)⟩; have hp425 := hp422 c423 hq424
      refine qst hF419 (.int .u8 (c423.toNat : Int)) (by rw [wanted_of hF419 (b := true) rfl rfl (by kernel_rfl) (by kernel_rfl)]; rfl) rfl (by kernel_rfl) (fun v420 hC => stridx_run hF419 (k := .i64) rfl (by kernel_rfl) (by kernel_rfl) (by kernel_rfl) hc421.1 hq424) ?_; intro a426 hF427; clear hF419
      refine qst hF427 (.bool ((c403.toNat : Int) == (c423.toNat : Int))) (by rw [wanted_of hF427 (b := true) rfl rfl (by kernel_rfl) (by kernel_rfl)]; rfl) rfl (by kernel_rfl) (fun v428 hC => p0 hF427 (by kernel_rfl)) ?_; intro a429 hF430; clear hF427
      refine qst hF430 (.bool ((c403.toNat : Int) == (c423.toNat : Int))) (by rw [wanted_of hF430 (b := false) rfl rfl (by kernel_rfl) (by kernel_rfl)]; rfl) rfl (by kernel_rfl) (fun v431 hC => p0 hF430 (by kernel_rfl)) ?_; intro a432 hF433; clear hF430
      refine q1 hF433 102 (.bool ((c403.toNat : Int) == (c423.toNat : Int))) ?_; intro a435 hF436; clear hF433
      refine qnl (hQ259 _ ?_); clear hQ259 hQ259Q; intro wd437 hM438; clear hM220
      refine cd hF436 (t := (c403.toNat : Int) == (c423.toNat : Int)) (by kernel_rfl) (fun hb439 => ?_) (fun hb439 => ?_)
      · -- yes
       have hp440 := hp425.1 hb439; clear hp425
       have hF441 : Fr 119 [] [⟨0, [], .pointer (some ⟨b1, 0, none⟩)⟩, ⟨2, [], str (u0.Reader.Row.take u0.Reader.At.toNat)⟩, ⟨6, [], str ((sfixedS ((fcountS (w64 (((u0.Reader.Row.take u0.Reader.At.toNat).length : Int) - ((fheadS u0.f).length : Int)))) ++ ((csumS (fkind u0.f) ((u0.Reader.Row.take u0.Reader.At.toNat) ++ (fcountS (w64 (((u0.Reader.Row.take u0.Reader.At.toNat).length : Int) - ((fheadS u0.f).length : Int)))))).1)) (c151.toNat : Int)).1)⟩, ⟨8, [], str r188.1⟩, ⟨68, [], .int .i64 (r188.1.length : Int)⟩, ⟨69, [], .int .i64 x69⟩] a435 := hF436.region (by kernel_rfl) (by kernel_rfl); clear hF436
       refine rgH ?_; intro hQ442Q hQ442
       refine s1 hF441 103 (.pointer (some ⟨b1, 0, none⟩)) ?_; intro a443 hF444; clear hF441
       refine cl hF444 39 #[.pointer (some ⟨b1, 0, none⟩), .int .i64 5] (nog rfl _) rfl (by kernel_rfl) (by kernel_rfl) ?_
       obtain ⟨r449, hr450⟩ : ∃ x, (rfailS yb1 5) = x := ⟨_, rfl⟩; have hp451 := hp440 r449 hr450; clear hp440
       have h9 := rfail_fun yb1 5 b1 aoyb1_0 capyb1_0 _ _ _ _ _ _ hsyb1_0 hM438 hM438.fz; rw [hr450] at h9; refine h9.mono ?_; clear h9; rintro _ wd445 ⟨ao453, cap454, Z456, rfl, hle457, hs455, hm⟩; refine ⟨_, rfl, ?_⟩; intro a446 hF447; have hM448 := hm; clear hm hM438 hF444
       replace hs222 := hs222.mono hle457
       replace hs223 := hs223.mono hle457
       replace hsyb1_0 := hsyb1_0.mono hle457
       replace hleL209 := hleL209.mono hle457
       replace hle252 := hle252.mono hle457
       replace hle0 := Fz.le.trans hle0 hle457
       have hM458 : Mem B [] w0 Z0 ((.row b1 [str r449.Reader.Row, .int .i64 r449.Reader.At, .int .i64 r449.Reader.Code, .int .u8 r449.Reader.c.last, .int .i64 r449.Reader.c.n, .int .i64 r449.f.ID, .bool r449.f.Long, .bool r449.f.Fast, .bool r449.f.Remote, .int .i64 r449.f.Size, .slice ao453 r449.f.Data.length cap454] 64) :: Rr) Z456 wd445 := hM448; clear hM448
       have hp459 := hp451 (hs455.small); clear hp451
       refine nlH (hQ442 _ _ ?_); clear hQ442 hQ442Q
       refine ibn ?_
       refine rd ?_
       exact hJ236 r449 ao453 cap454 Z456 ⟨hp459, hs455, hle252⟩ _ _ ((hF447.region (by kernel_rfl) (by kernel_rfl)).anyβ _ (by kernel_rfl)) (hM458.keep (List.Sublist.cons_cons _ (List.Sublist.refl _)))
      · -- no
       have hp460 := hp425.2 hb439; clear hp425
       refine wp_skip ?_
       refine ibn ?_
       refine rd ?_
       exact hJ236 yb1 aoyb1_0 capyb1_0 ZL209 ⟨hp460, hsyb1_0, hle252⟩ _ _ ((hF436.region (by kernel_rfl) (by kernel_rfl)).anyβ _ (by kernel_rfl)) (hM438.keep (List.Sublist.cons_cons _ (List.Sublist.refl _)))
     · -- false
      have hp461 := hp391.2 hb396; clear hp391
      have hF462 := hF395.reval (d := 92) (c := []) (v := .bool (x69 == 0)) (by kernel_rfl) (.bool false) (by rw [hb396]); clear hF395
      have hF463 := hF462.setc (d := 93) (c := [3, 2]) (v := str r188.1) (by kernel_rfl) (v' := undef) (by rw [hb396, hb345]; kernel_rfl); clear hF462
      refine qsk hF463 (b := false) rfl rfl (by kernel_rfl) (by kernel_rfl) rfl rfl (by kernel_rfl) ?_; intro a464 hF465; clear hF463
      refine qsk hF465 (b := false) rfl rfl (by kernel_rfl) (by kernel_rfl) rfl rfl (by kernel_rfl) ?_; intro a466 hF467; clear hF465
      refine qsk hF467 (b := false) rfl rfl (by kernel_rfl) (by kernel_rfl) rfl rfl (by kernel_rfl) ?_; intro a468 hF469; clear hF467
      refine qsk hF469 (b := false) rfl rfl (by kernel_rfl) (by kernel_rfl) rfl rfl (by kernel_rfl) ?_; intro a470 hF471; clear hF469
      refine qsk hF471 (b := false) rfl rfl (by kernel_rfl) (by kernel_rfl) rfl rfl (by kernel_rfl) ?_; intro a472 hF473; clear hF471
      refine qsk hF473 (b := false) rfl rfl (by kernel_rfl) (by kernel_rfl) rfl rfl (by kernel_rfl) ?_; intro a474 hF475; clear hF473
      refine qsk hF475 (b := false) rfl rfl (by kernel_rfl) (by kernel_rfl) rfl rfl (by kernel_rfl) ?_; intro a476 hF477; clear hF475
      refine qst hF477 (.bool false) (by rw [wanted_of hF477 (b := false) rfl rfl (by kernel_rfl) (by kernel_rfl)]; rfl) rfl (by kernel_rfl) (fun v478 hC => p0 hF477 (by kernel_rfl)) ?_; intro a479 hF480; clear hF477
      refine q1 hF480 102 (.bool false) ?_; intro a482 hF483; clear hF480
      refine qnl (hQ259 _ ?_); clear hQ259 hQ259Q; intro wd484 hM485; clear hM220
      refine cdF hF483 (by kernel_rfl) ?_
      refine wp_skip ?_
      refine ibn ?_
      refine rd ?_
      exact hJ236 yb1 aoyb1_0 capyb1_0 ZL209 ⟨hp461, hsyb1_0, hle252⟩ _ _ ((hF483.region (by kernel_rfl) (by kernel_rfl)).anyβ _ (by kernel_rfl)) (hM485.keep (List.Sublist.cons_cons _ (List.Sublist.refl _)))
   · -- false
    have hp486 := hp232.2 hb292; clear hp232
    have hF487 := hF291.reval (d := 79) (c := []) (v := .bool (((x69.tmod 5) == 0) && (decide (x69 > 0)))) (by kernel_rfl) (.bool false) (by rw [hb292]); clear hF291
    have hF488 := hF487.setc (d := 80) (c := [1]) (v := str r188.1) (by kernel_rfl) (v' := undef) (by rw [hb292]; kernel_rfl); clear hF487
    have hF489 := hF488.setc (d := 81) (c := [1]) (v := .int .i64 x69) (by kernel_rfl) (v' := undef) (by rw [hb292]; kernel_rfl); clear hF488
    refine qsk hF489 (b := false) rfl rfl (by kernel_rfl) (by kernel_rfl) rfl rfl (by kernel_rfl) ?_; intro a490 hF491; clear hF489
    refine qsk hF491 (b := false) rfl rfl (by kernel_rfl) (by kernel_rfl) rfl rfl (by kernel_rfl) ?_; intro a492 hF493; clear hF491
    refine qsk hF493 (b := false) rfl rfl (by kernel_rfl) (by kernel_rfl) rfl rfl (by kernel_rfl) ?_; intro a494 hF495; clear hF493
    refine qsk hF495 (b := false) rfl rfl (by kernel_rfl) (by kernel_rfl) rfl rfl (by kernel_rfl) ?_; intro a496 hF497; clear hF495
    refine qsk hF497 (b := false) rfl rfl (by kernel_rfl) (by kernel_rfl) rfl rfl (by kernel_rfl) ?_; intro a498 hF499; clear hF497
    refine qsk hF499 (b := false) rfl rfl (by kernel_rfl) (by kernel_rfl) rfl rfl (by kernel_rfl) ?_; intro a500 hF501; clear hF499
    refine q1 hF501 88 (.bool false) ?_; intro a503 hF504; clear hF501
    refine q1 hF504 89 (.bool false) ?_; intro a506 hF507; clear hF504
    refine qst hF507 (.int .i64 x69) (by rw [wanted_of hF507 (b := false) rfl rfl (by kernel_rfl) (by kernel_rfl)]; rfl) rfl (by kernel_rfl) (fun v508 hC => p0 hF507 (by kernel_rfl)) ?_; intro a509 hF510; clear hF507
    refine qst hF510 (.bool (x69 == 0)) (by rw [wanted_of hF510 (b := false) rfl rfl (by kernel_rfl) (by kernel_rfl)]; rfl) rfl (by kernel_rfl) (fun v511 hC => p0 hF510 (by kernel_rfl)) ?_; intro a512 hF513; clear hF510
    refine qst hF513 (.bool (x69 == 0)) (by rw [wanted_of hF513 (b := false) rfl rfl (by kernel_rfl) (by kernel_rfl)]; rfl) rfl (by kernel_rfl) (fun v514 hC => p0 hF513 (by kernel_rfl)) ?_; intro a515 hF516; clear hF513
    have hF517 := hF516.atom ((x69 == 0) == true) (by kernel_rfl); clear hF516
    refine qgd hF517 (str r188.1) (m := 2) (cj := []) (bj := x69 == 0) rfl rfl (by kernel_rfl) rfl (by kernel_rfl) (by kernel_rfl) (by kernel_rfl) (fun hg => qat_ok (fun v518 hC => pu hF517 (g := [2]) (by kernel_rfl) hg)) ?_; intro a519 hF520; clear hF517
    rcases Bool.eq_false_or_eq_true (x69 == 0) with hb521 | hb521
    · -- true
     have hp522 := hp486.1 hb521; clear hp486
     have hF523 := hF520.reval (d := 92) (c := []) (v := .bool (x69 == 0)) (by kernel_rfl) (.bool true) (by rw [hb521]); clear hF520
     have hF524 := hF523.setc (d := 93) (c := [2]) (v := str r188.1) (by kernel_rfl) (v' := str r188.1) (by rw [hb521]; kernel_rfl); clear hF523
     have hc526 := hp522.1; have hp527 := hp522.2; clear hp522
     obtain ⟨c528, hq529⟩ : ∃ q, r188.1[(0 : Int).toNat]? = some q := ⟨_, List.getElem?_eq_getElem (by omega)⟩; have hp530 := hp527 c528 hq529
     refine qst hF524 (.int .u8 (c528.toNat : Int)) (by rw [wanted_of hF524 (b := true) rfl rfl (by kernel_rfl) (by kernel_rfl)]; rfl) rfl (by kernel_rfl) (fun v525 hC => stridx_run hF524 (k := .i64) rfl (by kernel_rfl) (by kernel_rfl) (by kernel_rfl) hc526.1 hq529) ?_; intro a531 hF532; clear hF524
     refine qst hF532 (str (u0.Reader.Row.take u0.Reader.At.toNat)) (by rw [wanted_of hF532 (b := true) rfl rfl (by kernel_rfl) (by kernel_rfl)]; rfl) rfl (by kernel_rfl) (fun v533 hC => p0 hF532 (by kernel_rfl)) ?_; intro a534 hF535; clear hF532
     refine qst hF535 (str (u0.Reader.Row.take u0.Reader.At.toNat)) (by rw [wanted_of hF535 (b := true) rfl rfl (by kernel_rfl) (by kernel_rfl)]; rfl) rfl (by kernel_rfl) (fun v536 hC => p0 hF535 (by kernel_rfl)) ?_; intro a537 hF538; clear hF535
     refine qst hF538 (.int .i64 ((u0.Reader.Row.take u0.Reader.At.toNat).length : Int)) (by rw [wanted_of hF538 (b := true) rfl rfl (by kernel_rfl) (by kernel_rfl)]; rfl) rfl (by kernel_rfl) (fun v539 hC => p0 hF538 (by kernel_rfl)) ?_; intro a540 hF541; clear hF538
     refine qst hF541 (.int .i64 (w64 (((u0.Reader.Row.take u0.Reader.At.toNat).length : Int) - 1))) (by rw [wanted_of hF541 (b := true) rfl rfl (by kernel_rfl) (by kernel_rfl)]; rfl) rfl (by kernel_rfl) (fun v542 hC => p0 hF541 (by kernel_rfl)) ?_; intro a543 hF544; clear hF541
     have hc546 := hp530.1; have hp547 := hp530.2; clear hp530
     obtain ⟨c548, hq549⟩ : ∃ q, (u0.Reader.Row.take u0.Reader.At.toNat)[(w64 (((u0.Reader.Row.take u0.Reader.At.toNat).length : Int) - 1)).toNat]? = some q := ⟨_, List.getElem?_eq_getElem (by omega)⟩; have hp550 := hp547 c548 hq549
     refine qst hF544 (.int .u8 (c548.toNat : Int)) (by rw [wanted_of hF544 (b := true) rfl rfl (by kernel_rfl) (by kernel_rfl)]; rfl) rfl (by kernel_rfl) (fun v545 hC => stridx_run hF544 (k := .i64) rfl (by kernel_rfl) (by kernel_rfl) (by kernel_rfl) hc546.1 hq549) ?_; intro a551 hF552; clear hF544
     refine qst hF552 (.bool ((c528.toNat : Int) == (c548.toNat : Int))) (by rw [wanted_of hF552 (b := true) rfl rfl (by kernel_rfl) (by kernel_rfl)]; rfl) rfl (by kernel_rfl) (fun v553 hC => p0 hF552 (by kernel_rfl)) ?_; intro a554 hF555; clear hF552
     refine qst hF555 (.bool ((c528.toNat : Int) == (c548.toNat : Int))) (by rw [wanted_of hF555 (b := false) rfl rfl (by kernel_rfl) (by kernel_rfl)]; rfl) rfl (by kernel_rfl) (fun v556 hC => p0 hF555 (by kernel_rfl)) ?_; intro a557 hF558; clear hF555
     refine q1 hF558 102 (.bool ((c528.toNat : Int) == (c548.toNat : Int))) ?_; intro a560 hF561; clear hF558
     refine qnl (hQ259 _ ?_); clear hQ259 hQ259Q; intro wd562 hM563; clear hM220
     refine cd hF561 (t := (c528.toNat : Int) == (c548.toNat : Int)) (by kernel_rfl) (fun hb564 => ?_) (fun hb564 => ?_)
     · -- yes
      have hp565 := hp550.1 hb564; clear hp550
      have hF566 : Fr 119 [] [⟨0, [], .pointer (some ⟨b1, 0, none⟩)⟩, ⟨2, [], str (u0.Reader.Row.take u0.Reader.At.toNat)⟩, ⟨6, [], str ((sfixedS ((fcountS (w64 (((u0.Reader.Row.take u0.Reader.At.toNat).length : Int) - ((fheadS u0.f).length : Int)))) ++ ((csumS (fkind u0.f) ((u0.Reader.Row.take u0.Reader.At.toNat) ++ (fcountS (w64 (((u0.Reader.Row.take u0.Reader.At.toNat).length : Int) - ((fheadS u0.f).length : Int)))))).1)) (c151.toNat : Int)).1)⟩, ⟨8, [], str r188.1⟩, ⟨68, [], .int .i64 (r188.1.length : Int)⟩, ⟨69, [], .int .i64 x69⟩] a560 := hF561.region (by kernel_rfl) (by kernel_rfl); clear hF561
      refine rgH ?_; intro hQ567Q hQ567
      refine s1 hF566 103 (.pointer (some ⟨b1, 0, none⟩)) ?_; intro a568 hF569; clear hF566
      refine cl hF569 39 #[.pointer (some ⟨b1, 0, none⟩), .int .i64 5] (nog rfl _) rfl (by kernel_rfl) (by kernel_rfl) ?_
      obtain ⟨r574, hr575⟩ : ∃ x, (rfailS yb1 5) = x := ⟨_, rfl⟩; have hp576 := hp565 r574 hr575; clear hp565
      have h9 := rfail_fun yb1 5 b1 aoyb1_0 capyb1_0 _ _ _ _ _ _ hsyb1_0 hM563 hM563.fz; rw [hr575] at h9; refine h9.mono ?_; clear h9; rintro _ wd570 ⟨ao578, cap579, Z581, rfl, hle582, hs580, hm⟩; refine ⟨_, rfl, ?_⟩; intro a571 hF572; have hM573 := hm; clear hm hM563 hF569
      replace hs222 := hs222.mono hle582
      replace hs223 := hs223.mono hle582
      replace hsyb1_0 := hsyb1_0.mono hle582
      replace hleL209 := hleL209.mono hle582
      replace hle252 := hle252.mono hle582
      replace hle0 := Fz.le.trans hle0 hle582
      have hM583 : Mem B [] w0 Z0 ((.row b1 [str r574.Reader.Row, .int .i64 r574.Reader.At, .int .i64 r574.Reader.Code, .int .u8 r574.Reader.c.last, .int .i64 r574.Reader.c.n, .int .i64 r574.f.ID, .bool r574.f.Long, .bool r574.f.Fast, .bool r574.f.Remote, .int .i64 r574.f.Size, .slice ao578 r574.f.Data.length cap579] 64) :: Rr) Z581 wd570 := hM573; clear hM573
      have hp584 := hp576 (hs580.small); clear hp576
      refine nlH (hQ567 _ _ ?_); clear hQ567 hQ567Q
      refine ibn ?_
      refine rd ?_
      exact hJ236 r574 ao578 cap579 Z581 ⟨hp584, hs580, hle252⟩ _ _ ((hF572.region (by kernel_rfl) (by kernel_rfl)).anyβ _ (by kernel_rfl)) (hM583.keep (List.Sublist.cons_cons _ (List.Sublist.refl _)))
     · -- no
      have hp585 := hp550.2 hb564; clear hp550
      refine wp_skip ?_
      refine ibn ?_
      refine rd ?_
      exact hJ236 yb1 aoyb1_0 capyb1_0 ZL209 ⟨hp585, hsyb1_0, hle252⟩ _ _ ((hF561.region (by kernel_rfl) (by kernel_rfl)).anyβ _ (by kernel_rfl)) (hM563.keep (List.Sublist.cons_cons _ (List.Sublist.refl _)))
    · -- false
     have hp586 := hp486.2 hb521; clear hp486
     have hF587 := hF520.reval (d := 92) (c := []) (v := .bool (x69 == 0)) (by kernel_rfl) (.bool false) (by rw [hb521]); clear hF520
     have hF588 := hF587.setc (d := 93) (c := [2]) (v := str r188.1) (by kernel_rfl) (v' := undef) (by rw [hb521]; kernel_rfl); clear hF587
     refine qsk hF588 (b := false) rfl rfl (by kernel_rfl) (by kernel_rfl) rfl rfl (by kernel_rfl) ?_; intro a589 hF590; clear hF588
     refine qsk hF590 (b := false) rfl rfl (by kernel_rfl) (by kernel_rfl) rfl rfl (by kernel_rfl) ?_; intro a591 hF592; clear hF590
     refine qsk hF592 (b := false) rfl rfl (by kernel_rfl) (by kernel_rfl) rfl rfl (by kernel_rfl) ?_; intro a593 hF594; clear hF592
     refine qsk hF594 (b := false) rfl rfl (by kernel_rfl) (by kernel_rfl) rfl rfl (by kernel_rfl) ?_; intro a595 hF596; clear hF594
     refine qsk hF596 (b := false) rfl rfl (by kernel_rfl) (by kernel_rfl) rfl rfl (by kernel_rfl) ?_; intro a597 hF598; clear hF596
     refine qsk hF598 (b := false) rfl rfl (by kernel_rfl) (by kernel_rfl) rfl rfl (by kernel_rfl) ?_; intro a599 hF600; clear hF598
     refine qsk hF600 (b := false) rfl rfl (by kernel_rfl) (by kernel_rfl) rfl rfl (by kernel_rfl) ?_; intro a601 hF602; clear hF600
     refine qst hF602 (.bool false) (by rw [wanted_of hF602 (b := false) rfl rfl (by kernel_rfl) (by kernel_rfl)]; rfl) rfl (by kernel_rfl) (fun v603 hC => p0 hF602 (by kernel_rfl)) ?_; intro a604 hF605; clear hF602
     refine q1 hF605 102 (.bool false) ?_; intro a607 hF608; clear hF605
     refine qnl (hQ259 _ ?_); clear hQ259 hQ259Q; intro wd609 hM610; clear hM220
     refine cdF hF608 (by kernel_rfl) ?_
     refine wp_skip ?_
     refine ibn ?_
     refine rd ?_
     exact hJ236 yb1 aoyb1_0 capyb1_0 ZL209 ⟨hp586, hsyb1_0, hle252⟩ _ _ ((hF608.region (by kernel_rfl) (by kernel_rfl)).anyβ _ (by kernel_rfl)) (hM610.keep (List.Sublist.cons_cons _ (List.Sublist.refl _)))
  · -- no
   have hp611 := hp221.2 hb227; clear hp221
   refine wp_exit ?_
   refine thx ?_
   refine thx ?_
   refine ibx ?_
   refine thn ?_
   refine sqH ?_; intro hQ612Q hQ612
   refine s1 hF226 106 (.pointer (some ⟨b1, 0, none⟩)) ?_; intro a613 hF614; clear hF226
   refine s1 hF614 107 (.pointer (some ⟨b1, 0, none⟩)) ?_; intro a615 hF616; clear hF614
   refine s1 hF616 108 (.pointer (some ⟨b1, 0, none⟩)) ?_; intro a617 hF618; clear hF616
   refine s1 hF618 109 (.pointer (some ⟨b1, 2, none⟩)) ?_; intro a619 hF620; clear hF618
   refine l1 hF620 hM220 110 0 2 (.int .i64 yb1.Reader.Code) rfl rfl ?_; intro a621 hF622; clear hF620
   refine s1 hF622 111 (.bool (yb1.Reader.Code == 0)) ?_; intro a623 hF624; clear hF622
   refine s1 hF624 112 (.bool (yb1.Reader.Code == 0)) ?_; intro a625 hF626; clear hF624
   have hF627 := hF626.atom ((yb1.Reader.Code == 0) == true) (by kernel_rfl); clear hF626
   refine gp hF627 113 0 [] (yb1.Reader.Code == 0) (str r188.1) rfl rfl ?_; intro a628 hF629; clear hF627
   refine gp hF629 114 0 [] (yb1.Reader.Code == 0) (str ((sfixedS ((fcountS (w64 (((u0.Reader.Row.take u0.Reader.At.toNat).length : Int) - ((fheadS u0.f).length : Int)))) ++ ((csumS (fkind u0.f) ((u0.Reader.Row.take u0.Reader.At.toNat) ++ (fcountS (w64 (((u0.Reader.Row.take u0.Reader.At.toNat).length : Int) - ((fheadS u0.f).length : Int)))))).1)) (c151.toNat : Int)).1)) rfl rfl ?_; intro a630 hF631; clear hF629
   refine gd hF631 (.bool (r188.1 != ((sfixedS ((fcountS (w64 (((u0.Reader.Row.take u0.Reader.At.toNat).length : Int) - ((fheadS u0.f).length : Int)))) ++ ((csumS (fkind u0.f) ((u0.Reader.Row.take u0.Reader.At.toNat) ++ (fcountS (w64 (((u0.Reader.Row.take u0.Reader.At.toNat).length : Int) - ((fheadS u0.f).length : Int)))))).1)) (c151.toNat : Int)).1))) (m := 0) (cj := []) (bj := yb1.Reader.Code == 0) rfl rfl (by kernel_rfl) rfl (by kernel_rfl) (by kernel_rfl) (by kernel_rfl) (fun hg => strcmp_run hF631 (g := [0]) (op := .neq) rfl (by kernel_rfl) (by kernel_rfl) (by decide) hg) ?_; intro a632 hF633; clear hF631
   refine st hF633 (.bool ((yb1.Reader.Code == 0) && (r188.1 != ((sfixedS ((fcountS (w64 (((u0.Reader.Row.take u0.Reader.At.toNat).length : Int) - ((fheadS u0.f).length : Int)))) ++ ((csumS (fkind u0.f) ((u0.Reader.Row.take u0.Reader.At.toNat) ++ (fcountS (w64 (((u0.Reader.Row.take u0.Reader.At.toNat).length : Int) - ((fheadS u0.f).length : Int)))))).1)) (c151.toNat : Int)).1)))) (nog rfl _) rfl (by kernel_rfl) (pk_and hF633 (g := []) (m := 0) (b := yb1.Reader.Code == 0) (v := r188.1 != ((sfixedS ((fcountS (w64 (((u0.Reader.Row.take u0.Reader.At.toNat).length : Int) - ((fheadS u0.f).length : Int)))) ++ ((csumS (fkind u0.f) ((u0.Reader.Row.take u0.Reader.At.toNat) ++ (fcountS (w64 (((u0.Reader.Row.take u0.Reader.At.toNat).length : Int) - ((fheadS u0.f).length : Int)))))).1)) (c151.toNat : Int)).1)) rfl (by kernel_rfl) (by kernel_rfl) (by kernel_rfl) rfl) ?_; intro a634 hF635; clear hF633
   refine nlH (hQ612 _ _ ?_); clear hQ612 hQ612Q
   refine cd hF635 (t := (yb1.Reader.Code == 0) && (r188.1 != ((sfixedS ((fcountS (w64 (((u0.Reader.Row.take u0.Reader.At.toNat).length : Int) - ((fheadS u0.f).length : Int)))) ++ ((csumS (fkind u0.f) ((u0.Reader.Row.take u0.Reader.At.toNat) ++ (fcountS (w64 (((u0.Reader.Row.take u0.Reader.At.toNat).length : Int) - ((fheadS u0.f).length : Int)))))).1)) (c151.toNat : Int)).1))) (by kernel_rfl) (fun hb636 => ?_) (fun hb636 => ?_)
   · -- yes
    have hp637 := hp611.1 hb636; clear hp611
    have hF638 : Fr 119 [] [⟨0, [], .pointer (some ⟨b1, 0, none⟩)⟩] a634 := hF635.region (by kernel_rfl) (by kernel_rfl); clear hF635
    refine rgH ?_; intro hQ639Q hQ639
    refine s1 hF638 117 (.pointer (some ⟨b1, 0, none⟩)) ?_; intro a640 hF641; clear hF638
    refine cl hF641 39 #[.pointer (some ⟨b1, 0, none⟩), .int .i64 6] (nog rfl _) rfl (by kernel_rfl) (by kernel_rfl) ?_
    obtain ⟨r646, hr647⟩ : ∃ x, (rfailS yb1 6) = x := ⟨_, rfl⟩; have hp648 := hp637 r646 hr647; clear hp637
    have h9 := rfail_fun yb1 6 b1 aoyb1_0 capyb1_0 _ _ _ _ _ _ hsyb1_0 hM220 hM220.fz; rw [hr647] at h9; refine h9.mono ?_; clear h9; rintro _ wd642 ⟨ao650, cap651, Z653, rfl, hle654, hs652, hm⟩; refine ⟨_, rfl, ?_⟩; intro a643 hF644; have hM645 := hm; clear hm hM220 hF641
    replace hs222 := hs222.mono hle654
    replace hs223 := hs223.mono hle654
    replace hsyb1_0 := hsyb1_0.mono hle654
    replace hleL209 := hleL209.mono hle654
    replace hle0 := Fz.le.trans hle0 hle654
    have hM655 : Mem B [] w0 Z0 ((.row b1 [str r646.Reader.Row, .int .i64 r646.Reader.At, .int .i64 r646.Reader.Code, .int .u8 r646.Reader.c.last, .int .i64 r646.Reader.c.n, .int .i64 r646.f.ID, .bool r646.f.Long, .bool r646.f.Fast, .bool r646.f.Remote, .int .i64 r646.f.Size, .slice ao650 r646.f.Data.length cap651] 64) :: Rr) Z653 wd642 := hM645; clear hM645
    have hp656 := hp648 (hs652.small); clear hp648
    refine nlH (hQ639 _ _ ?_); clear hQ639 hQ639Q
    refine rN (fn := Tryd.f43) (v := .tuple #[]) hF644 (re0 hF644 (fn := Tryd.f43) rfl) ?_
    exact ⟨r646, ao650, cap651, Z653, rfl, hp656, hle0, hs652, hM655.keep (List.Sublist.cons_cons _ (List.Sublist.refl _))⟩
   · -- no
    have hp657 := hp611.2 hb636; clear hp611
    refine wp_skip ?_
    refine rN (fn := Tryd.f43) (v := .tuple #[]) hF635 (re0 hF635 (fn := Tryd.f43) rfl) ?_
    exact ⟨yb1, aoyb1_0, capyb1_0, ZL209, rfl, hp657, hle0, hsyb1_0, hM220.keep (List.Sublist.cons_cons _ (List.Sublist.refl _))⟩

end Go.Proofs.YtmbdcehmeiiaoaaDoor
