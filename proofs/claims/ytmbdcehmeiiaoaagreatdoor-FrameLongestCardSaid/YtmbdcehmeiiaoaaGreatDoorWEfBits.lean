/- The walks, made by program: each call does what its pure predicate says. -/
import Derived.Test.YtmbdcehmeiiaoaaGreatDoorWE
set_option linter.unusedVariables false
set_option linter.unusedSimpArgs false
namespace Go.Proofs.YtmbdcehmeiiaoaaGreatDoor
open Go.Sy Go.RowKit
set_option maxRecDepth 100000 in
set_option maxHeartbeats 0 in
theorem fBits_walk (u0 : Frame) (ao1 : Option Addr) (cap2 : Nat) (Z : Fz) (w : World) (hs3 : SlR (tyInt .u8) Z ao1 cap2 u0.Data) (hZ : Z.on w) {K : ((List UInt8) × Int) → Prop} (hp : fBits_vc u0 K) : Calls Tryz.prog 16 #[.agg #[.int .i64 u0.ID, .bool u0.Long, .bool u0.Fast, .bool u0.Remote, .int .i64 u0.Size, .slice ao1 u0.Data.length cap2]] w fun e w' => ∃ r : (List UInt8) × Int, e = .returned (.tuple #[str r.1, .int .i64 r.2]) ∧ K r ∧ Below w.heap.size w w' := by
 refine enter0 Tryz.func16 rfl rfl (by kernel_rfl) ?_; intro a0 hF0; have hM0 := Mem.start w Z hZ; have hle0 := Fz.le.refl Z
 have hp4 := hp (hs3.small); clear hp
 refine sqH ?_; intro hQ5Q hQ5
 refine sn hF0 hM0 (fun b => .pointer (some ⟨b, 0, none⟩)) [.int .i64 u0.ID, .bool u0.Long, .bool u0.Fast, .bool u0.Remote, .int .i64 u0.Size, .slice ao1 u0.Data.length cap2] 24 (nog rfl _) rfl (by kernel_rfl) (by kernel_rfl) ?_; intro b6 a7 wd9 hF8 hM10; clear hF0 hM0
 refine s1 hF8 2 (str []) ?_; intro a11 hF12; clear hF8
 refine s1 hF12 3 (.int .i64 0) ?_; intro a13 hF14; clear hF12
 refine nlH (hQ5 _ _ ?_); clear hQ5 hQ5Q
 refine wp_seq ?_
 refine sqH ?_; intro hQ15Q hQ15
 refine l2 hF14 hM10 17 0 0 6 [.int .i64 u0.ID, .bool u0.Long, .bool u0.Fast, .bool u0.Remote, .int .i64 u0.Size, .slice ao1 u0.Data.length cap2] rfl rfl ?_; intro a16 hF17; clear hF14
 refine fcl hF17 hM10 (.int .i64 (fcheckfr u0)) 18 #[.agg #[.int .i64 u0.ID, .bool u0.Long, .bool u0.Fast, .bool u0.Remote, .int .i64 u0.Size, .slice ao1 u0.Data.length cap2]] (nog rfl _) rfl (by kernel_rfl) (fun _ => by kernel_rfl) (fcheckfr_fun u0 ao1 cap2 _ _ hs3 hM10.fz) ?_; intro a18 wd20 hF19 hM21; clear hF17 hM10
 refine s1 hF19 4 (.int .i64 (fcheckfr u0)) ?_; intro a22 hF23; clear hF19
 refine nlH (hQ15 _ _ ?_); clear hQ15 hQ15Q
 refine sqH ?_; intro hQ24Q hQ24
 refine s1 hF23 19 (.int .i64 (fcheckfr u0)) ?_; intro a25 hF26; clear hF23
 refine s1 hF26 20 (.bool ((fcheckfr u0) != 0)) ?_; intro a27 hF28; clear hF26
 refine nlH (hQ24 _ _ ?_); clear hQ24 hQ24Q
 refine cd hF28 (t := (fcheckfr u0) != 0) (by kernel_rfl) (fun hb29 => ?_) (fun hb29 => ?_)
 · -- yes
  have hp30 := hp4.1 hb29; clear hp4
  refine sqH ?_; intro hQ31Q hQ31
  refine s1 hF28 21 (.int .i64 (fcheckfr u0)) ?_; intro a32 hF33; clear hF28
  refine s1 hF33 2 (str []) ?_; intro a34 hF35; clear hF33
  refine s1 hF35 3 (.int .i64 (fcheckfr u0)) ?_; intro a36 hF37; clear hF35
  refine nlH (hQ31 _ _ ?_); clear hQ31 hQ31Q
  refine wp_ret ?_
  refine thr ?_
  refine rt (fn := Tryz.f16) (v := .tuple #[str [], .int .i64 (fcheckfr u0)]) hF37 (re2 hF37 (fn := Tryz.f16) rfl (by kernel_rfl) (by kernel_rfl)) ?_
  exact ⟨([], (fcheckfr u0)), rfl, hp30, hM21.below⟩
 · -- no
  have hp38 := hp4.2 hb29; clear hp4
  refine wp_skip ?_
  refine thn ?_
  refine sqH ?_; intro hQ39Q hQ39
  refine l2 hF28 hM21 22 0 0 6 [.int .i64 u0.ID, .bool u0.Long, .bool u0.Fast, .bool u0.Remote, .int .i64 u0.Size, .slice ao1 u0.Data.length cap2] rfl rfl ?_; intro a40 hF41; clear hF28
  have hc42 := hp38.1; have hp43 := hp38.2; clear hp38
  refine fcl hF41 hM21 (str (fheadS u0)) 40 #[.agg #[.int .i64 u0.ID, .bool u0.Long, .bool u0.Fast, .bool u0.Remote, .int .i64 u0.Size, .slice ao1 u0.Data.length cap2]] (nog rfl _) rfl (by kernel_rfl) (fun _ => by kernel_rfl) (fhead_fun u0 hc42 ao1 cap2 _ _ hs3 hM21.fz) ?_; intro a44 wd46 hF45 hM47; clear hF41 hM21
  refine s1 hF45 5 (str (fheadS u0)) ?_; intro a48 hF49; clear hF45
  refine nlH (hQ39 _ _ ?_); clear hQ39 hQ39Q
  refine wp_seq ?_
  refine sqH ?_; intro hQ50Q hQ50
  refine s1 hF49 24 (.pointer (some ⟨b6, 2, none⟩)) ?_; intro a51 hF52; clear hF49
  refine l1 hF52 hM47 25 0 2 (.bool u0.Fast) rfl rfl ?_; intro a53 hF54; clear hF52
  refine s1 hF54 26 (.bool (!u0.Fast)) ?_; intro a55 hF56; clear hF54
  refine nlH (hQ50 _ _ ?_); clear hQ50 hQ50Q
  refine cd hF56 (t := !u0.Fast) (by kernel_rfl) (fun hb57 => ?_) (fun hb57 => ?_)
  · -- yes
   have hp58 := hp43.1 hb57; clear hp43
   have hF59 : Fr 77 [] [⟨5, [], str (fheadS u0)⟩] a55 := hF56.region (by kernel_rfl) (by kernel_rfl); clear hF56
   refine sqH ?_; intro hQ60Q hQ60
   refine s1 hF59 28 (str (fheadS u0)) ?_; intro a61 hF62; clear hF59
   refine fcl hF62 hM47 (.tuple #[str ((csumS 0 (fheadS u0)).1), .int .i64 ((csumS 0 (fheadS u0)).2)]) 39 #[.int .i64 0, str (fheadS u0)] (nog rfl _) rfl (by kernel_rfl) (fun _ => by kernel_rfl) (csum_fun 0 (fheadS u0) _ _ hM47.fz) ?_; intro a63 wd65 hF64 hM66; clear hF62 hM47
   refine s1 hF64 27 (.tuple #[str ((csumS 0 (fheadS u0)).1), .int .i64 ((csumS 0 (fheadS u0)).2)]) ?_; intro a67 hF68; clear hF64
   refine s1 hF68 30 (str ((csumS 0 (fheadS u0)).1)) ?_; intro a69 hF70; clear hF68
   refine s1 hF70 31 (.int .i64 ((csumS 0 (fheadS u0)).2)) ?_; intro a71 hF72; clear hF70
   refine s1 hF72 6 (str ((csumS 0 (fheadS u0)).1)) ?_; intro a73 hF74; clear hF72
   refine s1 hF74 7 (.int .i64 ((csumS 0 (fheadS u0)).2)) ?_; intro a75 hF76; clear hF74
   refine nlH (hQ60 _ _ ?_); clear hQ60 hQ60Q
   refine sqH ?_; intro hQ77Q hQ77
   refine s1 hF76 33 (str (fheadS u0)) ?_; intro a78 hF79; clear hF76
   refine s1 hF79 34 (str ((csumS 0 (fheadS u0)).1)) ?_; intro a80 hF81; clear hF79
   have hc82 := hp58.1; have hp83 := hp58.2; clear hp58
   refine st hF81 (str ((fheadS u0) ++ ((csumS 0 (fheadS u0)).1))) (nog rfl _) rfl (by kernel_rfl) (stradd_run hF81 (g := []) rfl (by kernel_rfl) (by kernel_rfl) hc82 rfl) ?_; intro a84 hF85; clear hF81
   refine fcl hF85 hM66 (.tuple #[str ((sputS ((fheadS u0) ++ ((csumS 0 (fheadS u0)).1))).1), .int .i64 ((sputS ((fheadS u0) ++ ((csumS 0 (fheadS u0)).1))).2)]) 54 #[str ((fheadS u0) ++ ((csumS 0 (fheadS u0)).1))] (nog rfl _) rfl (by kernel_rfl) (fun _ => by kernel_rfl) (sput_fun ((fheadS u0) ++ ((csumS 0 (fheadS u0)).1)) _ _ hM66.fz) ?_; intro a86 wd88 hF87 hM89; clear hF85 hM66
   refine s1 hF87 32 (.tuple #[str ((sputS ((fheadS u0) ++ ((csumS 0 (fheadS u0)).1))).1), .int .i64 ((sputS ((fheadS u0) ++ ((csumS 0 (fheadS u0)).1))).2)]) ?_; intro a90 hF91; clear hF87
   refine s1 hF91 37 (str ((sputS ((fheadS u0) ++ ((csumS 0 (fheadS u0)).1))).1)) ?_; intro a92 hF93; clear hF91
   refine s1 hF93 38 (.int .i64 ((sputS ((fheadS u0) ++ ((csumS 0 (fheadS u0)).1))).2)) ?_; intro a94 hF95; clear hF93
   refine s1 hF95 8 (str ((sputS ((fheadS u0) ++ ((csumS 0 (fheadS u0)).1))).1)) ?_; intro a96 hF97; clear hF95
   refine s1 hF97 9 (.int .i64 ((sputS ((fheadS u0) ++ ((csumS 0 (fheadS u0)).1))).2)) ?_; intro a98 hF99; clear hF97
   refine nlH (hQ77 _ _ ?_); clear hQ77 hQ77Q
   have hF100 : Fr 77 [] [⟨8, [], str ((sputS ((fheadS u0) ++ ((csumS 0 (fheadS u0)).1))).1)⟩] a98 := hF99.region (by kernel_rfl) (by kernel_rfl); clear hF99
   refine sqH ?_; intro hQ101Q hQ101
   refine s1 hF100 39 (str ((sputS ((fheadS u0) ++ ((csumS 0 (fheadS u0)).1))).1)) ?_; intro a102 hF103; clear hF100
   have hc104 := hp83.1; have hp105 := hp83.2; clear hp83
   refine st hF103 (str (((sputS ((fheadS u0) ++ ((csumS 0 (fheadS u0)).1))).1) ++ ([49, 49, 49, 49, 49, 49, 49, 49, 49, 49] : List UInt8))) (nog rfl _) rfl (by kernel_rfl) (stradd_run hF103 (g := []) rfl (by kernel_rfl) (by kernel_rfl) hc104 rfl) ?_; intro a106 hF107; clear hF103
   refine s1 hF107 2 (str (((sputS ((fheadS u0) ++ ((csumS 0 (fheadS u0)).1))).1) ++ ([49, 49, 49, 49, 49, 49, 49, 49, 49, 49] : List UInt8))) ?_; intro a108 hF109; clear hF107
   refine s1 hF109 3 (.int .i64 0) ?_; intro a110 hF111; clear hF109
   refine nlH (hQ101 _ _ ?_); clear hQ101 hQ101Q
   refine wp_ret ?_
   refine thr ?_
   refine rt (fn := Tryz.f16) (v := .tuple #[str (((sputS ((fheadS u0) ++ ((csumS 0 (fheadS u0)).1))).1) ++ ([49, 49, 49, 49, 49, 49, 49, 49, 49, 49] : List UInt8)), .int .i64 0]) hF111 (re2 hF111 (fn := Tryz.f16) rfl (by kernel_rfl) (by kernel_rfl)) ?_
   exact ⟨(((sputS ((fheadS u0) ++ ((csumS 0 (fheadS u0)).1))).1) ++ ([49, 49, 49, 49, 49, 49, 49, 49, 49, 49] : List UInt8), 0), rfl, hp105, hM89.below⟩
  · -- no
   have hp112 := hp43.2 hb57; clear hp43
   refine wp_skip ?_
   refine thn ?_
   have hF113 : Fr 77 [] [⟨1, [], .pointer (some ⟨b6, 0, none⟩)⟩, ⟨5, [], str (fheadS u0)⟩] a55 := hF56.region (by kernel_rfl) (by kernel_rfl); clear hF56
   refine sqH ?_; intro hQ114Q hQ114
   refine s1 hF113 42 (str (fheadS u0)) ?_; intro a115 hF116; clear hF113
   refine fcl hF116 hM47 (.tuple #[str ((sputS (fheadS u0)).1), .int .i64 ((sputS (fheadS u0)).2)]) 54 #[str (fheadS u0)] (nog rfl _) rfl (by kernel_rfl) (fun _ => by kernel_rfl) (sput_fun (fheadS u0) _ _ hM47.fz) ?_; intro a117 wd119 hF118 hM120; clear hF116 hM47
   refine s1 hF118 41 (.tuple #[str ((sputS (fheadS u0)).1), .int .i64 ((sputS (fheadS u0)).2)]) ?_; intro a121 hF122; clear hF118
   refine s1 hF122 44 (str ((sputS (fheadS u0)).1)) ?_; intro a123 hF124; clear hF122
   refine s1 hF124 45 (.int .i64 ((sputS (fheadS u0)).2)) ?_; intro a125 hF126; clear hF124
   refine s1 hF126 10 (str ((sputS (fheadS u0)).1)) ?_; intro a127 hF128; clear hF126
   refine s1 hF128 11 (.int .i64 ((sputS (fheadS u0)).2)) ?_; intro a129 hF130; clear hF128
   refine nlH (hQ114 _ _ ?_); clear hQ114 hQ114Q
   refine sqH ?_; intro hQ131Q hQ131
   refine s1 hF130 46 (str ((sputS (fheadS u0)).1)) ?_; intro a132 hF133; clear hF130
   refine s1 hF133 47 (.int .i64 (((sputS (fheadS u0)).1).length : Int)) ?_; intro a134 hF135; clear hF133
   refine s1 hF135 48 (str (fheadS u0)) ?_; intro a136 hF137; clear hF135
   refine s1 hF137 49 (.int .i64 ((fheadS u0).length : Int)) ?_; intro a138 hF139; clear hF137
   refine s1 hF139 50 (.int .i64 (w64 ((((sputS (fheadS u0)).1).length : Int) - ((fheadS u0).length : Int)))) ?_; intro a140 hF141; clear hF139
   have hc142 := hp112.1; have hp143 := hp112.2; clear hp112
   refine fcl hF141 hM120 (str (fcountS (w64 ((((sputS (fheadS u0)).1).length : Int) - ((fheadS u0).length : Int))))) 55 #[.int .i64 (w64 ((((sputS (fheadS u0)).1).length : Int) - ((fheadS u0).length : Int)))] (nog rfl _) rfl (by kernel_rfl) (fun _ => by kernel_rfl) (fcount_fun (w64 ((((sputS (fheadS u0)).1).length : Int) - ((fheadS u0).length : Int))) hc142 _ _ hM120.fz) ?_; intro a144 wd146 hF145 hM147; clear hF141 hM120
   refine s1 hF145 12 (str (fcountS (w64 ((((sputS (fheadS u0)).1).length : Int) - ((fheadS u0).length : Int))))) ?_; intro a148 hF149; clear hF145
   refine nlH (hQ131 _ _ ?_); clear hQ131 hQ131Q
   have hF150 : Fr 77 [] [⟨1, [], .pointer (some ⟨b6, 0, none⟩)⟩, ⟨10, [], str ((sputS (fheadS u0)).1)⟩, ⟨12, [], str (fcountS (w64 ((((sputS (fheadS u0)).1).length : Int) - ((fheadS u0).length : Int))))⟩] a148 := hF149.region (by kernel_rfl) (by kernel_rfl); clear hF149
   refine sqH ?_; intro hQ151Q hQ151
   refine l2 hF150 hM147 53 0 0 6 [.int .i64 u0.ID, .bool u0.Long, .bool u0.Fast, .bool u0.Remote, .int .i64 u0.Size, .slice ao1 u0.Data.length cap2] rfl rfl ?_; intro a152 hF153; clear hF150
   refine fcl hF153 hM147 (.int .i64 (fkind u0)) 56 #[.agg #[.int .i64 u0.ID, .bool u0.Long, .bool u0.Fast, .bool u0.Remote, .int .i64 u0.Size, .slice ao1 u0.Data.length cap2]] (nog rfl _) rfl (by kernel_rfl) (fun _ => by kernel_rfl) (fkind_fun u0 ao1 cap2 _ _ hs3 hM147.fz) ?_; intro a154 wd156 hF155 hM157; clear hF153 hM147
   refine s1 hF155 55 (str ((sputS (fheadS u0)).1)) ?_; intro a158 hF159; clear hF155
   refine s1 hF159 56 (str (fcountS (w64 ((((sputS (fheadS u0)).1).length : Int) - ((fheadS u0).length : Int))))) ?_; intro a160 hF161; clear hF159
   have hc162 := hp143.1; have hp163 := hp143.2; clear hp143
   refine st hF161 (str (((sputS (fheadS u0)).1) ++ (fcountS (w64 ((((sputS (fheadS u0)).1).length : Int) - ((fheadS u0).length : Int)))))) (nog rfl _) rfl (by kernel_rfl) (stradd_run hF161 (g := []) rfl (by kernel_rfl) (by kernel_rfl) hc162 rfl) ?_; intro a164 hF165; clear hF161
   refine fcl hF165 hM157 (.tuple #[str ((csumS (fkind u0) (((sputS (fheadS u0)).1) ++ (fcountS (w64 ((((sputS (fheadS u0)).1).length : Int) - ((fheadS u0).length : Int)))))).1), .int .i64 ((csumS (fkind u0) (((sputS (fheadS u0)).1) ++ (fcountS (w64 ((((sputS (fheadS u0)).1).length : Int) - ((fheadS u0).length : Int)))))).2)]) 39 #[.int .i64 (fkind u0), str (((sputS (fheadS u0)).1) ++ (fcountS (w64 ((((sputS (fheadS u0)).1).length : Int) - ((fheadS u0).length : Int)))))] (nog rfl _) rfl (by kernel_rfl) (fun _ => by kernel_rfl) (csum_fun (fkind u0) (((sputS (fheadS u0)).1) ++ (fcountS (w64 ((((sputS (fheadS u0)).1).length : Int) - ((fheadS u0).length : Int))))) _ _ hM157.fz) ?_; intro a166 wd168 hF167 hM169; clear hF165 hM157
   refine s1 hF167 52 (.tuple #[str ((csumS (fkind u0) (((sputS (fheadS u0)).1) ++ (fcountS (w64 ((((sputS (fheadS u0)).1).length : Int) - ((fheadS u0).length : Int)))))).1), .int .i64 ((csumS (fkind u0) (((sputS (fheadS u0)).1) ++ (fcountS (w64 ((((sputS (fheadS u0)).1).length : Int) - ((fheadS u0).length : Int)))))).2)]) ?_; intro a170 hF171; clear hF167
   refine s1 hF171 59 (str ((csumS (fkind u0) (((sputS (fheadS u0)).1) ++ (fcountS (w64 ((((sputS (fheadS u0)).1).length : Int) - ((fheadS u0).length : Int)))))).1)) ?_; intro a172 hF173; clear hF171
   refine s1 hF173 60 (.int .i64 ((csumS (fkind u0) (((sputS (fheadS u0)).1) ++ (fcountS (w64 ((((sputS (fheadS u0)).1).length : Int) - ((fheadS u0).length : Int)))))).2)) ?_; intro a174 hF175; clear hF173
   refine s1 hF175 13 (str ((csumS (fkind u0) (((sputS (fheadS u0)).1) ++ (fcountS (w64 ((((sputS (fheadS u0)).1).length : Int) - ((fheadS u0).length : Int)))))).1)) ?_; intro a176 hF177; clear hF175
   refine s1 hF177 14 (.int .i64 ((csumS (fkind u0) (((sputS (fheadS u0)).1) ++ (fcountS (w64 ((((sputS (fheadS u0)).1).length : Int) - ((fheadS u0).length : Int)))))).2)) ?_; intro a178 hF179; clear hF177
   refine nlH (hQ151 _ _ ?_); clear hQ151 hQ151Q
   refine sqH ?_; intro hQ180Q hQ180
   refine s1 hF179 62 (str (fcountS (w64 ((((sputS (fheadS u0)).1).length : Int) - ((fheadS u0).length : Int))))) ?_; intro a181 hF182; clear hF179
   refine s1 hF182 63 (str ((csumS (fkind u0) (((sputS (fheadS u0)).1) ++ (fcountS (w64 ((((sputS (fheadS u0)).1).length : Int) - ((fheadS u0).length : Int)))))).1)) ?_; intro a183 hF184; clear hF182
   have hc185 := hp163.1; have hp186 := hp163.2; clear hp163
   refine st hF184 (str ((fcountS (w64 ((((sputS (fheadS u0)).1).length : Int) - ((fheadS u0).length : Int)))) ++ ((csumS (fkind u0) (((sputS (fheadS u0)).1) ++ (fcountS (w64 ((((sputS (fheadS u0)).1).length : Int) - ((fheadS u0).length : Int)))))).1))) (nog rfl _) rfl (by kernel_rfl) (stradd_run hF184 (g := []) rfl (by kernel_rfl) (by kernel_rfl) hc185 rfl) ?_; intro a187 hF188; clear hF184
   refine s1 hF188 65 (str ((sputS (fheadS u0)).1)) ?_; intro a189 hF190; clear hF188
   refine s1 hF190 66 (str ((sputS (fheadS u0)).1)) ?_; intro a191 hF192; clear hF190
   refine s1 hF192 67 (.int .i64 (((sputS (fheadS u0)).1).length : Int)) ?_; intro a193 hF194; clear hF192
   refine s1 hF194 68 (.int .i64 (w64 ((((sputS (fheadS u0)).1).length : Int) - 1))) ?_; intro a195 hF196; clear hF194
   have hc197 := hp186.1; have hp198 := hp186.2; clear hp186
   obtain ⟨c199, hq200⟩ : ∃ q, ((sputS (fheadS u0)).1)[(w64 ((((sputS (fheadS u0)).1).length : Int) - 1)).toNat]? = some q := ⟨_, List.getElem?_eq_getElem (by omega)⟩; have hp201 := hp198 c199 hq200
   refine st hF196 (.int .u8 (c199.toNat : Int)) (nog rfl _) rfl (by kernel_rfl) (stridx_run hF196 (k := .i64) rfl (by kernel_rfl) (by kernel_rfl) (by kernel_rfl) hc197.1 hq200) ?_; intro a202 hF203; clear hF196
   refine fcl hF203 hM169 (.tuple #[str ((sfixedS ((fcountS (w64 ((((sputS (fheadS u0)).1).length : Int) - ((fheadS u0).length : Int)))) ++ ((csumS (fkind u0) (((sputS (fheadS u0)).1) ++ (fcountS (w64 ((((sputS (fheadS u0)).1).length : Int) - ((fheadS u0).length : Int)))))).1)) (c199.toNat : Int)).1), .int .i64 ((sfixedS ((fcountS (w64 ((((sputS (fheadS u0)).1).length : Int) - ((fheadS u0).length : Int)))) ++ ((csumS (fkind u0) (((sputS (fheadS u0)).1) ++ (fcountS (w64 ((((sputS (fheadS u0)).1).length : Int) - ((fheadS u0).length : Int)))))).1)) (c199.toNat : Int)).2)]) 57 #[str ((fcountS (w64 ((((sputS (fheadS u0)).1).length : Int) - ((fheadS u0).length : Int)))) ++ ((csumS (fkind u0) (((sputS (fheadS u0)).1) ++ (fcountS (w64 ((((sputS (fheadS u0)).1).length : Int) - ((fheadS u0).length : Int)))))).1)), .int .u8 (c199.toNat : Int)] (nog rfl _) rfl (by kernel_rfl) (fun _ => by kernel_rfl) (sfixed_fun ((fcountS (w64 ((((sputS (fheadS u0)).1).length : Int) - ((fheadS u0).length : Int)))) ++ ((csumS (fkind u0) (((sputS (fheadS u0)).1) ++ (fcountS (w64 ((((sputS (fheadS u0)).1).length : Int) - ((fheadS u0).length : Int)))))).1)) (c199.toNat : Int) _ _ hM169.fz) ?_; intro a204 wd206 hF205 hM207; clear hF203 hM169
   refine s1 hF205 61 (.tuple #[str ((sfixedS ((fcountS (w64 ((((sputS (fheadS u0)).1).length : Int) - ((fheadS u0).length : Int)))) ++ ((csumS (fkind u0) (((sputS (fheadS u0)).1) ++ (fcountS (w64 ((((sputS (fheadS u0)).1).length : Int) - ((fheadS u0).length : Int)))))).1)) (c199.toNat : Int)).1), .int .i64 ((sfixedS ((fcountS (w64 ((((sputS (fheadS u0)).1).length : Int) - ((fheadS u0).length : Int)))) ++ ((csumS (fkind u0) (((sputS (fheadS u0)).1) ++ (fcountS (w64 ((((sputS (fheadS u0)).1).length : Int) - ((fheadS u0).length : Int)))))).1)) (c199.toNat : Int)).2)]) ?_; intro a208 hF209; clear hF205
   refine s1 hF209 71 (str ((sfixedS ((fcountS (w64 ((((sputS (fheadS u0)).1).length : Int) - ((fheadS u0).length : Int)))) ++ ((csumS (fkind u0) (((sputS (fheadS u0)).1) ++ (fcountS (w64 ((((sputS (fheadS u0)).1).length : Int) - ((fheadS u0).length : Int)))))).1)) (c199.toNat : Int)).1)) ?_; intro a210 hF211; clear hF209
   refine s1 hF211 72 (.int .i64 ((sfixedS ((fcountS (w64 ((((sputS (fheadS u0)).1).length : Int) - ((fheadS u0).length : Int)))) ++ ((csumS (fkind u0) (((sputS (fheadS u0)).1) ++ (fcountS (w64 ((((sputS (fheadS u0)).1).length : Int) - ((fheadS u0).length : Int)))))).1)) (c199.toNat : Int)).2)) ?_; intro a212 hF213; clear hF211
   refine s1 hF213 15 (str ((sfixedS ((fcountS (w64 ((((sputS (fheadS u0)).1).length : Int) - ((fheadS u0).length : Int)))) ++ ((csumS (fkind u0) (((sputS (fheadS u0)).1) ++ (fcountS (w64 ((((sputS (fheadS u0)).1).length : Int) - ((fheadS u0).length : Int)))))).1)) (c199.toNat : Int)).1)) ?_; intro a214 hF215; clear hF213
   refine s1 hF215 16 (.int .i64 ((sfixedS ((fcountS (w64 ((((sputS (fheadS u0)).1).length : Int) - ((fheadS u0).length : Int)))) ++ ((csumS (fkind u0) (((sputS (fheadS u0)).1) ++ (fcountS (w64 ((((sputS (fheadS u0)).1).length : Int) - ((fheadS u0).length : Int)))))).1)) (c199.toNat : Int)).2)) ?_; intro a216 hF217; clear hF215
   refine nlH (hQ180 _ _ ?_); clear hQ180 hQ180Q
   have hF218 : Fr 77 [] [⟨10, [], str ((sputS (fheadS u0)).1)⟩, ⟨15, [], str ((sfixedS ((fcountS (w64 ((((sputS (fheadS u0)).1).length : Int) - ((fheadS u0).length : Int)))) ++ ((csumS (fkind u0) (((sputS (fheadS u0)).1) ++ (fcountS (w64 ((((sputS (fheadS u0)).1).length : Int) - ((fheadS u0).length : Int)))))).1)) (c199.toNat : Int)).1)⟩] a216 := hF217.region (by kernel_rfl) (by kernel_rfl); clear hF217
   refine sqH ?_; intro hQ219Q hQ219
   refine s1 hF218 73 (str ((sputS (fheadS u0)).1)) ?_; intro a220 hF221; clear hF218
   refine s1 hF221 74 (str ((sfixedS ((fcountS (w64 ((((sputS (fheadS u0)).1).length : Int) - ((fheadS u0).length : Int)))) ++ ((csumS (fkind u0) (((sputS (fheadS u0)).1) ++ (fcountS (w64 ((((sputS (fheadS u0)).1).length : Int) - ((fheadS u0).length : Int)))))).1)) (c199.toNat : Int)).1)) ?_; intro a222 hF223; clear hF221
   have hc224 := hp201.1; have hp225 := hp201.2; clear hp201
   refine st hF223 (str (((sputS (fheadS u0)).1) ++ ((sfixedS ((fcountS (w64 ((((sputS (fheadS u0)).1).length : Int) - ((fheadS u0).length : Int)))) ++ ((csumS (fkind u0) (((sputS (fheadS u0)).1) ++ (fcountS (w64 ((((sputS (fheadS u0)).1).length : Int) - ((fheadS u0).length : Int)))))).1)) (c199.toNat : Int)).1))) (nog rfl _) rfl (by kernel_rfl) (stradd_run hF223 (g := []) rfl (by kernel_rfl) (by kernel_rfl) hc224 rfl) ?_; intro a226 hF227; clear hF223
   have hc228 := hp225.1; have hp229 := hp225.2; clear hp225
   refine st hF227 (str ((((sputS (fheadS u0)).1) ++ ((sfixedS ((fcountS (w64 ((((sputS (fheadS u0)).1).length : Int) - ((fheadS u0).length : Int)))) ++ ((csumS (fkind u0) (((sputS (fheadS u0)).1) ++ (fcountS (w64 ((((sputS (fheadS u0)).1).length : Int) - ((fheadS u0).length : Int)))))).1)) (c199.toNat : Int)).1)) ++ ([49, 49, 49, 49, 49, 49, 49, 49, 49, 49] : List UInt8))) (nog rfl _) rfl (by kernel_rfl) (stradd_run hF227 (g := []) rfl (by kernel_rfl) (by kernel_rfl) hc228 rfl) ?_; intro a230 hF231; clear hF227
   refine s1 hF231 2 (str ((((sputS (fheadS u0)).1) ++ ((sfixedS ((fcountS (w64 ((((sputS (fheadS u0)).1).length : Int) - ((fheadS u0).length : Int)))) ++ ((csumS (fkind u0) (((sputS (fheadS u0)).1) ++ (fcountS (w64 ((((sputS (fheadS u0)).1).length : Int) - ((fheadS u0).length : Int)))))).1)) (c199.toNat : Int)).1)) ++ ([49, 49, 49, 49, 49, 49, 49, 49, 49, 49] : List UInt8))) ?_; intro a232 hF233; clear hF231
   refine s1 hF233 3 (.int .i64 0) ?_; intro a234 hF235; clear hF233
   refine nlH (hQ219 _ _ ?_); clear hQ219 hQ219Q
   refine wp_ret ?_
   refine rt (fn := Tryz.f16) (v := .tuple #[str ((((sputS (fheadS u0)).1) ++ ((sfixedS ((fcountS (w64 ((((sputS (fheadS u0)).1).length : Int) - ((fheadS u0).length : Int)))) ++ ((csumS (fkind u0) (((sputS (fheadS u0)).1) ++ (fcountS (w64 ((((sputS (fheadS u0)).1).length : Int) - ((fheadS u0).length : Int)))))).1)) (c199.toNat : Int)).1)) ++ ([49, 49, 49, 49, 49, 49, 49, 49, 49, 49] : List UInt8)), .int .i64 0]) hF235 (re2 hF235 (fn := Tryz.f16) rfl (by kernel_rfl) (by kernel_rfl)) ?_
   exact ⟨((((sputS (fheadS u0)).1) ++ ((sfixedS ((fcountS (w64 ((((sputS (fheadS u0)).1).length : Int) - ((fheadS u0).length : Int)))) ++ ((csumS (fkind u0) (((sputS (fheadS u0)).1) ++ (fcountS (w64 ((((sputS (fheadS u0)).1).length : Int) - ((fheadS u0).length : Int)))))).1)) (c199.toNat : Int)).1)) ++ ([49, 49, 49, 49, 49, 49, 49, 49, 49, 49] : List UInt8), 0), rfl, hp229, hM207.below⟩

end Go.Proofs.YtmbdcehmeiiaoaaGreatDoor
