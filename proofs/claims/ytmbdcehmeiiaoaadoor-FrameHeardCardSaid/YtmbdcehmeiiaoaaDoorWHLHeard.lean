/- The walks, made by program: each call does what its pure predicate says. -/
import Derived.Test.YtmbdcehmeiiaoaaDoorWH
set_option linter.unusedVariables false
set_option linter.unusedSimpArgs false
namespace Go.Proofs.YtmbdcehmeiiaoaaDoor
open Go.Sy Go.RowKit
set_option maxRecDepth 100000 in
set_option maxHeartbeats 0 in
theorem LHeard_walk (u0 : Frame) (ao1 : Option Addr) (cap2 : Nat) (Z : Fz) (w : World) (hs3 : SlR (tyInt .u8) Z ao1 cap2 u0.Data) (hZ : Z.on w) {K : Bool → Prop} (hp : LHeard_vc u0 K) : Calls Tryd.prog 3 #[.agg #[.int .i64 u0.ID, .bool u0.Long, .bool u0.Fast, .bool u0.Remote, .int .i64 u0.Size, .slice ao1 u0.Data.length cap2]] w fun e w' => ∃ r : Bool, e = .returned (.bool r) ∧ K r ∧ Below w.heap.size w w' := by
 refine enter0 Tryd.func3 rfl rfl (by kernel_rfl) ?_; intro a0 hF0; have hM0 := Mem.start w Z hZ; have hle0 := Fz.le.refl Z
 have hp4 := hp (hs3.small); clear hp
 refine sqH ?_; intro hQ5Q hQ5
 refine sn hF0 hM0 (fun b => .pointer (some ⟨b, 0, none⟩)) [.int .i64 u0.ID, .bool u0.Long, .bool u0.Fast, .bool u0.Remote, .int .i64 u0.Size, .slice ao1 u0.Data.length cap2] 24 (nog rfl _) rfl (by kernel_rfl) (by kernel_rfl) ?_; intro b6 a7 wd9 hF8 hM10; clear hF0 hM0
 refine s1 hF8 2 (.bool false) ?_; intro a11 hF12; clear hF8
 refine nlH (hQ5 _ _ ?_); clear hQ5 hQ5Q
 refine sqH ?_; intro hQ13Q hQ13
 refine l2 hF12 hM10 9 0 0 6 [.int .i64 u0.ID, .bool u0.Long, .bool u0.Fast, .bool u0.Remote, .int .i64 u0.Size, .slice ao1 u0.Data.length cap2] rfl rfl ?_; intro a14 hF15; clear hF12
 have hc16 := hp4.1; have hp17 := hp4.2; clear hp4
 refine fcl hF15 hM10 (.tuple #[str ((BitsS u0).1), .int .i64 ((BitsS u0).2)]) 10 #[.agg #[.int .i64 u0.ID, .bool u0.Long, .bool u0.Fast, .bool u0.Remote, .int .i64 u0.Size, .slice ao1 u0.Data.length cap2]] (nog rfl _) rfl (by kernel_rfl) (fun _ => by kernel_rfl) (fBits_fun u0 hc16 ao1 cap2 _ _ hs3 hM10.fz) ?_; intro a18 wd20 hF19 hM21; clear hF15 hM10
 refine s1 hF19 8 (.tuple #[str ((BitsS u0).1), .int .i64 ((BitsS u0).2)]) ?_; intro a22 hF23; clear hF19
 refine s1 hF23 11 (str ((BitsS u0).1)) ?_; intro a24 hF25; clear hF23
 refine s1 hF25 12 (.int .i64 ((BitsS u0).2)) ?_; intro a26 hF27; clear hF25
 refine s1 hF27 3 (str ((BitsS u0).1)) ?_; intro a28 hF29; clear hF27
 refine s1 hF29 4 (.int .i64 ((BitsS u0).2)) ?_; intro a30 hF31; clear hF29
 refine nlH (hQ13 _ _ ?_); clear hQ13 hQ13Q
 refine wp_seq ?_
 refine sqH ?_; intro hQ32Q hQ32
 refine fcl hF31 hM21 (.bool true) 11 #[] (nog rfl _) rfl (by kernel_rfl) (fun _ => by kernel_rfl) (framed_fun  _ _ hM21.fz) ?_; intro a33 wd35 hF34 hM36; clear hF31 hM21
 refine s1 hF34 14 (.bool false) ?_; intro a37 hF38; clear hF34
 refine s1 hF38 15 (.bool false) ?_; intro a39 hF40; clear hF38
 refine st hF40 (.int .i64 ((BitsS u0).2)) (by rw [wanted_of hF40 (b := false) rfl rfl (by kernel_rfl) (by kernel_rfl)]; rfl) rfl (by kernel_rfl) (p0 hF40 (by kernel_rfl)) ?_; intro a41 hF42; clear hF40
 refine st hF42 (.bool (((BitsS u0).2) != 0)) (by rw [wanted_of hF42 (b := false) rfl rfl (by kernel_rfl) (by kernel_rfl)]; rfl) rfl (by kernel_rfl) (p0 hF42 (by kernel_rfl)) ?_; intro a43 hF44; clear hF42
 refine s1 hF44 18 (.bool (((BitsS u0).2) != 0)) ?_; intro a45 hF46; clear hF44
 refine s1 hF46 19 (.bool (((BitsS u0).2) != 0)) ?_; intro a47 hF48; clear hF46
 have hF49 := hF48.atom ((((BitsS u0).2) != 0) == false) (by kernel_rfl); clear hF48
 refine gp hF49 20 0 [] (((BitsS u0).2) != 0) (str ((BitsS u0).1)) rfl rfl ?_; intro a50 hF51; clear hF49
 refine gp hF51 21 0 [] (((BitsS u0).2) != 0) (.int .i64 (((BitsS u0).1).length : Int)) rfl rfl ?_; intro a52 hF53; clear hF51
 refine gp hF53 22 0 [] (((BitsS u0).2) != 0) (.bool (decide ((((BitsS u0).1).length : Int) < 10))) rfl rfl ?_; intro a54 hF55; clear hF53
 refine st hF55 (.bool ((((BitsS u0).2) != 0) || (decide ((((BitsS u0).1).length : Int) < 10)))) (nog rfl _) rfl (by kernel_rfl) (pk_or hF55 (g := []) (m := 0) (b := ((BitsS u0).2) != 0) (v := decide ((((BitsS u0).1).length : Int) < 10)) rfl (by kernel_rfl) (by kernel_rfl) (by kernel_rfl) rfl) ?_; intro a56 hF57; clear hF55
 refine nlH (hQ32 _ _ ?_); clear hQ32 hQ32Q
 refine cd hF57 (t := (((BitsS u0).2) != 0) || (decide ((((BitsS u0).1).length : Int) < 10))) (by kernel_rfl) (fun hb58 => ?_) (fun hb58 => ?_)
 · -- yes
  have hp59 := hp17.1 hb58; clear hp17
  have hF60 : Fr 55 [] [] a56 := hF57.region (by kernel_rfl) (by kernel_rfl); clear hF57
  refine sqH ?_; intro hQ61Q hQ61
  refine fcl hF60 hM36 (.bool true) 11 #[] (nog rfl _) rfl (by kernel_rfl) (fun _ => by kernel_rfl) (framed_fun  _ _ hM36.fz) ?_; intro a62 wd64 hF63 hM65; clear hF60 hM36
  refine s1 hF63 2 (.bool true) ?_; intro a66 hF67; clear hF63
  refine nlH (hQ61 _ _ ?_); clear hQ61 hQ61Q
  refine wp_ret ?_
  refine thr ?_
  refine rt (fn := Tryd.f3) (v := .bool true) hF67 (re1 hF67 (fn := Tryd.f3) rfl (by kernel_rfl)) ?_
  exact ⟨true, rfl, hp59, hM65.below⟩
 · -- no
  have hp68 := hp17.2 hb58; clear hp17
  refine wp_skip ?_
  refine thn ?_
  have hF69 : Fr 55 [] [⟨1, [], .pointer (some ⟨b6, 0, none⟩)⟩, ⟨3, [], str ((BitsS u0).1)⟩] a56 := hF57.region (by kernel_rfl) (by kernel_rfl); clear hF57
  refine sqH ?_; intro hQ70Q hQ70
  refine s1 hF69 25 (str ((BitsS u0).1)) ?_; intro a71 hF72; clear hF69
  refine s1 hF72 26 (.int .i64 (((BitsS u0).1).length : Int)) ?_; intro a73 hF74; clear hF72
  refine s1 hF74 27 (.int .i64 (w64 ((((BitsS u0).1).length : Int) - 9))) ?_; intro a75 hF76; clear hF74
  refine s1 hF76 5 (.int .i64 (w64 ((((BitsS u0).1).length : Int) - 9))) ?_; intro a77 hF78; clear hF76
  refine nlH (hQ70 _ _ ?_); clear hQ70 hQ70Q
  have hF79 : Fr 55 [] [⟨1, [], .pointer (some ⟨b6, 0, none⟩)⟩, ⟨3, [], str ((BitsS u0).1)⟩, ⟨5, [], .int .i64 (w64 ((((BitsS u0).1).length : Int) - 9))⟩] a77 := hF78.region (by kernel_rfl) (by kernel_rfl); clear hF78
  have hcd2_0 := hp68.1; have hp127 := hp68.2; clear hp68
  have hcd3_0 := hp127.1; have hp128 := hp127.2; clear hp127
  have hcd7_0 := hp128.1; have hp129 := hp128.2; clear hp128
  have hcd8_0 := hp129.1; have hp130 := hp129.2; clear hp129
  refine wp_seq (any_invE mixed [[], [], [0, 1], [2], [], [], [5], [4, 6], [3, 7], [8], [9], [10], [10], [10], [], [0, 1, 2, 3, 4, 5, 6, 7, 8, 9, 10, 11, 14], [0, 1, 2, 3, 4, 5, 6, 7, 8, 9, 10, 11, 12, 14, 15], [0, 1, 2, 3, 4, 5, 6, 7, 8, 9, 10, 11, 12, 13, 14, 15, 16]] 18 (fun S a w1 => ∃ (ao102 : Option Addr) (cap103 : Nat) (b116 : Nat) (ud4 : Value) (ud6 : Value) (ud7 : Value) (ud28 : Value) (ud29 : Value) (ud30 : Value) (ud31 : Value) (ud32 : Value) (ud33 : Value) (ud34 : Value) (ud35 : Value) (ud36 : Value) (ud37 : Value) (ud38 : Value) (ud39 : Value) (ud40 : Value) (ud41 : Value) (rh0 : Res) (rh1 : Res) (Z131 : Fz), Fz.le Z Z131 ∧ Fr 55 [] [⟨1, [], .pointer (some ⟨b6, 0, none⟩)⟩, ⟨3, [], str ((BitsS u0).1)⟩, ⟨4, [], ud4⟩, ⟨5, [], .int .i64 (w64 ((((BitsS u0).1).length : Int) - 9))⟩, ⟨6, [], ud6⟩, ⟨7, [], ud7⟩, ⟨28, [], ud28⟩, ⟨29, [], ud29⟩, ⟨30, [], ud30⟩, ⟨31, [], ud31⟩, ⟨32, [], ud32⟩, ⟨33, [], ud33⟩, ⟨34, [], ud34⟩, ⟨35, [], ud35⟩, ⟨36, [], ud36⟩, ⟨37, [], ud37⟩, ⟨38, [], ud38⟩, ⟨39, [], ud39⟩, ⟨40, [], ud40⟩, ⟨41, [], ud41⟩] a ∧ Mem w.heap.size [] w Z [rh0, rh1] Z131 w1 ∧ (S 17 = true → ud4 = .int .i64 ((readS (((((BitsS u0).1).take (w64 ((((BitsS u0).1).length : Int) - 9)).toNat) ++ ([48] : List UInt8)) ++ (((BitsS u0).1).drop (w64 ((w64 ((((BitsS u0).1).length : Int) - 9)) + 1)).toNat))).2.2)) ∧ (S 14 = true → ud6 = .pointer (some ⟨b116, 0, none⟩)) ∧ (S 16 = true → ud7 = .int .i64 ((readS (((((BitsS u0).1).take (w64 ((((BitsS u0).1).length : Int) - 9)).toNat) ++ ([48] : List UInt8)) ++ (((BitsS u0).1).drop (w64 ((w64 ((((BitsS u0).1).length : Int) - 9)) + 1)).toNat))).2.1)) ∧ (S 10 = true → ud28 = .tuple #[.agg #[.int .i64 (((readS (((((BitsS u0).1).take (w64 ((((BitsS u0).1).length : Int) - 9)).toNat) ++ ([48] : List UInt8)) ++ (((BitsS u0).1).drop (w64 ((w64 ((((BitsS u0).1).length : Int) - 9)) + 1)).toNat))).1).ID), .bool (((readS (((((BitsS u0).1).take (w64 ((((BitsS u0).1).length : Int) - 9)).toNat) ++ ([48] : List UInt8)) ++ (((BitsS u0).1).drop (w64 ((w64 ((((BitsS u0).1).length : Int) - 9)) + 1)).toNat))).1).Long), .bool (((readS (((((BitsS u0).1).take (w64 ((((BitsS u0).1).length : Int) - 9)).toNat) ++ ([48] : List UInt8)) ++ (((BitsS u0).1).drop (w64 ((w64 ((((BitsS u0).1).length : Int) - 9)) + 1)).toNat))).1).Fast), .bool (((readS (((((BitsS u0).1).take (w64 ((((BitsS u0).1).length : Int) - 9)).toNat) ++ ([48] : List UInt8)) ++ (((BitsS u0).1).drop (w64 ((w64 ((((BitsS u0).1).length : Int) - 9)) + 1)).toNat))).1).Remote), .int .i64 (((readS (((((BitsS u0).1).take (w64 ((((BitsS u0).1).length : Int) - 9)).toNat) ++ ([48] : List UInt8)) ++ (((BitsS u0).1).drop (w64 ((w64 ((((BitsS u0).1).length : Int) - 9)) + 1)).toNat))).1).Size), .slice ao102 (((readS (((((BitsS u0).1).take (w64 ((((BitsS u0).1).length : Int) - 9)).toNat) ++ ([48] : List UInt8)) ++ (((BitsS u0).1).drop (w64 ((w64 ((((BitsS u0).1).length : Int) - 9)) + 1)).toNat))).1).Data).length cap103], .int .i64 ((readS (((((BitsS u0).1).take (w64 ((((BitsS u0).1).length : Int) - 9)).toNat) ++ ([48] : List UInt8)) ++ (((BitsS u0).1).drop (w64 ((w64 ((((BitsS u0).1).length : Int) - 9)) + 1)).toNat))).2.1), .int .i64 ((readS (((((BitsS u0).1).take (w64 ((((BitsS u0).1).length : Int) - 9)).toNat) ++ ([48] : List UInt8)) ++ (((BitsS u0).1).drop (w64 ((w64 ((((BitsS u0).1).length : Int) - 9)) + 1)).toNat))).2.2)]) ∧ (S 0 = true → ud29 = str ((BitsS u0).1)) ∧ (S 1 = true → ud30 = .int .i64 (w64 ((((BitsS u0).1).length : Int) - 9))) ∧ (S 2 = true → ud31 = str (((BitsS u0).1).take (w64 ((((BitsS u0).1).length : Int) - 9)).toNat)) ∧ (S 3 = true → ud32 = str ((((BitsS u0).1).take (w64 ((((BitsS u0).1).length : Int) - 9)).toNat) ++ ([48] : List UInt8))) ∧ (S 4 = true → ud33 = str ((BitsS u0).1)) ∧ (S 5 = true → ud34 = .int .i64 (w64 ((((BitsS u0).1).length : Int) - 9))) ∧ (S 6 = true → ud35 = .int .i64 (w64 ((w64 ((((BitsS u0).1).length : Int) - 9)) + 1))) ∧ (S 7 = true → ud36 = str (((BitsS u0).1).drop (w64 ((w64 ((((BitsS u0).1).length : Int) - 9)) + 1)).toNat)) ∧ (S 8 = true → ud37 = str (((((BitsS u0).1).take (w64 ((((BitsS u0).1).length : Int) - 9)).toNat) ++ ([48] : List UInt8)) ++ (((BitsS u0).1).drop (w64 ((w64 ((((BitsS u0).1).length : Int) - 9)) + 1)).toNat))) ∧ (S 9 = true → ud38 = .tuple #[.agg #[.int .i64 (((readS (((((BitsS u0).1).take (w64 ((((BitsS u0).1).length : Int) - 9)).toNat) ++ ([48] : List UInt8)) ++ (((BitsS u0).1).drop (w64 ((w64 ((((BitsS u0).1).length : Int) - 9)) + 1)).toNat))).1).ID), .bool (((readS (((((BitsS u0).1).take (w64 ((((BitsS u0).1).length : Int) - 9)).toNat) ++ ([48] : List UInt8)) ++ (((BitsS u0).1).drop (w64 ((w64 ((((BitsS u0).1).length : Int) - 9)) + 1)).toNat))).1).Long), .bool (((readS (((((BitsS u0).1).take (w64 ((((BitsS u0).1).length : Int) - 9)).toNat) ++ ([48] : List UInt8)) ++ (((BitsS u0).1).drop (w64 ((w64 ((((BitsS u0).1).length : Int) - 9)) + 1)).toNat))).1).Fast), .bool (((readS (((((BitsS u0).1).take (w64 ((((BitsS u0).1).length : Int) - 9)).toNat) ++ ([48] : List UInt8)) ++ (((BitsS u0).1).drop (w64 ((w64 ((((BitsS u0).1).length : Int) - 9)) + 1)).toNat))).1).Remote), .int .i64 (((readS (((((BitsS u0).1).take (w64 ((((BitsS u0).1).length : Int) - 9)).toNat) ++ ([48] : List UInt8)) ++ (((BitsS u0).1).drop (w64 ((w64 ((((BitsS u0).1).length : Int) - 9)) + 1)).toNat))).1).Size), .slice ao102 (((readS (((((BitsS u0).1).take (w64 ((((BitsS u0).1).length : Int) - 9)).toNat) ++ ([48] : List UInt8)) ++ (((BitsS u0).1).drop (w64 ((w64 ((((BitsS u0).1).length : Int) - 9)) + 1)).toNat))).1).Data).length cap103], .int .i64 ((readS (((((BitsS u0).1).take (w64 ((((BitsS u0).1).length : Int) - 9)).toNat) ++ ([48] : List UInt8)) ++ (((BitsS u0).1).drop (w64 ((w64 ((((BitsS u0).1).length : Int) - 9)) + 1)).toNat))).2.1), .int .i64 ((readS (((((BitsS u0).1).take (w64 ((((BitsS u0).1).length : Int) - 9)).toNat) ++ ([48] : List UInt8)) ++ (((BitsS u0).1).drop (w64 ((w64 ((((BitsS u0).1).length : Int) - 9)) + 1)).toNat))).2.2)]) ∧ (S 11 = true → ud39 = .agg #[.int .i64 (((readS (((((BitsS u0).1).take (w64 ((((BitsS u0).1).length : Int) - 9)).toNat) ++ ([48] : List UInt8)) ++ (((BitsS u0).1).drop (w64 ((w64 ((((BitsS u0).1).length : Int) - 9)) + 1)).toNat))).1).ID), .bool (((readS (((((BitsS u0).1).take (w64 ((((BitsS u0).1).length : Int) - 9)).toNat) ++ ([48] : List UInt8)) ++ (((BitsS u0).1).drop (w64 ((w64 ((((BitsS u0).1).length : Int) - 9)) + 1)).toNat))).1).Long), .bool (((readS (((((BitsS u0).1).take (w64 ((((BitsS u0).1).length : Int) - 9)).toNat) ++ ([48] : List UInt8)) ++ (((BitsS u0).1).drop (w64 ((w64 ((((BitsS u0).1).length : Int) - 9)) + 1)).toNat))).1).Fast), .bool (((readS (((((BitsS u0).1).take (w64 ((((BitsS u0).1).length : Int) - 9)).toNat) ++ ([48] : List UInt8)) ++ (((BitsS u0).1).drop (w64 ((w64 ((((BitsS u0).1).length : Int) - 9)) + 1)).toNat))).1).Remote), .int .i64 (((readS (((((BitsS u0).1).take (w64 ((((BitsS u0).1).length : Int) - 9)).toNat) ++ ([48] : List UInt8)) ++ (((BitsS u0).1).drop (w64 ((w64 ((((BitsS u0).1).length : Int) - 9)) + 1)).toNat))).1).Size), .slice ao102 (((readS (((((BitsS u0).1).take (w64 ((((BitsS u0).1).length : Int) - 9)).toNat) ++ ([48] : List UInt8)) ++ (((BitsS u0).1).drop (w64 ((w64 ((((BitsS u0).1).length : Int) - 9)) + 1)).toNat))).1).Data).length cap103]) ∧ (S 12 = true → ud40 = .int .i64 ((readS (((((BitsS u0).1).take (w64 ((((BitsS u0).1).length : Int) - 9)).toNat) ++ ([48] : List UInt8)) ++ (((BitsS u0).1).drop (w64 ((w64 ((((BitsS u0).1).length : Int) - 9)) + 1)).toNat))).2.1)) ∧ (S 13 = true → ud41 = .int .i64 ((readS (((((BitsS u0).1).take (w64 ((((BitsS u0).1).length : Int) - 9)).toNat) ++ ([48] : List UInt8)) ++ (((BitsS u0).1).drop (w64 ((w64 ((((BitsS u0).1).length : Int) - 9)) + 1)).toNat))).2.2)) ∧ (rh0 = .row b6 [.int .i64 u0.ID, .bool u0.Long, .bool u0.Fast, .bool u0.Remote, .int .i64 u0.Size, .slice ao1 u0.Data.length cap2] 24) ∧ (S 14 = false → rh1 = .nil) ∧ (S 14 = true → S 15 = false → rh1 = .row b116 [.int .i64 0, .bool false, .bool false, .bool false, .int .i64 0, .slice none 0 0] 24) ∧ (S 15 = true → rh1 = .row b116 [.int .i64 (((readS (((((BitsS u0).1).take (w64 ((((BitsS u0).1).length : Int) - 9)).toNat) ++ ([48] : List UInt8)) ++ (((BitsS u0).1).drop (w64 ((w64 ((((BitsS u0).1).length : Int) - 9)) + 1)).toNat))).1).ID), .bool (((readS (((((BitsS u0).1).take (w64 ((((BitsS u0).1).length : Int) - 9)).toNat) ++ ([48] : List UInt8)) ++ (((BitsS u0).1).drop (w64 ((w64 ((((BitsS u0).1).length : Int) - 9)) + 1)).toNat))).1).Long), .bool (((readS (((((BitsS u0).1).take (w64 ((((BitsS u0).1).length : Int) - 9)).toNat) ++ ([48] : List UInt8)) ++ (((BitsS u0).1).drop (w64 ((w64 ((((BitsS u0).1).length : Int) - 9)) + 1)).toNat))).1).Fast), .bool (((readS (((((BitsS u0).1).take (w64 ((((BitsS u0).1).length : Int) - 9)).toNat) ++ ([48] : List UInt8)) ++ (((BitsS u0).1).drop (w64 ((w64 ((((BitsS u0).1).length : Int) - 9)) + 1)).toNat))).1).Remote), .int .i64 (((readS (((((BitsS u0).1).take (w64 ((((BitsS u0).1).length : Int) - 9)).toNat) ++ ([48] : List UInt8)) ++ (((BitsS u0).1).drop (w64 ((w64 ((((BitsS u0).1).length : Int) - 9)) + 1)).toNat))).1).Size), .slice ao102 (((readS (((((BitsS u0).1).take (w64 ((((BitsS u0).1).length : Int) - 9)).toNat) ++ ([48] : List UInt8)) ++ (((BitsS u0).1).drop (w64 ((w64 ((((BitsS u0).1).length : Int) - 9)) + 1)).toNat))).1).Data).length cap103] 24) ∧ (S 9 = true → SlR (tyInt .u8) Z131 ao102 cap103 (((readS (((((BitsS u0).1).take (w64 ((((BitsS u0).1).length : Int) - 9)).toNat) ++ ([48] : List UInt8)) ++ (((BitsS u0).1).drop (w64 ((w64 ((((BitsS u0).1).length : Int) - 9)) + 1)).toNat))).1).Data))) ?h0 ?hs ?hE)
  case h0 =>
   have hF133 := hF79.any 4
   have hF134 := hF133.any 6
   have hF135 := hF134.any 7
   have hF136 := hF135.any 28
   have hF137 := hF136.any 29
   have hF138 := hF137.any 30
   have hF139 := hF138.any 31
   have hF140 := hF139.any 32
   have hF141 := hF140.any 33
   have hF142 := hF141.any 34
   have hF143 := hF142.any 35
   have hF144 := hF143.any 36
   have hF145 := hF144.any 37
   have hF146 := hF145.any 38
   have hF147 := hF146.any 39
   have hF148 := hF147.any 40
   have hF149 := hF148.any 41
   have hM150 := hM36.nilRes
   have hM151 := (hM150.perm ((pk 1 rfl).trans ((List.Perm.refl _).cons _))).drew
   exact ⟨none, 0, 0, a77.tmps.getD 4 undef, a77.tmps.getD 6 undef, a77.tmps.getD 7 undef, a77.tmps.getD 28 undef, a77.tmps.getD 29 undef, a77.tmps.getD 30 undef, a77.tmps.getD 31 undef, a77.tmps.getD 32 undef, a77.tmps.getD 33 undef, a77.tmps.getD 34 undef, a77.tmps.getD 35 undef, a77.tmps.getD 36 undef, a77.tmps.getD 37 undef, a77.tmps.getD 38 undef, a77.tmps.getD 39 undef, a77.tmps.getD 40 undef, a77.tmps.getD 41 undef, .row b6 [.int .i64 u0.ID, .bool u0.Long, .bool u0.Fast, .bool u0.Remote, .int .i64 u0.Size, .slice ao1 u0.Data.length cap2] 24, .nil, Z, Fz.le.refl _, hF149.region (by kernel_rfl) (by kernel_rfl), hM151, ff, ff, ff, ff, ff, ff, ff, ff, ff, ff, ff, ff, ff, ff, ff, ff, ff, rfl, kf, ff, ff, ff⟩
  case hs =>
   intro S hcl i o hil hi hSi hpre a w1 hI; refine Go.Sy.hid ?_; intro G hG; obtain ⟨ao102, hI⟩ := hI; obtain ⟨cap103, hI⟩ := hI; obtain ⟨b116, hI⟩ := hI; obtain ⟨ud4, hI⟩ := hI; obtain ⟨ud6, hI⟩ := hI; obtain ⟨ud7, hI⟩ := hI; obtain ⟨ud28, hI⟩ := hI; obtain ⟨ud29, hI⟩ := hI; obtain ⟨ud30, hI⟩ := hI; obtain ⟨ud31, hI⟩ := hI; obtain ⟨ud32, hI⟩ := hI; obtain ⟨ud33, hI⟩ := hI; obtain ⟨ud34, hI⟩ := hI; obtain ⟨ud35, hI⟩ := hI; obtain ⟨ud36, hI⟩ := hI; obtain ⟨ud37, hI⟩ := hI; obtain ⟨ud38, hI⟩ := hI; obtain ⟨ud39, hI⟩ := hI; obtain ⟨ud40, hI⟩ := hI; obtain ⟨ud41, hI⟩ := hI; obtain ⟨rh0, hI⟩ := hI; obtain ⟨rh1, hI⟩ := hI; obtain ⟨Z131, hI⟩ := hI; obtain ⟨hle132, hI⟩ := hI; obtain ⟨hFx, hI⟩ := hI; obtain ⟨hMx, hI⟩ := hI; obtain ⟨cu4, hI⟩ := hI; obtain ⟨cu6, hI⟩ := hI; obtain ⟨cu7, hI⟩ := hI; obtain ⟨cu28, hI⟩ := hI; obtain ⟨cu29, hI⟩ := hI; obtain ⟨cu30, hI⟩ := hI; obtain ⟨cu31, hI⟩ := hI; obtain ⟨cu32, hI⟩ := hI; obtain ⟨cu33, hI⟩ := hI; obtain ⟨cu34, hI⟩ := hI; obtain ⟨cu35, hI⟩ := hI; obtain ⟨cu36, hI⟩ := hI; obtain ⟨cu37, hI⟩ := hI; obtain ⟨cu38, hI⟩ := hI; obtain ⟨cu39, hI⟩ := hI; obtain ⟨cu40, hI⟩ := hI; obtain ⟨cu41, hI⟩ := hI; obtain ⟨cr0_0, hI⟩ := hI; obtain ⟨cr1_0, hI⟩ := hI; obtain ⟨cr1_1, hI⟩ := hI; obtain ⟨cr1_2, hI⟩ := hI; have cf0 := hI; clear hI
   have hcase : i = 0 ∨ i = 1 ∨ i = 2 ∨ i = 3 ∨ i = 4 ∨ i = 5 ∨ i = 6 ∨ i = 7 ∨ i = 8 ∨ i = 9 ∨ i = 10 ∨ i = 11 ∨ i = 12 ∨ i = 13 ∨ i = 14 ∨ i = 15 ∨ i = 16 ∨ i = 17 := by clear hi; omega
   rcases hcase with rfl | rfl | rfl | rfl | rfl | rfl | rfl | rfl | rfl | rfl | rfl | rfl | rfl | rfl | rfl | rfl | rfl | rfl
   · -- 0: move
    obtain rfl := Option.some.inj hi
    have hx0 := hSi
    have hx2 := negF hcl 2 0 (by kernel_rfl) hx0
    have hx3 := negF hcl 3 2 (by kernel_rfl) hx2
    have hx8 := negF hcl 8 3 (by kernel_rfl) hx3
    have hx9 := negF hcl 9 8 (by kernel_rfl) hx8
    have hx10 := negF hcl 10 9 (by kernel_rfl) hx9
    have hx11 := negF hcl 11 10 (by kernel_rfl) hx10
    have hx12 := negF hcl 12 10 (by kernel_rfl) hx10
    have hx13 := negF hcl 13 10 (by kernel_rfl) hx10
    have hx15 := negF hcl 15 0 (by kernel_rfl) hx0
    have hx16 := negF hcl 16 0 (by kernel_rfl) hx0
    have hx17 := negF hcl 17 0 (by kernel_rfl) hx0
    obtain rfl := cr0_0
    refine hG (any_step ?_); clear hG G; intro A J hJ
    have hle0 := Fz.le.trans hle0 hle132
    have hzst := Fz.le.refl Z131
    have hs152 := hs3.mono hle132
    refine s1 hFx 29 (str ((BitsS u0).1)) ?_; intro a153 hF154; clear hFx
    refine nl (qnI (hJ _ _ ?_)); clear hJ J
    exact ⟨ao102, cap103, b116, ud4, ud6, ud7, ud28, str ((BitsS u0).1), ud30, ud31, ud32, ud33, ud34, ud35, ud36, ud37, ud38, ud39, ud40, ud41, .row b6 [.int .i64 u0.ID, .bool u0.Long, .bool u0.Fast, .bool u0.Remote, .int .i64 u0.Size, .slice ao1 u0.Data.length cap2] 24, rh1, Z131, hle132, hF154.region (by kernel_rfl) (by kernel_rfl), hMx.perm (List.Perm.refl _), (nt hx17), cu6, (nt hx16), (nt hx10), kf, cu30, (nt hx2), (nt hx3), cu33, cu34, cu35, cu36, (nt hx8), (nt hx9), (nt hx11), (nt hx12), (nt hx13), rfl, cr1_0, cr1_1, (nt hx15), (nt hx9)⟩
   · -- 1: move
    obtain rfl := Option.some.inj hi
    have hx1 := hSi
    have hx2 := negF hcl 2 1 (by kernel_rfl) hx1
    have hx3 := negF hcl 3 2 (by kernel_rfl) hx2
    have hx8 := negF hcl 8 3 (by kernel_rfl) hx3
    have hx9 := negF hcl 9 8 (by kernel_rfl) hx8
    have hx10 := negF hcl 10 9 (by kernel_rfl) hx9
    have hx11 := negF hcl 11 10 (by kernel_rfl) hx10
    have hx12 := negF hcl 12 10 (by kernel_rfl) hx10
    have hx13 := negF hcl 13 10 (by kernel_rfl) hx10
    have hx15 := negF hcl 15 1 (by kernel_rfl) hx1
    have hx16 := negF hcl 16 1 (by kernel_rfl) hx1
    have hx17 := negF hcl 17 1 (by kernel_rfl) hx1
    obtain rfl := cr0_0
    refine hG (any_step ?_); clear hG G; intro A J hJ
    have hle0 := Fz.le.trans hle0 hle132
    have hzst := Fz.le.refl Z131
    have hs156 := hs3.mono hle132
    refine s1 hFx 30 (.int .i64 (w64 ((((BitsS u0).1).length : Int) - 9))) ?_; intro a157 hF158; clear hFx
    refine nl (qnI (hJ _ _ ?_)); clear hJ J
    exact ⟨ao102, cap103, b116, ud4, ud6, ud7, ud28, ud29, .int .i64 (w64 ((((BitsS u0).1).length : Int) - 9)), ud31, ud32, ud33, ud34, ud35, ud36, ud37, ud38, ud39, ud40, ud41, .row b6 [.int .i64 u0.ID, .bool u0.Long, .bool u0.Fast, .bool u0.Remote, .int .i64 u0.Size, .slice ao1 u0.Data.length cap2] 24, rh1, Z131, hle132, hF158.region (by kernel_rfl) (by kernel_rfl), hMx.perm (List.Perm.refl _), (nt hx17), cu6, (nt hx16), (nt hx10), cu29, kf, (nt hx2), (nt hx3), cu33, cu34, cu35, cu36, (nt hx8), (nt hx9), (nt hx11), (nt hx12), (nt hx13), rfl, cr1_0, cr1_1, (nt hx15), (nt hx9)⟩
   · -- 2: slice
    obtain rfl := Option.some.inj hi
    have hx1 := hpre 1 (by kernel_rfl)
    have hx0 := hpre 0 (by kernel_rfl)
    have hx2 := hSi
    have hx3 := negF hcl 3 2 (by kernel_rfl) hx2
    have hx8 := negF hcl 8 3 (by kernel_rfl) hx3
    have hx9 := negF hcl 9 8 (by kernel_rfl) hx8
    have hx10 := negF hcl 10 9 (by kernel_rfl) hx9
    have hx11 := negF hcl 11 10 (by kernel_rfl) hx10
    have hx12 := negF hcl 12 10 (by kernel_rfl) hx10
    have hx13 := negF hcl 13 10 (by kernel_rfl) hx10
    have hx15 := negF hcl 15 2 (by kernel_rfl) hx2
    have hx16 := negF hcl 16 2 (by kernel_rfl) hx2
    have hx17 := negF hcl 17 2 (by kernel_rfl) hx2
    obtain rfl := cu29 hx0
    obtain rfl := cu30 hx1
    obtain rfl := cr0_0
    refine hG (any_step ?_); clear hG G; intro A J hJ
    have hle0 := Fz.le.trans hle0 hle132
    have hzst := Fz.le.refl Z131
    have hs160 := hs3.mono hle132
    refine st hFx (str (((BitsS u0).1).take (w64 ((((BitsS u0).1).length : Int) - 9)).toNat)) (nog rfl _) rfl (by kernel_rfl) (strslH_run hFx (g := []) (k := .i64) rfl (by kernel_rfl) (by kernel_rfl) (by kernel_rfl) hcd2_0 rfl) ?_; intro a161 hF162; clear hFx
    refine nl (qnI (hJ _ _ ?_)); clear hJ J
    exact ⟨ao102, cap103, b116, ud4, ud6, ud7, ud28, str ((BitsS u0).1), .int .i64 (w64 ((((BitsS u0).1).length : Int) - 9)), str (((BitsS u0).1).take (w64 ((((BitsS u0).1).length : Int) - 9)).toNat), ud32, ud33, ud34, ud35, ud36, ud37, ud38, ud39, ud40, ud41, .row b6 [.int .i64 u0.ID, .bool u0.Long, .bool u0.Fast, .bool u0.Remote, .int .i64 u0.Size, .slice ao1 u0.Data.length cap2] 24, rh1, Z131, hle132, hF162.region (by kernel_rfl) (by kernel_rfl), hMx.perm (List.Perm.refl _), (nt hx17), cu6, (nt hx16), (nt hx10), kf, kf, kf, (nt hx3), cu33, cu34, cu35, cu36, (nt hx8), (nt hx9), (nt hx11), (nt hx12), (nt hx13), rfl, cr1_0, cr1_1, (nt hx15), (nt hx9)⟩
   · -- 3: binOp
    obtain rfl := Option.some.inj hi
    have hx2 := hpre 2 (by kernel_rfl)
    have hx1 := hcl 2 1 (by kernel_rfl) hx2
    have hx0 := hcl 2 0 (by kernel_rfl) hx2
    have hx3 := hSi
    have hx8 := negF hcl 8 3 (by kernel_rfl) hx3
    have hx9 := negF hcl 9 8 (by kernel_rfl) hx8
    have hx10 := negF hcl 10 9 (by kernel_rfl) hx9
    have hx11 := negF hcl 11 10 (by kernel_rfl) hx10
    have hx12 := negF hcl 12 10 (by kernel_rfl) hx10
    have hx13 := negF hcl 13 10 (by kernel_rfl) hx10
    have hx15 := negF hcl 15 3 (by kernel_rfl) hx3
    have hx16 := negF hcl 16 3 (by kernel_rfl) hx3
    have hx17 := negF hcl 17 3 (by kernel_rfl) hx3
    obtain rfl := cu29 hx0
    obtain rfl := cu30 hx1
    obtain rfl := cu31 hx2
    obtain rfl := cr0_0
    refine hG (any_step ?_); clear hG G; intro A J hJ
    have hle0 := Fz.le.trans hle0 hle132
    have hzst := Fz.le.refl Z131
    have hs164 := hs3.mono hle132
    refine st hFx (str ((((BitsS u0).1).take (w64 ((((BitsS u0).1).length : Int) - 9)).toNat) ++ ([48] : List UInt8))) (nog rfl _) rfl (by kernel_rfl) (stradd_run hFx (g := []) rfl (by kernel_rfl) (by kernel_rfl) hcd3_0 rfl) ?_; intro a165 hF166; clear hFx
    refine nl (qnI (hJ _ _ ?_)); clear hJ J
    exact ⟨ao102, cap103, b116, ud4, ud6, ud7, ud28, str ((BitsS u0).1), .int .i64 (w64 ((((BitsS u0).1).length : Int) - 9)), str (((BitsS u0).1).take (w64 ((((BitsS u0).1).length : Int) - 9)).toNat), str ((((BitsS u0).1).take (w64 ((((BitsS u0).1).length : Int) - 9)).toNat) ++ ([48] : List UInt8)), ud33, ud34, ud35, ud36, ud37, ud38, ud39, ud40, ud41, .row b6 [.int .i64 u0.ID, .bool u0.Long, .bool u0.Fast, .bool u0.Remote, .int .i64 u0.Size, .slice ao1 u0.Data.length cap2] 24, rh1, Z131, hle132, hF166.region (by kernel_rfl) (by kernel_rfl), hMx.perm (List.Perm.refl _), (nt hx17), cu6, (nt hx16), (nt hx10), kf, kf, kf, kf, cu33, cu34, cu35, cu36, (nt hx8), (nt hx9), (nt hx11), (nt hx12), (nt hx13), rfl, cr1_0, cr1_1, (nt hx15), (nt hx9)⟩
   · -- 4: move
    obtain rfl := Option.some.inj hi
    have hx4 := hSi
    have hx7 := negF hcl 7 4 (by kernel_rfl) hx4
    have hx8 := negF hcl 8 7 (by kernel_rfl) hx7
    have hx9 := negF hcl 9 8 (by kernel_rfl) hx8
    have hx10 := negF hcl 10 9 (by kernel_rfl) hx9
    have hx11 := negF hcl 11 10 (by kernel_rfl) hx10
    have hx12 := negF hcl 12 10 (by kernel_rfl) hx10
    have hx13 := negF hcl 13 10 (by kernel_rfl) hx10
    have hx15 := negF hcl 15 4 (by kernel_rfl) hx4
    have hx16 := negF hcl 16 4 (by kernel_rfl) hx4
    have hx17 := negF hcl 17 4 (by kernel_rfl) hx4
    obtain rfl := cr0_0
    refine hG (any_step ?_); clear hG G; intro A J hJ
    have hle0 := Fz.le.trans hle0 hle132
    have hzst := Fz.le.refl Z131
    have hs168 := hs3.mono hle132
    refine s1 hFx 33 (str ((BitsS u0).1)) ?_; intro a169 hF170; clear hFx
    refine nl (qnI (hJ _ _ ?_)); clear hJ J
    exact ⟨ao102, cap103, b116, ud4, ud6, ud7, ud28, ud29, ud30, ud31, ud32, str ((BitsS u0).1), ud34, ud35, ud36, ud37, ud38, ud39, ud40, ud41, .row b6 [.int .i64 u0.ID, .bool u0.Long, .bool u0.Fast, .bool u0.Remote, .int .i64 u0.Size, .slice ao1 u0.Data.length cap2] 24, rh1, Z131, hle132, hF170.region (by kernel_rfl) (by kernel_rfl), hMx.perm (List.Perm.refl _), (nt hx17), cu6, (nt hx16), (nt hx10), cu29, cu30, cu31, cu32, kf, cu34, cu35, (nt hx7), (nt hx8), (nt hx9), (nt hx11), (nt hx12), (nt hx13), rfl, cr1_0, cr1_1, (nt hx15), (nt hx9)⟩
   · -- 5: move
    obtain rfl := Option.some.inj hi
    have hx5 := hSi
    have hx6 := negF hcl 6 5 (by kernel_rfl) hx5
    have hx7 := negF hcl 7 6 (by kernel_rfl) hx6
    have hx8 := negF hcl 8 7 (by kernel_rfl) hx7
    have hx9 := negF hcl 9 8 (by kernel_rfl) hx8
    have hx10 := negF hcl 10 9 (by kernel_rfl) hx9
    have hx11 := negF hcl 11 10 (by kernel_rfl) hx10
    have hx12 := negF hcl 12 10 (by kernel_rfl) hx10
    have hx13 := negF hcl 13 10 (by kernel_rfl) hx10
    have hx15 := negF hcl 15 5 (by kernel_rfl) hx5
    have hx16 := negF hcl 16 5 (by kernel_rfl) hx5
    have hx17 := negF hcl 17 5 (by kernel_rfl) hx5
    obtain rfl := cr0_0
    refine hG (any_step ?_); clear hG G; intro A J hJ
    have hle0 := Fz.le.trans hle0 hle132
    have hzst := Fz.le.refl Z131
    have hs172 := hs3.mono hle132
    refine s1 hFx 34 (.int .i64 (w64 ((((BitsS u0).1).length : Int) - 9))) ?_; intro a173 hF174; clear hFx
    refine nl (qnI (hJ _ _ ?_)); clear hJ J
    exact ⟨ao102, cap103, b116, ud4, ud6, ud7, ud28, ud29, ud30, ud31, ud32, ud33, .int .i64 (w64 ((((BitsS u0).1).length : Int) - 9)), ud35, ud36, ud37, ud38, ud39, ud40, ud41, .row b6 [.int .i64 u0.ID, .bool u0.Long, .bool u0.Fast, .bool u0.Remote, .int .i64 u0.Size, .slice ao1 u0.Data.length cap2] 24, rh1, Z131, hle132, hF174.region (by kernel_rfl) (by kernel_rfl), hMx.perm (List.Perm.refl _), (nt hx17), cu6, (nt hx16), (nt hx10), cu29, cu30, cu31, cu32, cu33, kf, (nt hx6), (nt hx7), (nt hx8), (nt hx9), (nt hx11), (nt hx12), (nt hx13), rfl, cr1_0, cr1_1, (nt hx15), (nt hx9)⟩
   · -- 6: binOp
    obtain rfl := Option.some.inj hi
    have hx5 := hpre 5 (by kernel_rfl)
    have hx6 := hSi
    have hx7 := negF hcl 7 6 (by kernel_rfl) hx6
    have hx8 := negF hcl 8 7 (by kernel_rfl) hx7
    have hx9 := negF hcl 9 8 (by kernel_rfl) hx8
    have hx10 := negF hcl 10 9 (by kernel_rfl) hx9
    have hx11 := negF hcl 11 10 (by kernel_rfl) hx10
    have hx12 := negF hcl 12 10 (by kernel_rfl) hx10
    have hx13 := negF hcl 13 10 (by kernel_rfl) hx10
    have hx15 := negF hcl 15 6 (by kernel_rfl) hx6
    have hx16 := negF hcl 16 6 (by kernel_rfl) hx6
    have hx17 := negF hcl 17 6 (by kernel_rfl) hx6
    obtain rfl := cu34 hx5
    obtain rfl := cr0_0
    refine hG (any_step ?_); clear hG G; intro A J hJ
    have hle0 := Fz.le.trans hle0 hle132
    have hzst := Fz.le.refl Z131
    have hs176 := hs3.mono hle132
    refine s1 hFx 35 (.int .i64 (w64 ((w64 ((((BitsS u0).1).length : Int) - 9)) + 1))) ?_; intro a177 hF178; clear hFx
    refine nl (qnI (hJ _ _ ?_)); clear hJ J
    exact ⟨ao102, cap103, b116, ud4, ud6, ud7, ud28, ud29, ud30, ud31, ud32, ud33, .int .i64 (w64 ((((BitsS u0).1).length : Int) - 9)), .int .i64 (w64 ((w64 ((((BitsS u0).1).length : Int) - 9)) + 1)), ud36, ud37, ud38, ud39, ud40, ud41, .row b6 [.int .i64 u0.ID, .bool u0.Long, .bool u0.Fast, .bool u0.Remote, .int .i64 u0.Size, .slice ao1 u0.Data.length cap2] 24, rh1, Z131, hle132, hF178.region (by kernel_rfl) (by kernel_rfl), hMx.perm (List.Perm.refl _), (nt hx17), cu6, (nt hx16), (nt hx10), cu29, cu30, cu31, cu32, cu33, kf, kf, (nt hx7), (nt hx8), (nt hx9), (nt hx11), (nt hx12), (nt hx13), rfl, cr1_0, cr1_1, (nt hx15), (nt hx9)⟩
   · -- 7: slice
    obtain rfl := Option.some.inj hi
    have hx6 := hpre 6 (by kernel_rfl)
    have hx4 := hpre 4 (by kernel_rfl)
    have hx5 := hcl 6 5 (by kernel_rfl) hx6
    have hx7 := hSi
    have hx8 := negF hcl 8 7 (by kernel_rfl) hx7
    have hx9 := negF hcl 9 8 (by kernel_rfl) hx8
    have hx10 := negF hcl 10 9 (by kernel_rfl) hx9
    have hx11 := negF hcl 11 10 (by kernel_rfl) hx10
    have hx12 := negF hcl 12 10 (by kernel_rfl) hx10
    have hx13 := negF hcl 13 10 (by kernel_rfl) hx10
    have hx15 := negF hcl 15 7 (by kernel_rfl) hx7
    have hx16 := negF hcl 16 7 (by kernel_rfl) hx7
    have hx17 := negF hcl 17 7 (by kernel_rfl) hx7
    obtain rfl := cu33 hx4
    obtain rfl := cu34 hx5
    obtain rfl := cu35 hx6
    obtain rfl := cr0_0
    refine hG (any_step ?_); clear hG G; intro A J hJ
    have hle0 := Fz.le.trans hle0 hle132
    have hzst := Fz.le.refl Z131
    have hs180 := hs3.mono hle132
    refine st hFx (str (((BitsS u0).1).drop (w64 ((w64 ((((BitsS u0).1).length : Int) - 9)) + 1)).toNat)) (nog rfl _) rfl (by kernel_rfl) (strslL_run hFx (g := []) (k := .i64) rfl (by kernel_rfl) (by kernel_rfl) (by kernel_rfl) hcd7_0 rfl) ?_; intro a181 hF182; clear hFx
    refine nl (qnI (hJ _ _ ?_)); clear hJ J
    exact ⟨ao102, cap103, b116, ud4, ud6, ud7, ud28, ud29, ud30, ud31, ud32, str ((BitsS u0).1), .int .i64 (w64 ((((BitsS u0).1).length : Int) - 9)), .int .i64 (w64 ((w64 ((((BitsS u0).1).length : Int) - 9)) + 1)), str (((BitsS u0).1).drop (w64 ((w64 ((((BitsS u0).1).length : Int) - 9)) + 1)).toNat), ud37, ud38, ud39, ud40, ud41, .row b6 [.int .i64 u0.ID, .bool u0.Long, .bool u0.Fast, .bool u0.Remote, .int .i64 u0.Size, .slice ao1 u0.Data.length cap2] 24, rh1, Z131, hle132, hF182.region (by kernel_rfl) (by kernel_rfl), hMx.perm (List.Perm.refl _), (nt hx17), cu6, (nt hx16), (nt hx10), cu29, cu30, cu31, cu32, kf, kf, kf, kf, (nt hx8), (nt hx9), (nt hx11), (nt hx12), (nt hx13), rfl, cr1_0, cr1_1, (nt hx15), (nt hx9)⟩
   · -- 8: binOp
    obtain rfl := Option.some.inj hi
    have hx7 := hpre 7 (by kernel_rfl)
    have hx3 := hpre 3 (by kernel_rfl)
    have hx6 := hcl 7 6 (by kernel_rfl) hx7
    have hx4 := hcl 7 4 (by kernel_rfl) hx7
    have hx2 := hcl 3 2 (by kernel_rfl) hx3
    have hx5 := hcl 6 5 (by kernel_rfl) hx6
    have hx1 := hcl 2 1 (by kernel_rfl) hx2
    have hx0 := hcl 2 0 (by kernel_rfl) hx2
    have hx8 := hSi
    have hx9 := negF hcl 9 8 (by kernel_rfl) hx8
    have hx10 := negF hcl 10 9 (by kernel_rfl) hx9
    have hx11 := negF hcl 11 10 (by kernel_rfl) hx10
    have hx12 := negF hcl 12 10 (by kernel_rfl) hx10
    have hx13 := negF hcl 13 10 (by kernel_rfl) hx10
    have hx15 := negF hcl 15 8 (by kernel_rfl) hx8
    have hx16 := negF hcl 16 8 (by kernel_rfl) hx8
    have hx17 := negF hcl 17 8 (by kernel_rfl) hx8
    obtain rfl := cu29 hx0
    obtain rfl := cu30 hx1
    obtain rfl := cu31 hx2
    obtain rfl := cu32 hx3
    obtain rfl := cu33 hx4
    obtain rfl := cu34 hx5
    obtain rfl := cu35 hx6
    obtain rfl := cu36 hx7
    obtain rfl := cr0_0
    refine hG (any_step ?_); clear hG G; intro A J hJ
    have hle0 := Fz.le.trans hle0 hle132
    have hzst := Fz.le.refl Z131
    have hs184 := hs3.mono hle132
    refine st hFx (str (((((BitsS u0).1).take (w64 ((((BitsS u0).1).length : Int) - 9)).toNat) ++ ([48] : List UInt8)) ++ (((BitsS u0).1).drop (w64 ((w64 ((((BitsS u0).1).length : Int) - 9)) + 1)).toNat))) (nog rfl _) rfl (by kernel_rfl) (stradd_run hFx (g := []) rfl (by kernel_rfl) (by kernel_rfl) hcd8_0 rfl) ?_; intro a185 hF186; clear hFx
    refine nl (qnI (hJ _ _ ?_)); clear hJ J
    exact ⟨ao102, cap103, b116, ud4, ud6, ud7, ud28, str ((BitsS u0).1), .int .i64 (w64 ((((BitsS u0).1).length : Int) - 9)), str (((BitsS u0).1).take (w64 ((((BitsS u0).1).length : Int) - 9)).toNat), str ((((BitsS u0).1).take (w64 ((((BitsS u0).1).length : Int) - 9)).toNat) ++ ([48] : List UInt8)), str ((BitsS u0).1), .int .i64 (w64 ((((BitsS u0).1).length : Int) - 9)), .int .i64 (w64 ((w64 ((((BitsS u0).1).length : Int) - 9)) + 1)), str (((BitsS u0).1).drop (w64 ((w64 ((((BitsS u0).1).length : Int) - 9)) + 1)).toNat), str (((((BitsS u0).1).take (w64 ((((BitsS u0).1).length : Int) - 9)).toNat) ++ ([48] : List UInt8)) ++ (((BitsS u0).1).drop (w64 ((w64 ((((BitsS u0).1).length : Int) - 9)) + 1)).toNat)), ud38, ud39, ud40, ud41, .row b6 [.int .i64 u0.ID, .bool u0.Long, .bool u0.Fast, .bool u0.Remote, .int .i64 u0.Size, .slice ao1 u0.Data.length cap2] 24, rh1, Z131, hle132, hF186.region (by kernel_rfl) (by kernel_rfl), hMx.perm (List.Perm.refl _), (nt hx17), cu6, (nt hx16), (nt hx10), kf, kf, kf, kf, kf, kf, kf, kf, kf, (nt hx9), (nt hx11), (nt hx12), (nt hx13), rfl, cr1_0, cr1_1, (nt hx15), (nt hx9)⟩
   · -- 9: call
    obtain rfl := Option.some.inj hi
    have hx8 := hpre 8 (by kernel_rfl)
    have hx7 := hcl 8 7 (by kernel_rfl) hx8
    have hx3 := hcl 8 3 (by kernel_rfl) hx8
    have hx6 := hcl 7 6 (by kernel_rfl) hx7
    have hx4 := hcl 7 4 (by kernel_rfl) hx7
    have hx2 := hcl 3 2 (by kernel_rfl) hx3
    have hx5 := hcl 6 5 (by kernel_rfl) hx6
    have hx1 := hcl 2 1 (by kernel_rfl) hx2
    have hx0 := hcl 2 0 (by kernel_rfl) hx2
    have hx9 := hSi
    have hx10 := negF hcl 10 9 (by kernel_rfl) hx9
    have hx11 := negF hcl 11 10 (by kernel_rfl) hx10
    have hx12 := negF hcl 12 10 (by kernel_rfl) hx10
    have hx13 := negF hcl 13 10 (by kernel_rfl) hx10
    have hx15 := negF hcl 15 9 (by kernel_rfl) hx9
    have hx16 := negF hcl 16 9 (by kernel_rfl) hx9
    have hx17 := negF hcl 17 9 (by kernel_rfl) hx9
    obtain rfl := cu29 hx0
    obtain rfl := cu30 hx1
    obtain rfl := cu31 hx2
    obtain rfl := cu32 hx3
    obtain rfl := cu33 hx4
    obtain rfl := cu34 hx5
    obtain rfl := cu35 hx6
    obtain rfl := cu36 hx7
    obtain rfl := cu37 hx8
    obtain rfl := cr0_0
    refine hG (any_step ?_); clear hG G; intro A J hJ
    have hle0 := Fz.le.trans hle0 hle132
    have hzst := Fz.le.refl Z131
    have hs188 := hs3.mono hle132
    refine cl hFx 12 #[str (((((BitsS u0).1).take (w64 ((((BitsS u0).1).length : Int) - 9)).toNat) ++ ([48] : List UInt8)) ++ (((BitsS u0).1).drop (w64 ((w64 ((((BitsS u0).1).length : Int) - 9)) + 1)).toNat))] (nog rfl _) rfl (by kernel_rfl) (by kernel_rfl) ?_
    refine (fRead_fun (((((BitsS u0).1).take (w64 ((((BitsS u0).1).length : Int) - 9)).toNat) ++ ([48] : List UInt8)) ++ (((BitsS u0).1).drop (w64 ((w64 ((((BitsS u0).1).length : Int) - 9)) + 1)).toNat)) _ _ hMx.fz).mono ?_; rintro _ wd189 ⟨ao193, cap194, Z196, rfl, hs195, hm⟩; refine ⟨_, rfl, ?_⟩; intro a190 hF191; have hM192 := hMx.callZ hm; have hle197 := hm.ext.le; clear hm hMx hFx
    replace hzst := hzst.mono hle197
    replace hs188 := hs188.mono hle197
    replace hle0 := Fz.le.trans hle0 hle197
    have hM198 : Mem w.heap.size [] w Z [.row b6 [.int .i64 u0.ID, .bool u0.Long, .bool u0.Fast, .bool u0.Remote, .int .i64 u0.Size, .slice ao1 u0.Data.length cap2] 24, rh1] Z196 wd189 := hM192; clear hM192
    refine nl (qnI (hJ _ _ ?_)); clear hJ J
    exact ⟨ao193, cap194, b116, ud4, ud6, ud7, ud28, str ((BitsS u0).1), .int .i64 (w64 ((((BitsS u0).1).length : Int) - 9)), str (((BitsS u0).1).take (w64 ((((BitsS u0).1).length : Int) - 9)).toNat), str ((((BitsS u0).1).take (w64 ((((BitsS u0).1).length : Int) - 9)).toNat) ++ ([48] : List UInt8)), str ((BitsS u0).1), .int .i64 (w64 ((((BitsS u0).1).length : Int) - 9)), .int .i64 (w64 ((w64 ((((BitsS u0).1).length : Int) - 9)) + 1)), str (((BitsS u0).1).drop (w64 ((w64 ((((BitsS u0).1).length : Int) - 9)) + 1)).toNat), str (((((BitsS u0).1).take (w64 ((((BitsS u0).1).length : Int) - 9)).toNat) ++ ([48] : List UInt8)) ++ (((BitsS u0).1).drop (w64 ((w64 ((((BitsS u0).1).length : Int) - 9)) + 1)).toNat)), .tuple #[.agg #[.int .i64 (((readS (((((BitsS u0).1).take (w64 ((((BitsS u0).1).length : Int) - 9)).toNat) ++ ([48] : List UInt8)) ++ (((BitsS u0).1).drop (w64 ((w64 ((((BitsS u0).1).length : Int) - 9)) + 1)).toNat))).1).ID), .bool (((readS (((((BitsS u0).1).take (w64 ((((BitsS u0).1).length : Int) - 9)).toNat) ++ ([48] : List UInt8)) ++ (((BitsS u0).1).drop (w64 ((w64 ((((BitsS u0).1).length : Int) - 9)) + 1)).toNat))).1).Long), .bool (((readS (((((BitsS u0).1).take (w64 ((((BitsS u0).1).length : Int) - 9)).toNat) ++ ([48] : List UInt8)) ++ (((BitsS u0).1).drop (w64 ((w64 ((((BitsS u0).1).length : Int) - 9)) + 1)).toNat))).1).Fast), .bool (((readS (((((BitsS u0).1).take (w64 ((((BitsS u0).1).length : Int) - 9)).toNat) ++ ([48] : List UInt8)) ++ (((BitsS u0).1).drop (w64 ((w64 ((((BitsS u0).1).length : Int) - 9)) + 1)).toNat))).1).Remote), .int .i64 (((readS (((((BitsS u0).1).take (w64 ((((BitsS u0).1).length : Int) - 9)).toNat) ++ ([48] : List UInt8)) ++ (((BitsS u0).1).drop (w64 ((w64 ((((BitsS u0).1).length : Int) - 9)) + 1)).toNat))).1).Size), .slice ao193 (((readS (((((BitsS u0).1).take (w64 ((((BitsS u0).1).length : Int) - 9)).toNat) ++ ([48] : List UInt8)) ++ (((BitsS u0).1).drop (w64 ((w64 ((((BitsS u0).1).length : Int) - 9)) + 1)).toNat))).1).Data).length cap194], .int .i64 ((readS (((((BitsS u0).1).take (w64 ((((BitsS u0).1).length : Int) - 9)).toNat) ++ ([48] : List UInt8)) ++ (((BitsS u0).1).drop (w64 ((w64 ((((BitsS u0).1).length : Int) - 9)) + 1)).toNat))).2.1), .int .i64 ((readS (((((BitsS u0).1).take (w64 ((((BitsS u0).1).length : Int) - 9)).toNat) ++ ([48] : List UInt8)) ++ (((BitsS u0).1).drop (w64 ((w64 ((((BitsS u0).1).length : Int) - 9)) + 1)).toNat))).2.2)], ud39, ud40, ud41, .row b6 [.int .i64 u0.ID, .bool u0.Long, .bool u0.Fast, .bool u0.Remote, .int .i64 u0.Size, .slice ao1 u0.Data.length cap2] 24, rh1, Z196, hle132.trans hzst, hF191.region (by kernel_rfl) (by kernel_rfl), hM198.perm (List.Perm.refl _), (nt hx17), cu6, (nt hx16), (nt hx10), kf, kf, kf, kf, kf, kf, kf, kf, kf, kf, (nt hx11), (nt hx12), (nt hx13), rfl, cr1_0, cr1_1, (nt hx15), (fun _ => hs195)⟩
   · -- 10: move
    obtain rfl := Option.some.inj hi
    have hx9 := hpre 9 (by kernel_rfl)
    have hx8 := hcl 9 8 (by kernel_rfl) hx9
    have hx7 := hcl 8 7 (by kernel_rfl) hx8
    have hx3 := hcl 8 3 (by kernel_rfl) hx8
    have hx6 := hcl 7 6 (by kernel_rfl) hx7
    have hx4 := hcl 7 4 (by kernel_rfl) hx7
    have hx2 := hcl 3 2 (by kernel_rfl) hx3
    have hx5 := hcl 6 5 (by kernel_rfl) hx6
    have hx1 := hcl 2 1 (by kernel_rfl) hx2
    have hx0 := hcl 2 0 (by kernel_rfl) hx2
    have hx10 := hSi
    have hx11 := negF hcl 11 10 (by kernel_rfl) hx10
    have hx12 := negF hcl 12 10 (by kernel_rfl) hx10
    have hx13 := negF hcl 13 10 (by kernel_rfl) hx10
    have hx15 := negF hcl 15 10 (by kernel_rfl) hx10
    have hx16 := negF hcl 16 10 (by kernel_rfl) hx10
    have hx17 := negF hcl 17 10 (by kernel_rfl) hx10
    obtain rfl := cu29 hx0
    obtain rfl := cu30 hx1
    obtain rfl := cu31 hx2
    obtain rfl := cu32 hx3
    obtain rfl := cu33 hx4
    obtain rfl := cu34 hx5
    obtain rfl := cu35 hx6
    obtain rfl := cu36 hx7
    obtain rfl := cu37 hx8
    obtain rfl := cu38 hx9
    obtain rfl := cr0_0
    refine hG (any_step ?_); clear hG G; intro A J hJ
    have hle0 := Fz.le.trans hle0 hle132
    have hzst := Fz.le.refl Z131
    have hs200 := hs3.mono hle132
    have hs201 := cf0 hx9
    refine s1 hFx 28 (.tuple #[.agg #[.int .i64 (((readS (((((BitsS u0).1).take (w64 ((((BitsS u0).1).length : Int) - 9)).toNat) ++ ([48] : List UInt8)) ++ (((BitsS u0).1).drop (w64 ((w64 ((((BitsS u0).1).length : Int) - 9)) + 1)).toNat))).1).ID), .bool (((readS (((((BitsS u0).1).take (w64 ((((BitsS u0).1).length : Int) - 9)).toNat) ++ ([48] : List UInt8)) ++ (((BitsS u0).1).drop (w64 ((w64 ((((BitsS u0).1).length : Int) - 9)) + 1)).toNat))).1).Long), .bool (((readS (((((BitsS u0).1).take (w64 ((((BitsS u0).1).length : Int) - 9)).toNat) ++ ([48] : List UInt8)) ++ (((BitsS u0).1).drop (w64 ((w64 ((((BitsS u0).1).length : Int) - 9)) + 1)).toNat))).1).Fast), .bool (((readS (((((BitsS u0).1).take (w64 ((((BitsS u0).1).length : Int) - 9)).toNat) ++ ([48] : List UInt8)) ++ (((BitsS u0).1).drop (w64 ((w64 ((((BitsS u0).1).length : Int) - 9)) + 1)).toNat))).1).Remote), .int .i64 (((readS (((((BitsS u0).1).take (w64 ((((BitsS u0).1).length : Int) - 9)).toNat) ++ ([48] : List UInt8)) ++ (((BitsS u0).1).drop (w64 ((w64 ((((BitsS u0).1).length : Int) - 9)) + 1)).toNat))).1).Size), .slice ao102 (((readS (((((BitsS u0).1).take (w64 ((((BitsS u0).1).length : Int) - 9)).toNat) ++ ([48] : List UInt8)) ++ (((BitsS u0).1).drop (w64 ((w64 ((((BitsS u0).1).length : Int) - 9)) + 1)).toNat))).1).Data).length cap103], .int .i64 ((readS (((((BitsS u0).1).take (w64 ((((BitsS u0).1).length : Int) - 9)).toNat) ++ ([48] : List UInt8)) ++ (((BitsS u0).1).drop (w64 ((w64 ((((BitsS u0).1).length : Int) - 9)) + 1)).toNat))).2.1), .int .i64 ((readS (((((BitsS u0).1).take (w64 ((((BitsS u0).1).length : Int) - 9)).toNat) ++ ([48] : List UInt8)) ++ (((BitsS u0).1).drop (w64 ((w64 ((((BitsS u0).1).length : Int) - 9)) + 1)).toNat))).2.2)]) ?_; intro a202 hF203; clear hFx
    refine nl (qnI (hJ _ _ ?_)); clear hJ J
    exact ⟨ao102, cap103, b116, ud4, ud6, ud7, .tuple #[.agg #[.int .i64 (((readS (((((BitsS u0).1).take (w64 ((((BitsS u0).1).length : Int) - 9)).toNat) ++ ([48] : List UInt8)) ++ (((BitsS u0).1).drop (w64 ((w64 ((((BitsS u0).1).length : Int) - 9)) + 1)).toNat))).1).ID), .bool (((readS (((((BitsS u0).1).take (w64 ((((BitsS u0).1).length : Int) - 9)).toNat) ++ ([48] : List UInt8)) ++ (((BitsS u0).1).drop (w64 ((w64 ((((BitsS u0).1).length : Int) - 9)) + 1)).toNat))).1).Long), .bool (((readS (((((BitsS u0).1).take (w64 ((((BitsS u0).1).length : Int) - 9)).toNat) ++ ([48] : List UInt8)) ++ (((BitsS u0).1).drop (w64 ((w64 ((((BitsS u0).1).length : Int) - 9)) + 1)).toNat))).1).Fast), .bool (((readS (((((BitsS u0).1).take (w64 ((((BitsS u0).1).length : Int) - 9)).toNat) ++ ([48] : List UInt8)) ++ (((BitsS u0).1).drop (w64 ((w64 ((((BitsS u0).1).length : Int) - 9)) + 1)).toNat))).1).Remote), .int .i64 (((readS (((((BitsS u0).1).take (w64 ((((BitsS u0).1).length : Int) - 9)).toNat) ++ ([48] : List UInt8)) ++ (((BitsS u0).1).drop (w64 ((w64 ((((BitsS u0).1).length : Int) - 9)) + 1)).toNat))).1).Size), .slice ao102 (((readS (((((BitsS u0).1).take (w64 ((((BitsS u0).1).length : Int) - 9)).toNat) ++ ([48] : List UInt8)) ++ (((BitsS u0).1).drop (w64 ((w64 ((((BitsS u0).1).length : Int) - 9)) + 1)).toNat))).1).Data).length cap103], .int .i64 ((readS (((((BitsS u0).1).take (w64 ((((BitsS u0).1).length : Int) - 9)).toNat) ++ ([48] : List UInt8)) ++ (((BitsS u0).1).drop (w64 ((w64 ((((BitsS u0).1).length : Int) - 9)) + 1)).toNat))).2.1), .int .i64 ((readS (((((BitsS u0).1).take (w64 ((((BitsS u0).1).length : Int) - 9)).toNat) ++ ([48] : List UInt8)) ++ (((BitsS u0).1).drop (w64 ((w64 ((((BitsS u0).1).length : Int) - 9)) + 1)).toNat))).2.2)], str ((BitsS u0).1), .int .i64 (w64 ((((BitsS u0).1).length : Int) - 9)), str (((BitsS u0).1).take (w64 ((((BitsS u0).1).length : Int) - 9)).toNat), str ((((BitsS u0).1).take (w64 ((((BitsS u0).1).length : Int) - 9)).toNat) ++ ([48] : List UInt8)), str ((BitsS u0).1), .int .i64 (w64 ((((BitsS u0).1).length : Int) - 9)), .int .i64 (w64 ((w64 ((((BitsS u0).1).length : Int) - 9)) + 1)), str (((BitsS u0).1).drop (w64 ((w64 ((((BitsS u0).1).length : Int) - 9)) + 1)).toNat), str (((((BitsS u0).1).take (w64 ((((BitsS u0).1).length : Int) - 9)).toNat) ++ ([48] : List UInt8)) ++ (((BitsS u0).1).drop (w64 ((w64 ((((BitsS u0).1).length : Int) - 9)) + 1)).toNat)), .tuple #[.agg #[.int .i64 (((readS (((((BitsS u0).1).take (w64 ((((BitsS u0).1).length : Int) - 9)).toNat) ++ ([48] : List UInt8)) ++ (((BitsS u0).1).drop (w64 ((w64 ((((BitsS u0).1).length : Int) - 9)) + 1)).toNat))).1).ID), .bool (((readS (((((BitsS u0).1).take (w64 ((((BitsS u0).1).length : Int) - 9)).toNat) ++ ([48] : List UInt8)) ++ (((BitsS u0).1).drop (w64 ((w64 ((((BitsS u0).1).length : Int) - 9)) + 1)).toNat))).1).Long), .bool (((readS (((((BitsS u0).1).take (w64 ((((BitsS u0).1).length : Int) - 9)).toNat) ++ ([48] : List UInt8)) ++ (((BitsS u0).1).drop (w64 ((w64 ((((BitsS u0).1).length : Int) - 9)) + 1)).toNat))).1).Fast), .bool (((readS (((((BitsS u0).1).take (w64 ((((BitsS u0).1).length : Int) - 9)).toNat) ++ ([48] : List UInt8)) ++ (((BitsS u0).1).drop (w64 ((w64 ((((BitsS u0).1).length : Int) - 9)) + 1)).toNat))).1).Remote), .int .i64 (((readS (((((BitsS u0).1).take (w64 ((((BitsS u0).1).length : Int) - 9)).toNat) ++ ([48] : List UInt8)) ++ (((BitsS u0).1).drop (w64 ((w64 ((((BitsS u0).1).length : Int) - 9)) + 1)).toNat))).1).Size), .slice ao102 (((readS (((((BitsS u0).1).take (w64 ((((BitsS u0).1).length : Int) - 9)).toNat) ++ ([48] : List UInt8)) ++ (((BitsS u0).1).drop (w64 ((w64 ((((BitsS u0).1).length : Int) - 9)) + 1)).toNat))).1).Data).length cap103], .int .i64 ((readS (((((BitsS u0).1).take (w64 ((((BitsS u0).1).length : Int) - 9)).toNat) ++ ([48] : List UInt8)) ++ (((BitsS u0).1).drop (w64 ((w64 ((((BitsS u0).1).length : Int) - 9)) + 1)).toNat))).2.1), .int .i64 ((readS (((((BitsS u0).1).take (w64 ((((BitsS u0).1).length : Int) - 9)).toNat) ++ ([48] : List UInt8)) ++ (((BitsS u0).1).drop (w64 ((w64 ((((BitsS u0).1).length : Int) - 9)) + 1)).toNat))).2.2)], ud39, ud40, ud41, .row b6 [.int .i64 u0.ID, .bool u0.Long, .bool u0.Fast, .bool u0.Remote, .int .i64 u0.Size, .slice ao1 u0.Data.length cap2] 24, rh1, Z131, hle132, hF203.region (by kernel_rfl) (by kernel_rfl), hMx.perm (List.Perm.refl _), (nt hx17), cu6, (nt hx16), kf, kf, kf, kf, kf, kf, kf, kf, kf, kf, kf, (nt hx11), (nt hx12), (nt hx13), rfl, cr1_0, cr1_1, (nt hx15), (fun _ => hs201)⟩
   · -- 11: extract
    obtain rfl := Option.some.inj hi
    have hx10 := hpre 10 (by kernel_rfl)
    have hx9 := hcl 10 9 (by kernel_rfl) hx10
    have hx8 := hcl 9 8 (by kernel_rfl) hx9
    have hx7 := hcl 8 7 (by kernel_rfl) hx8
    have hx3 := hcl 8 3 (by kernel_rfl) hx8
    have hx6 := hcl 7 6 (by kernel_rfl) hx7
    have hx4 := hcl 7 4 (by kernel_rfl) hx7
    have hx2 := hcl 3 2 (by kernel_rfl) hx3
    have hx5 := hcl 6 5 (by kernel_rfl) hx6
    have hx1 := hcl 2 1 (by kernel_rfl) hx2
    have hx0 := hcl 2 0 (by kernel_rfl) hx2
    have hx11 := hSi
    have hx15 := negF hcl 15 11 (by kernel_rfl) hx11
    have hx16 := negF hcl 16 11 (by kernel_rfl) hx11
    have hx17 := negF hcl 17 11 (by kernel_rfl) hx11
    obtain rfl := cu28 hx10
    obtain rfl := cu29 hx0
    obtain rfl := cu30 hx1
    obtain rfl := cu31 hx2
    obtain rfl := cu32 hx3
    obtain rfl := cu33 hx4
    obtain rfl := cu34 hx5
    obtain rfl := cu35 hx6
    obtain rfl := cu36 hx7
    obtain rfl := cu37 hx8
    obtain rfl := cu38 hx9
    obtain rfl := cr0_0
    refine hG (any_step ?_); clear hG G; intro A J hJ
    have hle0 := Fz.le.trans hle0 hle132
    have hzst := Fz.le.refl Z131
    have hs205 := hs3.mono hle132
    have hs206 := cf0 hx9
    refine s1 hFx 39 (.agg #[.int .i64 (((readS (((((BitsS u0).1).take (w64 ((((BitsS u0).1).length : Int) - 9)).toNat) ++ ([48] : List UInt8)) ++ (((BitsS u0).1).drop (w64 ((w64 ((((BitsS u0).1).length : Int) - 9)) + 1)).toNat))).1).ID), .bool (((readS (((((BitsS u0).1).take (w64 ((((BitsS u0).1).length : Int) - 9)).toNat) ++ ([48] : List UInt8)) ++ (((BitsS u0).1).drop (w64 ((w64 ((((BitsS u0).1).length : Int) - 9)) + 1)).toNat))).1).Long), .bool (((readS (((((BitsS u0).1).take (w64 ((((BitsS u0).1).length : Int) - 9)).toNat) ++ ([48] : List UInt8)) ++ (((BitsS u0).1).drop (w64 ((w64 ((((BitsS u0).1).length : Int) - 9)) + 1)).toNat))).1).Fast), .bool (((readS (((((BitsS u0).1).take (w64 ((((BitsS u0).1).length : Int) - 9)).toNat) ++ ([48] : List UInt8)) ++ (((BitsS u0).1).drop (w64 ((w64 ((((BitsS u0).1).length : Int) - 9)) + 1)).toNat))).1).Remote), .int .i64 (((readS (((((BitsS u0).1).take (w64 ((((BitsS u0).1).length : Int) - 9)).toNat) ++ ([48] : List UInt8)) ++ (((BitsS u0).1).drop (w64 ((w64 ((((BitsS u0).1).length : Int) - 9)) + 1)).toNat))).1).Size), .slice ao102 (((readS (((((BitsS u0).1).take (w64 ((((BitsS u0).1).length : Int) - 9)).toNat) ++ ([48] : List UInt8)) ++ (((BitsS u0).1).drop (w64 ((w64 ((((BitsS u0).1).length : Int) - 9)) + 1)).toNat))).1).Data).length cap103]) ?_; intro a207 hF208; clear hFx
    refine nl (qnI (hJ _ _ ?_)); clear hJ J
    exact ⟨ao102, cap103, b116, ud4, ud6, ud7, .tuple #[.agg #[.int .i64 (((readS (((((BitsS u0).1).take (w64 ((((BitsS u0).1).length : Int) - 9)).toNat) ++ ([48] : List UInt8)) ++ (((BitsS u0).1).drop (w64 ((w64 ((((BitsS u0).1).length : Int) - 9)) + 1)).toNat))).1).ID), .bool (((readS (((((BitsS u0).1).take (w64 ((((BitsS u0).1).length : Int) - 9)).toNat) ++ ([48] : List UInt8)) ++ (((BitsS u0).1).drop (w64 ((w64 ((((BitsS u0).1).length : Int) - 9)) + 1)).toNat))).1).Long), .bool (((readS (((((BitsS u0).1).take (w64 ((((BitsS u0).1).length : Int) - 9)).toNat) ++ ([48] : List UInt8)) ++ (((BitsS u0).1).drop (w64 ((w64 ((((BitsS u0).1).length : Int) - 9)) + 1)).toNat))).1).Fast), .bool (((readS (((((BitsS u0).1).take (w64 ((((BitsS u0).1).length : Int) - 9)).toNat) ++ ([48] : List UInt8)) ++ (((BitsS u0).1).drop (w64 ((w64 ((((BitsS u0).1).length : Int) - 9)) + 1)).toNat))).1).Remote), .int .i64 (((readS (((((BitsS u0).1).take (w64 ((((BitsS u0).1).length : Int) - 9)).toNat) ++ ([48] : List UInt8)) ++ (((BitsS u0).1).drop (w64 ((w64 ((((BitsS u0).1).length : Int) - 9)) + 1)).toNat))).1).Size), .slice ao102 (((readS (((((BitsS u0).1).take (w64 ((((BitsS u0).1).length : Int) - 9)).toNat) ++ ([48] : List UInt8)) ++ (((BitsS u0).1).drop (w64 ((w64 ((((BitsS u0).1).length : Int) - 9)) + 1)).toNat))).1).Data).length cap103], .int .i64 ((readS (((((BitsS u0).1).take (w64 ((((BitsS u0).1).length : Int) - 9)).toNat) ++ ([48] : List UInt8)) ++ (((BitsS u0).1).drop (w64 ((w64 ((((BitsS u0).1).length : Int) - 9)) + 1)).toNat))).2.1), .int .i64 ((readS (((((BitsS u0).1).take (w64 ((((BitsS u0).1).length : Int) - 9)).toNat) ++ ([48] : List UInt8)) ++ (((BitsS u0).1).drop (w64 ((w64 ((((BitsS u0).1).length : Int) - 9)) + 1)).toNat))).2.2)], str ((BitsS u0).1), .int .i64 (w64 ((((BitsS u0).1).length : Int) - 9)), str (((BitsS u0).1).take (w64 ((((BitsS u0).1).length : Int) - 9)).toNat), str ((((BitsS u0).1).take (w64 ((((BitsS u0).1).length : Int) - 9)).toNat) ++ ([48] : List UInt8)), str ((BitsS u0).1), .int .i64 (w64 ((((BitsS u0).1).length : Int) - 9)), .int .i64 (w64 ((w64 ((((BitsS u0).1).length : Int) - 9)) + 1)), str (((BitsS u0).1).drop (w64 ((w64 ((((BitsS u0).1).length : Int) - 9)) + 1)).toNat), str (((((BitsS u0).1).take (w64 ((((BitsS u0).1).length : Int) - 9)).toNat) ++ ([48] : List UInt8)) ++ (((BitsS u0).1).drop (w64 ((w64 ((((BitsS u0).1).length : Int) - 9)) + 1)).toNat)), .tuple #[.agg #[.int .i64 (((readS (((((BitsS u0).1).take (w64 ((((BitsS u0).1).length : Int) - 9)).toNat) ++ ([48] : List UInt8)) ++ (((BitsS u0).1).drop (w64 ((w64 ((((BitsS u0).1).length : Int) - 9)) + 1)).toNat))).1).ID), .bool (((readS (((((BitsS u0).1).take (w64 ((((BitsS u0).1).length : Int) - 9)).toNat) ++ ([48] : List UInt8)) ++ (((BitsS u0).1).drop (w64 ((w64 ((((BitsS u0).1).length : Int) - 9)) + 1)).toNat))).1).Long), .bool (((readS (((((BitsS u0).1).take (w64 ((((BitsS u0).1).length : Int) - 9)).toNat) ++ ([48] : List UInt8)) ++ (((BitsS u0).1).drop (w64 ((w64 ((((BitsS u0).1).length : Int) - 9)) + 1)).toNat))).1).Fast), .bool (((readS (((((BitsS u0).1).take (w64 ((((BitsS u0).1).length : Int) - 9)).toNat) ++ ([48] : List UInt8)) ++ (((BitsS u0).1).drop (w64 ((w64 ((((BitsS u0).1).length : Int) - 9)) + 1)).toNat))).1).Remote), .int .i64 (((readS (((((BitsS u0).1).take (w64 ((((BitsS u0).1).length : Int) - 9)).toNat) ++ ([48] : List UInt8)) ++ (((BitsS u0).1).drop (w64 ((w64 ((((BitsS u0).1).length : Int) - 9)) + 1)).toNat))).1).Size), .slice ao102 (((readS (((((BitsS u0).1).take (w64 ((((BitsS u0).1).length : Int) - 9)).toNat) ++ ([48] : List UInt8)) ++ (((BitsS u0).1).drop (w64 ((w64 ((((BitsS u0).1).length : Int) - 9)) + 1)).toNat))).1).Data).length cap103], .int .i64 ((readS (((((BitsS u0).1).take (w64 ((((BitsS u0).1).length : Int) - 9)).toNat) ++ ([48] : List UInt8)) ++ (((BitsS u0).1).drop (w64 ((w64 ((((BitsS u0).1).length : Int) - 9)) + 1)).toNat))).2.1), .int .i64 ((readS (((((BitsS u0).1).take (w64 ((((BitsS u0).1).length : Int) - 9)).toNat) ++ ([48] : List UInt8)) ++ (((BitsS u0).1).drop (w64 ((w64 ((((BitsS u0).1).length : Int) - 9)) + 1)).toNat))).2.2)], .agg #[.int .i64 (((readS (((((BitsS u0).1).take (w64 ((((BitsS u0).1).length : Int) - 9)).toNat) ++ ([48] : List UInt8)) ++ (((BitsS u0).1).drop (w64 ((w64 ((((BitsS u0).1).length : Int) - 9)) + 1)).toNat))).1).ID), .bool (((readS (((((BitsS u0).1).take (w64 ((((BitsS u0).1).length : Int) - 9)).toNat) ++ ([48] : List UInt8)) ++ (((BitsS u0).1).drop (w64 ((w64 ((((BitsS u0).1).length : Int) - 9)) + 1)).toNat))).1).Long), .bool (((readS (((((BitsS u0).1).take (w64 ((((BitsS u0).1).length : Int) - 9)).toNat) ++ ([48] : List UInt8)) ++ (((BitsS u0).1).drop (w64 ((w64 ((((BitsS u0).1).length : Int) - 9)) + 1)).toNat))).1).Fast), .bool (((readS (((((BitsS u0).1).take (w64 ((((BitsS u0).1).length : Int) - 9)).toNat) ++ ([48] : List UInt8)) ++ (((BitsS u0).1).drop (w64 ((w64 ((((BitsS u0).1).length : Int) - 9)) + 1)).toNat))).1).Remote), .int .i64 (((readS (((((BitsS u0).1).take (w64 ((((BitsS u0).1).length : Int) - 9)).toNat) ++ ([48] : List UInt8)) ++ (((BitsS u0).1).drop (w64 ((w64 ((((BitsS u0).1).length : Int) - 9)) + 1)).toNat))).1).Size), .slice ao102 (((readS (((((BitsS u0).1).take (w64 ((((BitsS u0).1).length : Int) - 9)).toNat) ++ ([48] : List UInt8)) ++ (((BitsS u0).1).drop (w64 ((w64 ((((BitsS u0).1).length : Int) - 9)) + 1)).toNat))).1).Data).length cap103], ud40, ud41, .row b6 [.int .i64 u0.ID, .bool u0.Long, .bool u0.Fast, .bool u0.Remote, .int .i64 u0.Size, .slice ao1 u0.Data.length cap2] 24, rh1, Z131, hle132, hF208.region (by kernel_rfl) (by kernel_rfl), hMx.perm (List.Perm.refl _), (nt hx17), cu6, (nt hx16), kf, kf, kf, kf, kf, kf, kf, kf, kf, kf, kf, kf, cu40, cu41, rfl, cr1_0, cr1_1, (nt hx15), (fun _ => hs206)⟩
   · -- 12: extract
    obtain rfl := Option.some.inj hi
    have hx10 := hpre 10 (by kernel_rfl)
    have hx9 := hcl 10 9 (by kernel_rfl) hx10
    have hx8 := hcl 9 8 (by kernel_rfl) hx9
    have hx7 := hcl 8 7 (by kernel_rfl) hx8
    have hx3 := hcl 8 3 (by kernel_rfl) hx8
    have hx6 := hcl 7 6 (by kernel_rfl) hx7
    have hx4 := hcl 7 4 (by kernel_rfl) hx7
    have hx2 := hcl 3 2 (by kernel_rfl) hx3
    have hx5 := hcl 6 5 (by kernel_rfl) hx6
    have hx1 := hcl 2 1 (by kernel_rfl) hx2
    have hx0 := hcl 2 0 (by kernel_rfl) hx2
    have hx12 := hSi
    have hx16 := negF hcl 16 12 (by kernel_rfl) hx12
    have hx17 := negF hcl 17 12 (by kernel_rfl) hx12
    obtain rfl := cu28 hx10
    obtain rfl := cu29 hx0
    obtain rfl := cu30 hx1
    obtain rfl := cu31 hx2
    obtain rfl := cu32 hx3
    obtain rfl := cu33 hx4
    obtain rfl := cu34 hx5
    obtain rfl := cu35 hx6
    obtain rfl := cu36 hx7
    obtain rfl := cu37 hx8
    obtain rfl := cu38 hx9
    obtain rfl := cr0_0
    refine hG (any_step ?_); clear hG G; intro A J hJ
    have hle0 := Fz.le.trans hle0 hle132
    have hzst := Fz.le.refl Z131
    have hs210 := hs3.mono hle132
    have hs211 := cf0 hx9
    refine s1 hFx 40 (.int .i64 ((readS (((((BitsS u0).1).take (w64 ((((BitsS u0).1).length : Int) - 9)).toNat) ++ ([48] : List UInt8)) ++ (((BitsS u0).1).drop (w64 ((w64 ((((BitsS u0).1).length : Int) - 9)) + 1)).toNat))).2.1)) ?_; intro a212 hF213; clear hFx
    refine nl (qnI (hJ _ _ ?_)); clear hJ J
    exact ⟨ao102, cap103, b116, ud4, ud6, ud7, .tuple #[.agg #[.int .i64 (((readS (((((BitsS u0).1).take (w64 ((((BitsS u0).1).length : Int) - 9)).toNat) ++ ([48] : List UInt8)) ++ (((BitsS u0).1).drop (w64 ((w64 ((((BitsS u0).1).length : Int) - 9)) + 1)).toNat))).1).ID), .bool (((readS (((((BitsS u0).1).take (w64 ((((BitsS u0).1).length : Int) - 9)).toNat) ++ ([48] : List UInt8)) ++ (((BitsS u0).1).drop (w64 ((w64 ((((BitsS u0).1).length : Int) - 9)) + 1)).toNat))).1).Long), .bool (((readS (((((BitsS u0).1).take (w64 ((((BitsS u0).1).length : Int) - 9)).toNat) ++ ([48] : List UInt8)) ++ (((BitsS u0).1).drop (w64 ((w64 ((((BitsS u0).1).length : Int) - 9)) + 1)).toNat))).1).Fast), .bool (((readS (((((BitsS u0).1).take (w64 ((((BitsS u0).1).length : Int) - 9)).toNat) ++ ([48] : List UInt8)) ++ (((BitsS u0).1).drop (w64 ((w64 ((((BitsS u0).1).length : Int) - 9)) + 1)).toNat))).1).Remote), .int .i64 (((readS (((((BitsS u0).1).take (w64 ((((BitsS u0).1).length : Int) - 9)).toNat) ++ ([48] : List UInt8)) ++ (((BitsS u0).1).drop (w64 ((w64 ((((BitsS u0).1).length : Int) - 9)) + 1)).toNat))).1).Size), .slice ao102 (((readS (((((BitsS u0).1).take (w64 ((((BitsS u0).1).length : Int) - 9)).toNat) ++ ([48] : List UInt8)) ++ (((BitsS u0).1).drop (w64 ((w64 ((((BitsS u0).1).length : Int) - 9)) + 1)).toNat))).1).Data).length cap103], .int .i64 ((readS (((((BitsS u0).1).take (w64 ((((BitsS u0).1).length : Int) - 9)).toNat) ++ ([48] : List UInt8)) ++ (((BitsS u0).1).drop (w64 ((w64 ((((BitsS u0).1).length : Int) - 9)) + 1)).toNat))).2.1), .int .i64 ((readS (((((BitsS u0).1).take (w64 ((((BitsS u0).1).length : Int) - 9)).toNat) ++ ([48] : List UInt8)) ++ (((BitsS u0).1).drop (w64 ((w64 ((((BitsS u0).1).length : Int) - 9)) + 1)).toNat))).2.2)], str ((BitsS u0).1), .int .i64 (w64 ((((BitsS u0).1).length : Int) - 9)), str (((BitsS u0).1).take (w64 ((((BitsS u0).1).length : Int) - 9)).toNat), str ((((BitsS u0).1).take (w64 ((((BitsS u0).1).length : Int) - 9)).toNat) ++ ([48] : List UInt8)), str ((BitsS u0).1), .int .i64 (w64 ((((BitsS u0).1).length : Int) - 9)), .int .i64 (w64 ((w64 ((((BitsS u0).1).length : Int) - 9)) + 1)), str (((BitsS u0).1).drop (w64 ((w64 ((((BitsS u0).1).length : Int) - 9)) + 1)).toNat), str (((((BitsS u0).1).take (w64 ((((BitsS u0).1).length : Int) - 9)).toNat) ++ ([48] : List UInt8)) ++ (((BitsS u0).1).drop (w64 ((w64 ((((BitsS u0).1).length : Int) - 9)) + 1)).toNat)), .tuple #[.agg #[.int .i64 (((readS (((((BitsS u0).1).take (w64 ((((BitsS u0).1).length : Int) - 9)).toNat) ++ ([48] : List UInt8)) ++ (((BitsS u0).1).drop (w64 ((w64 ((((BitsS u0).1).length : Int) - 9)) + 1)).toNat))).1).ID), .bool (((readS (((((BitsS u0).1).take (w64 ((((BitsS u0).1).length : Int) - 9)).toNat) ++ ([48] : List UInt8)) ++ (((BitsS u0).1).drop (w64 ((w64 ((((BitsS u0).1).length : Int) - 9)) + 1)).toNat))).1).Long), .bool (((readS (((((BitsS u0).1).take (w64 ((((BitsS u0).1).length : Int) - 9)).toNat) ++ ([48] : List UInt8)) ++ (((BitsS u0).1).drop (w64 ((w64 ((((BitsS u0).1).length : Int) - 9)) + 1)).toNat))).1).Fast), .bool (((readS (((((BitsS u0).1).take (w64 ((((BitsS u0).1).length : Int) - 9)).toNat) ++ ([48] : List UInt8)) ++ (((BitsS u0).1).drop (w64 ((w64 ((((BitsS u0).1).length : Int) - 9)) + 1)).toNat))).1).Remote), .int .i64 (((readS (((((BitsS u0).1).take (w64 ((((BitsS u0).1).length : Int) - 9)).toNat) ++ ([48] : List UInt8)) ++ (((BitsS u0).1).drop (w64 ((w64 ((((BitsS u0).1).length : Int) - 9)) + 1)).toNat))).1).Size), .slice ao102 (((readS (((((BitsS u0).1).take (w64 ((((BitsS u0).1).length : Int) - 9)).toNat) ++ ([48] : List UInt8)) ++ (((BitsS u0).1).drop (w64 ((w64 ((((BitsS u0).1).length : Int) - 9)) + 1)).toNat))).1).Data).length cap103], .int .i64 ((readS (((((BitsS u0).1).take (w64 ((((BitsS u0).1).length : Int) - 9)).toNat) ++ ([48] : List UInt8)) ++ (((BitsS u0).1).drop (w64 ((w64 ((((BitsS u0).1).length : Int) - 9)) + 1)).toNat))).2.1), .int .i64 ((readS (((((BitsS u0).1).take (w64 ((((BitsS u0).1).length : Int) - 9)).toNat) ++ ([48] : List UInt8)) ++ (((BitsS u0).1).drop (w64 ((w64 ((((BitsS u0).1).length : Int) - 9)) + 1)).toNat))).2.2)], ud39, .int .i64 ((readS (((((BitsS u0).1).take (w64 ((((BitsS u0).1).length : Int) - 9)).toNat) ++ ([48] : List UInt8)) ++ (((BitsS u0).1).drop (w64 ((w64 ((((BitsS u0).1).length : Int) - 9)) + 1)).toNat))).2.1), ud41, .row b6 [.int .i64 u0.ID, .bool u0.Long, .bool u0.Fast, .bool u0.Remote, .int .i64 u0.Size, .slice ao1 u0.Data.length cap2] 24, rh1, Z131, hle132, hF213.region (by kernel_rfl) (by kernel_rfl), hMx.perm (List.Perm.refl _), (nt hx17), cu6, (nt hx16), kf, kf, kf, kf, kf, kf, kf, kf, kf, kf, kf, cu39, kf, cu41, rfl, cr1_0, cr1_1, cr1_2, (fun _ => hs211)⟩
   · -- 13: extract
    obtain rfl := Option.some.inj hi
    have hx10 := hpre 10 (by kernel_rfl)
    have hx9 := hcl 10 9 (by kernel_rfl) hx10
    have hx8 := hcl 9 8 (by kernel_rfl) hx9
    have hx7 := hcl 8 7 (by kernel_rfl) hx8
    have hx3 := hcl 8 3 (by kernel_rfl) hx8
    have hx6 := hcl 7 6 (by kernel_rfl) hx7
    have hx4 := hcl 7 4 (by kernel_rfl) hx7
    have hx2 := hcl 3 2 (by kernel_rfl) hx3
    have hx5 := hcl 6 5 (by kernel_rfl) hx6
    have hx1 := hcl 2 1 (by kernel_rfl) hx2
    have hx0 := hcl 2 0 (by kernel_rfl) hx2
    have hx13 := hSi
    have hx17 := negF hcl 17 13 (by kernel_rfl) hx13
    obtain rfl := cu28 hx10
    obtain rfl := cu29 hx0
    obtain rfl := cu30 hx1
    obtain rfl := cu31 hx2
    obtain rfl := cu32 hx3
    obtain rfl := cu33 hx4
    obtain rfl := cu34 hx5
    obtain rfl := cu35 hx6
    obtain rfl := cu36 hx7
    obtain rfl := cu37 hx8
    obtain rfl := cu38 hx9
    obtain rfl := cr0_0
    refine hG (any_step ?_); clear hG G; intro A J hJ
    have hle0 := Fz.le.trans hle0 hle132
    have hzst := Fz.le.refl Z131
    have hs215 := hs3.mono hle132
    have hs216 := cf0 hx9
    refine s1 hFx 41 (.int .i64 ((readS (((((BitsS u0).1).take (w64 ((((BitsS u0).1).length : Int) - 9)).toNat) ++ ([48] : List UInt8)) ++ (((BitsS u0).1).drop (w64 ((w64 ((((BitsS u0).1).length : Int) - 9)) + 1)).toNat))).2.2)) ?_; intro a217 hF218; clear hFx
    refine nl (qnI (hJ _ _ ?_)); clear hJ J
    exact ⟨ao102, cap103, b116, ud4, ud6, ud7, .tuple #[.agg #[.int .i64 (((readS (((((BitsS u0).1).take (w64 ((((BitsS u0).1).length : Int) - 9)).toNat) ++ ([48] : List UInt8)) ++ (((BitsS u0).1).drop (w64 ((w64 ((((BitsS u0).1).length : Int) - 9)) + 1)).toNat))).1).ID), .bool (((readS (((((BitsS u0).1).take (w64 ((((BitsS u0).1).length : Int) - 9)).toNat) ++ ([48] : List UInt8)) ++ (((BitsS u0).1).drop (w64 ((w64 ((((BitsS u0).1).length : Int) - 9)) + 1)).toNat))).1).Long), .bool (((readS (((((BitsS u0).1).take (w64 ((((BitsS u0).1).length : Int) - 9)).toNat) ++ ([48] : List UInt8)) ++ (((BitsS u0).1).drop (w64 ((w64 ((((BitsS u0).1).length : Int) - 9)) + 1)).toNat))).1).Fast), .bool (((readS (((((BitsS u0).1).take (w64 ((((BitsS u0).1).length : Int) - 9)).toNat) ++ ([48] : List UInt8)) ++ (((BitsS u0).1).drop (w64 ((w64 ((((BitsS u0).1).length : Int) - 9)) + 1)).toNat))).1).Remote), .int .i64 (((readS (((((BitsS u0).1).take (w64 ((((BitsS u0).1).length : Int) - 9)).toNat) ++ ([48] : List UInt8)) ++ (((BitsS u0).1).drop (w64 ((w64 ((((BitsS u0).1).length : Int) - 9)) + 1)).toNat))).1).Size), .slice ao102 (((readS (((((BitsS u0).1).take (w64 ((((BitsS u0).1).length : Int) - 9)).toNat) ++ ([48] : List UInt8)) ++ (((BitsS u0).1).drop (w64 ((w64 ((((BitsS u0).1).length : Int) - 9)) + 1)).toNat))).1).Data).length cap103], .int .i64 ((readS (((((BitsS u0).1).take (w64 ((((BitsS u0).1).length : Int) - 9)).toNat) ++ ([48] : List UInt8)) ++ (((BitsS u0).1).drop (w64 ((w64 ((((BitsS u0).1).length : Int) - 9)) + 1)).toNat))).2.1), .int .i64 ((readS (((((BitsS u0).1).take (w64 ((((BitsS u0).1).length : Int) - 9)).toNat) ++ ([48] : List UInt8)) ++ (((BitsS u0).1).drop (w64 ((w64 ((((BitsS u0).1).length : Int) - 9)) + 1)).toNat))).2.2)], str ((BitsS u0).1), .int .i64 (w64 ((((BitsS u0).1).length : Int) - 9)), str (((BitsS u0).1).take (w64 ((((BitsS u0).1).length : Int) - 9)).toNat), str ((((BitsS u0).1).take (w64 ((((BitsS u0).1).length : Int) - 9)).toNat) ++ ([48] : List UInt8)), str ((BitsS u0).1), .int .i64 (w64 ((((BitsS u0).1).length : Int) - 9)), .int .i64 (w64 ((w64 ((((BitsS u0).1).length : Int) - 9)) + 1)), str (((BitsS u0).1).drop (w64 ((w64 ((((BitsS u0).1).length : Int) - 9)) + 1)).toNat), str (((((BitsS u0).1).take (w64 ((((BitsS u0).1).length : Int) - 9)).toNat) ++ ([48] : List UInt8)) ++ (((BitsS u0).1).drop (w64 ((w64 ((((BitsS u0).1).length : Int) - 9)) + 1)).toNat)), .tuple #[.agg #[.int .i64 (((readS (((((BitsS u0).1).take (w64 ((((BitsS u0).1).length : Int) - 9)).toNat) ++ ([48] : List UInt8)) ++ (((BitsS u0).1).drop (w64 ((w64 ((((BitsS u0).1).length : Int) - 9)) + 1)).toNat))).1).ID), .bool (((readS (((((BitsS u0).1).take (w64 ((((BitsS u0).1).length : Int) - 9)).toNat) ++ ([48] : List UInt8)) ++ (((BitsS u0).1).drop (w64 ((w64 ((((BitsS u0).1).length : Int) - 9)) + 1)).toNat))).1).Long), .bool (((readS (((((BitsS u0).1).take (w64 ((((BitsS u0).1).length : Int) - 9)).toNat) ++ ([48] : List UInt8)) ++ (((BitsS u0).1).drop (w64 ((w64 ((((BitsS u0).1).length : Int) - 9)) + 1)).toNat))).1).Fast), .bool (((readS (((((BitsS u0).1).take (w64 ((((BitsS u0).1).length : Int) - 9)).toNat) ++ ([48] : List UInt8)) ++ (((BitsS u0).1).drop (w64 ((w64 ((((BitsS u0).1).length : Int) - 9)) + 1)).toNat))).1).Remote), .int .i64 (((readS (((((BitsS u0).1).take (w64 ((((BitsS u0).1).length : Int) - 9)).toNat) ++ ([48] : List UInt8)) ++ (((BitsS u0).1).drop (w64 ((w64 ((((BitsS u0).1).length : Int) - 9)) + 1)).toNat))).1).Size), .slice ao102 (((readS (((((BitsS u0).1).take (w64 ((((BitsS u0).1).length : Int) - 9)).toNat) ++ ([48] : List UInt8)) ++ (((BitsS u0).1).drop (w64 ((w64 ((((BitsS u0).1).length : Int) - 9)) + 1)).toNat))).1).Data).length cap103], .int .i64 ((readS (((((BitsS u0).1).take (w64 ((((BitsS u0).1).length : Int) - 9)).toNat) ++ ([48] : List UInt8)) ++ (((BitsS u0).1).drop (w64 ((w64 ((((BitsS u0).1).length : Int) - 9)) + 1)).toNat))).2.1), .int .i64 ((readS (((((BitsS u0).1).take (w64 ((((BitsS u0).1).length : Int) - 9)).toNat) ++ ([48] : List UInt8)) ++ (((BitsS u0).1).drop (w64 ((w64 ((((BitsS u0).1).length : Int) - 9)) + 1)).toNat))).2.2)], ud39, ud40, .int .i64 ((readS (((((BitsS u0).1).take (w64 ((((BitsS u0).1).length : Int) - 9)).toNat) ++ ([48] : List UInt8)) ++ (((BitsS u0).1).drop (w64 ((w64 ((((BitsS u0).1).length : Int) - 9)) + 1)).toNat))).2.2), .row b6 [.int .i64 u0.ID, .bool u0.Long, .bool u0.Fast, .bool u0.Remote, .int .i64 u0.Size, .slice ao1 u0.Data.length cap2] 24, rh1, Z131, hle132, hF218.region (by kernel_rfl) (by kernel_rfl), hMx.perm (List.Perm.refl _), (nt hx17), cu6, cu7, kf, kf, kf, kf, kf, kf, kf, kf, kf, kf, kf, cu39, cu40, kf, rfl, cr1_0, cr1_1, cr1_2, (fun _ => hs216)⟩
   · -- 14: alloc
    obtain rfl := Option.some.inj hi
    have hx14 := hSi
    have hx15 := negF hcl 15 14 (by kernel_rfl) hx14
    have hx16 := negF hcl 16 14 (by kernel_rfl) hx14
    have hx17 := negF hcl 17 14 (by kernel_rfl) hx14
    obtain rfl := cr0_0
    obtain rfl := cr1_0 hx14
    refine hG (any_step ?_); clear hG G; intro A J hJ
    have hle0 := Fz.le.trans hle0 hle132
    have hzst := Fz.le.refl Z131
    have hs220 := hs3.mono hle132
    have hM221 := hMx.keep (List.Sublist.cons_cons _ (List.Sublist.cons _ (List.Sublist.slnil))); clear hMx
    refine sn hFx hM221 (fun b => .pointer (some ⟨b, 0, none⟩)) [.int .i64 0, .bool false, .bool false, .bool false, .int .i64 0, .slice none 0 0] 24 (nog rfl _) rfl (by kernel_rfl) (by kernel_rfl) ?_; intro b222 a223 wd225 hF224 hM226; clear hFx hM221
    refine nl (qnI (hJ _ _ ?_)); clear hJ J
    exact ⟨ao102, cap103, b222, ud4, .pointer (some ⟨b222, 0, none⟩), ud7, ud28, ud29, ud30, ud31, ud32, ud33, ud34, ud35, ud36, ud37, ud38, ud39, ud40, ud41, .row b6 [.int .i64 u0.ID, .bool u0.Long, .bool u0.Fast, .bool u0.Remote, .int .i64 u0.Size, .slice ao1 u0.Data.length cap2] 24, .row b222 [.int .i64 0, .bool false, .bool false, .bool false, .int .i64 0, .slice none 0 0] 24, Z131, hle132, hF224.region (by kernel_rfl) (by kernel_rfl), hM226.perm ((pk 1 rfl).trans ((List.Perm.refl _).cons _)), (nt hx17), kf, (nt hx16), cu28, cu29, cu30, cu31, cu32, cu33, cu34, cu35, cu36, cu37, cu38, cu39, cu40, cu41, rfl, nu, kf2, (nt hx15), cf0⟩
   · -- 15: store
    obtain rfl := Option.some.inj hi
    have hx14 := hpre 14 (by kernel_rfl)
    have hx11 := hpre 11 (by kernel_rfl)
    have hx10 := hpre 10 (by kernel_rfl)
    have hx9 := hpre 9 (by kernel_rfl)
    have hx8 := hpre 8 (by kernel_rfl)
    have hx7 := hpre 7 (by kernel_rfl)
    have hx6 := hpre 6 (by kernel_rfl)
    have hx5 := hpre 5 (by kernel_rfl)
    have hx4 := hpre 4 (by kernel_rfl)
    have hx3 := hpre 3 (by kernel_rfl)
    have hx2 := hpre 2 (by kernel_rfl)
    have hx1 := hpre 1 (by kernel_rfl)
    have hx0 := hpre 0 (by kernel_rfl)
    have hx15 := hSi
    have hx16 := negF hcl 16 15 (by kernel_rfl) hx15
    have hx17 := negF hcl 17 15 (by kernel_rfl) hx15
    obtain rfl := cu6 hx14
    obtain rfl := cu28 hx10
    obtain rfl := cu29 hx0
    obtain rfl := cu30 hx1
    obtain rfl := cu31 hx2
    obtain rfl := cu32 hx3
    obtain rfl := cu33 hx4
    obtain rfl := cu34 hx5
    obtain rfl := cu35 hx6
    obtain rfl := cu36 hx7
    obtain rfl := cu37 hx8
    obtain rfl := cu38 hx9
    obtain rfl := cu39 hx11
    obtain rfl := cr0_0
    obtain rfl := cr1_1 hx14 hx15
    refine hG (any_step ?_); clear hG G; intro A J hJ
    have hle0 := Fz.le.trans hle0 hle132
    have hzst := Fz.le.refl Z131
    have hs228 := hs3.mono hle132
    have hs229 := cf0 hx9
    refine sr hFx hMx 1 [.int .i64 (((readS (((((BitsS u0).1).take (w64 ((((BitsS u0).1).length : Int) - 9)).toNat) ++ ([48] : List UInt8)) ++ (((BitsS u0).1).drop (w64 ((w64 ((((BitsS u0).1).length : Int) - 9)) + 1)).toNat))).1).ID), .bool (((readS (((((BitsS u0).1).take (w64 ((((BitsS u0).1).length : Int) - 9)).toNat) ++ ([48] : List UInt8)) ++ (((BitsS u0).1).drop (w64 ((w64 ((((BitsS u0).1).length : Int) - 9)) + 1)).toNat))).1).Long), .bool (((readS (((((BitsS u0).1).take (w64 ((((BitsS u0).1).length : Int) - 9)).toNat) ++ ([48] : List UInt8)) ++ (((BitsS u0).1).drop (w64 ((w64 ((((BitsS u0).1).length : Int) - 9)) + 1)).toNat))).1).Fast), .bool (((readS (((((BitsS u0).1).take (w64 ((((BitsS u0).1).length : Int) - 9)).toNat) ++ ([48] : List UInt8)) ++ (((BitsS u0).1).drop (w64 ((w64 ((((BitsS u0).1).length : Int) - 9)) + 1)).toNat))).1).Remote), .int .i64 (((readS (((((BitsS u0).1).take (w64 ((((BitsS u0).1).length : Int) - 9)).toNat) ++ ([48] : List UInt8)) ++ (((BitsS u0).1).drop (w64 ((w64 ((((BitsS u0).1).length : Int) - 9)) + 1)).toNat))).1).Size), .slice ao102 (((readS (((((BitsS u0).1).take (w64 ((((BitsS u0).1).length : Int) - 9)).toNat) ++ ([48] : List UInt8)) ++ (((BitsS u0).1).drop (w64 ((w64 ((((BitsS u0).1).length : Int) - 9)) + 1)).toNat))).1).Data).length cap103] (b := b116) (off := 0) (cs := [.int .i64 0, .bool false, .bool false, .bool false, .int .i64 0, .slice none 0 0]) (ty := 24) (u := .agg #[.int .i64 (((readS (((((BitsS u0).1).take (w64 ((((BitsS u0).1).length : Int) - 9)).toNat) ++ ([48] : List UInt8)) ++ (((BitsS u0).1).drop (w64 ((w64 ((((BitsS u0).1).length : Int) - 9)) + 1)).toNat))).1).ID), .bool (((readS (((((BitsS u0).1).take (w64 ((((BitsS u0).1).length : Int) - 9)).toNat) ++ ([48] : List UInt8)) ++ (((BitsS u0).1).drop (w64 ((w64 ((((BitsS u0).1).length : Int) - 9)) + 1)).toNat))).1).Long), .bool (((readS (((((BitsS u0).1).take (w64 ((((BitsS u0).1).length : Int) - 9)).toNat) ++ ([48] : List UInt8)) ++ (((BitsS u0).1).drop (w64 ((w64 ((((BitsS u0).1).length : Int) - 9)) + 1)).toNat))).1).Fast), .bool (((readS (((((BitsS u0).1).take (w64 ((((BitsS u0).1).length : Int) - 9)).toNat) ++ ([48] : List UInt8)) ++ (((BitsS u0).1).drop (w64 ((w64 ((((BitsS u0).1).length : Int) - 9)) + 1)).toNat))).1).Remote), .int .i64 (((readS (((((BitsS u0).1).take (w64 ((((BitsS u0).1).length : Int) - 9)).toNat) ++ ([48] : List UInt8)) ++ (((BitsS u0).1).drop (w64 ((w64 ((((BitsS u0).1).length : Int) - 9)) + 1)).toNat))).1).Size), .slice ao102 (((readS (((((BitsS u0).1).take (w64 ((((BitsS u0).1).length : Int) - 9)).toNat) ++ ([48] : List UInt8)) ++ (((BitsS u0).1).drop (w64 ((w64 ((((BitsS u0).1).length : Int) - 9)) + 1)).toNat))).1).Data).length cap103]) (nog rfl _) rfl rfl (by kernel_rfl) (by kernel_rfl) (by kernel_rfl) (by kernel_rfl) (by kernel_rfl) (by kernel_rfl) (by kernel_rfl) ?_; intro wd230 hM231; clear hMx
    refine nl (qnI (hJ _ _ ?_)); clear hJ J
    exact ⟨ao102, cap103, b116, ud4, .pointer (some ⟨b116, 0, none⟩), ud7, .tuple #[.agg #[.int .i64 (((readS (((((BitsS u0).1).take (w64 ((((BitsS u0).1).length : Int) - 9)).toNat) ++ ([48] : List UInt8)) ++ (((BitsS u0).1).drop (w64 ((w64 ((((BitsS u0).1).length : Int) - 9)) + 1)).toNat))).1).ID), .bool (((readS (((((BitsS u0).1).take (w64 ((((BitsS u0).1).length : Int) - 9)).toNat) ++ ([48] : List UInt8)) ++ (((BitsS u0).1).drop (w64 ((w64 ((((BitsS u0).1).length : Int) - 9)) + 1)).toNat))).1).Long), .bool (((readS (((((BitsS u0).1).take (w64 ((((BitsS u0).1).length : Int) - 9)).toNat) ++ ([48] : List UInt8)) ++ (((BitsS u0).1).drop (w64 ((w64 ((((BitsS u0).1).length : Int) - 9)) + 1)).toNat))).1).Fast), .bool (((readS (((((BitsS u0).1).take (w64 ((((BitsS u0).1).length : Int) - 9)).toNat) ++ ([48] : List UInt8)) ++ (((BitsS u0).1).drop (w64 ((w64 ((((BitsS u0).1).length : Int) - 9)) + 1)).toNat))).1).Remote), .int .i64 (((readS (((((BitsS u0).1).take (w64 ((((BitsS u0).1).length : Int) - 9)).toNat) ++ ([48] : List UInt8)) ++ (((BitsS u0).1).drop (w64 ((w64 ((((BitsS u0).1).length : Int) - 9)) + 1)).toNat))).1).Size), .slice ao102 (((readS (((((BitsS u0).1).take (w64 ((((BitsS u0).1).length : Int) - 9)).toNat) ++ ([48] : List UInt8)) ++ (((BitsS u0).1).drop (w64 ((w64 ((((BitsS u0).1).length : Int) - 9)) + 1)).toNat))).1).Data).length cap103], .int .i64 ((readS (((((BitsS u0).1).take (w64 ((((BitsS u0).1).length : Int) - 9)).toNat) ++ ([48] : List UInt8)) ++ (((BitsS u0).1).drop (w64 ((w64 ((((BitsS u0).1).length : Int) - 9)) + 1)).toNat))).2.1), .int .i64 ((readS (((((BitsS u0).1).take (w64 ((((BitsS u0).1).length : Int) - 9)).toNat) ++ ([48] : List UInt8)) ++ (((BitsS u0).1).drop (w64 ((w64 ((((BitsS u0).1).length : Int) - 9)) + 1)).toNat))).2.2)], str ((BitsS u0).1), .int .i64 (w64 ((((BitsS u0).1).length : Int) - 9)), str (((BitsS u0).1).take (w64 ((((BitsS u0).1).length : Int) - 9)).toNat), str ((((BitsS u0).1).take (w64 ((((BitsS u0).1).length : Int) - 9)).toNat) ++ ([48] : List UInt8)), str ((BitsS u0).1), .int .i64 (w64 ((((BitsS u0).1).length : Int) - 9)), .int .i64 (w64 ((w64 ((((BitsS u0).1).length : Int) - 9)) + 1)), str (((BitsS u0).1).drop (w64 ((w64 ((((BitsS u0).1).length : Int) - 9)) + 1)).toNat), str (((((BitsS u0).1).take (w64 ((((BitsS u0).1).length : Int) - 9)).toNat) ++ ([48] : List UInt8)) ++ (((BitsS u0).1).drop (w64 ((w64 ((((BitsS u0).1).length : Int) - 9)) + 1)).toNat)), .tuple #[.agg #[.int .i64 (((readS (((((BitsS u0).1).take (w64 ((((BitsS u0).1).length : Int) - 9)).toNat) ++ ([48] : List UInt8)) ++ (((BitsS u0).1).drop (w64 ((w64 ((((BitsS u0).1).length : Int) - 9)) + 1)).toNat))).1).ID), .bool (((readS (((((BitsS u0).1).take (w64 ((((BitsS u0).1).length : Int) - 9)).toNat) ++ ([48] : List UInt8)) ++ (((BitsS u0).1).drop (w64 ((w64 ((((BitsS u0).1).length : Int) - 9)) + 1)).toNat))).1).Long), .bool (((readS (((((BitsS u0).1).take (w64 ((((BitsS u0).1).length : Int) - 9)).toNat) ++ ([48] : List UInt8)) ++ (((BitsS u0).1).drop (w64 ((w64 ((((BitsS u0).1).length : Int) - 9)) + 1)).toNat))).1).Fast), .bool (((readS (((((BitsS u0).1).take (w64 ((((BitsS u0).1).length : Int) - 9)).toNat) ++ ([48] : List UInt8)) ++ (((BitsS u0).1).drop (w64 ((w64 ((((BitsS u0).1).length : Int) - 9)) + 1)).toNat))).1).Remote), .int .i64 (((readS (((((BitsS u0).1).take (w64 ((((BitsS u0).1).length : Int) - 9)).toNat) ++ ([48] : List UInt8)) ++ (((BitsS u0).1).drop (w64 ((w64 ((((BitsS u0).1).length : Int) - 9)) + 1)).toNat))).1).Size), .slice ao102 (((readS (((((BitsS u0).1).take (w64 ((((BitsS u0).1).length : Int) - 9)).toNat) ++ ([48] : List UInt8)) ++ (((BitsS u0).1).drop (w64 ((w64 ((((BitsS u0).1).length : Int) - 9)) + 1)).toNat))).1).Data).length cap103], .int .i64 ((readS (((((BitsS u0).1).take (w64 ((((BitsS u0).1).length : Int) - 9)).toNat) ++ ([48] : List UInt8)) ++ (((BitsS u0).1).drop (w64 ((w64 ((((BitsS u0).1).length : Int) - 9)) + 1)).toNat))).2.1), .int .i64 ((readS (((((BitsS u0).1).take (w64 ((((BitsS u0).1).length : Int) - 9)).toNat) ++ ([48] : List UInt8)) ++ (((BitsS u0).1).drop (w64 ((w64 ((((BitsS u0).1).length : Int) - 9)) + 1)).toNat))).2.2)], .agg #[.int .i64 (((readS (((((BitsS u0).1).take (w64 ((((BitsS u0).1).length : Int) - 9)).toNat) ++ ([48] : List UInt8)) ++ (((BitsS u0).1).drop (w64 ((w64 ((((BitsS u0).1).length : Int) - 9)) + 1)).toNat))).1).ID), .bool (((readS (((((BitsS u0).1).take (w64 ((((BitsS u0).1).length : Int) - 9)).toNat) ++ ([48] : List UInt8)) ++ (((BitsS u0).1).drop (w64 ((w64 ((((BitsS u0).1).length : Int) - 9)) + 1)).toNat))).1).Long), .bool (((readS (((((BitsS u0).1).take (w64 ((((BitsS u0).1).length : Int) - 9)).toNat) ++ ([48] : List UInt8)) ++ (((BitsS u0).1).drop (w64 ((w64 ((((BitsS u0).1).length : Int) - 9)) + 1)).toNat))).1).Fast), .bool (((readS (((((BitsS u0).1).take (w64 ((((BitsS u0).1).length : Int) - 9)).toNat) ++ ([48] : List UInt8)) ++ (((BitsS u0).1).drop (w64 ((w64 ((((BitsS u0).1).length : Int) - 9)) + 1)).toNat))).1).Remote), .int .i64 (((readS (((((BitsS u0).1).take (w64 ((((BitsS u0).1).length : Int) - 9)).toNat) ++ ([48] : List UInt8)) ++ (((BitsS u0).1).drop (w64 ((w64 ((((BitsS u0).1).length : Int) - 9)) + 1)).toNat))).1).Size), .slice ao102 (((readS (((((BitsS u0).1).take (w64 ((((BitsS u0).1).length : Int) - 9)).toNat) ++ ([48] : List UInt8)) ++ (((BitsS u0).1).drop (w64 ((w64 ((((BitsS u0).1).length : Int) - 9)) + 1)).toNat))).1).Data).length cap103], ud40, ud41, .row b6 [.int .i64 u0.ID, .bool u0.Long, .bool u0.Fast, .bool u0.Remote, .int .i64 u0.Size, .slice ao1 u0.Data.length cap2] 24, .row b116 [.int .i64 (((readS (((((BitsS u0).1).take (w64 ((((BitsS u0).1).length : Int) - 9)).toNat) ++ ([48] : List UInt8)) ++ (((BitsS u0).1).drop (w64 ((w64 ((((BitsS u0).1).length : Int) - 9)) + 1)).toNat))).1).ID), .bool (((readS (((((BitsS u0).1).take (w64 ((((BitsS u0).1).length : Int) - 9)).toNat) ++ ([48] : List UInt8)) ++ (((BitsS u0).1).drop (w64 ((w64 ((((BitsS u0).1).length : Int) - 9)) + 1)).toNat))).1).Long), .bool (((readS (((((BitsS u0).1).take (w64 ((((BitsS u0).1).length : Int) - 9)).toNat) ++ ([48] : List UInt8)) ++ (((BitsS u0).1).drop (w64 ((w64 ((((BitsS u0).1).length : Int) - 9)) + 1)).toNat))).1).Fast), .bool (((readS (((((BitsS u0).1).take (w64 ((((BitsS u0).1).length : Int) - 9)).toNat) ++ ([48] : List UInt8)) ++ (((BitsS u0).1).drop (w64 ((w64 ((((BitsS u0).1).length : Int) - 9)) + 1)).toNat))).1).Remote), .int .i64 (((readS (((((BitsS u0).1).take (w64 ((((BitsS u0).1).length : Int) - 9)).toNat) ++ ([48] : List UInt8)) ++ (((BitsS u0).1).drop (w64 ((w64 ((((BitsS u0).1).length : Int) - 9)) + 1)).toNat))).1).Size), .slice ao102 (((readS (((((BitsS u0).1).take (w64 ((((BitsS u0).1).length : Int) - 9)).toNat) ++ ([48] : List UInt8)) ++ (((BitsS u0).1).drop (w64 ((w64 ((((BitsS u0).1).length : Int) - 9)) + 1)).toNat))).1).Data).length cap103] 24, Z131, hle132, hFx.region (by kernel_rfl) (by kernel_rfl), hM231.perm (List.Perm.refl _), (nt hx17), kf, (nt hx16), kf, kf, kf, kf, kf, kf, kf, kf, kf, kf, kf, kf, cu40, cu41, rfl, (tn hx14), (fun _ => nu), kf, (fun _ => hs229)⟩
   · -- 16: assign
    obtain rfl := Option.some.inj hi
    have hx15 := hpre 15 (by kernel_rfl)
    have hx14 := hpre 14 (by kernel_rfl)
    have hx12 := hpre 12 (by kernel_rfl)
    have hx11 := hpre 11 (by kernel_rfl)
    have hx10 := hpre 10 (by kernel_rfl)
    have hx9 := hpre 9 (by kernel_rfl)
    have hx8 := hpre 8 (by kernel_rfl)
    have hx7 := hpre 7 (by kernel_rfl)
    have hx6 := hpre 6 (by kernel_rfl)
    have hx5 := hpre 5 (by kernel_rfl)
    have hx4 := hpre 4 (by kernel_rfl)
    have hx3 := hpre 3 (by kernel_rfl)
    have hx2 := hpre 2 (by kernel_rfl)
    have hx1 := hpre 1 (by kernel_rfl)
    have hx0 := hpre 0 (by kernel_rfl)
    have hx16 := hSi
    have hx17 := negF hcl 17 16 (by kernel_rfl) hx16
    obtain rfl := cu6 hx14
    obtain rfl := cu28 hx10
    obtain rfl := cu29 hx0
    obtain rfl := cu30 hx1
    obtain rfl := cu31 hx2
    obtain rfl := cu32 hx3
    obtain rfl := cu33 hx4
    obtain rfl := cu34 hx5
    obtain rfl := cu35 hx6
    obtain rfl := cu36 hx7
    obtain rfl := cu37 hx8
    obtain rfl := cu38 hx9
    obtain rfl := cu39 hx11
    obtain rfl := cu40 hx12
    obtain rfl := cr0_0
    obtain rfl := cr1_2 hx15
    refine hG (any_step ?_); clear hG G; intro A J hJ
    have hle0 := Fz.le.trans hle0 hle132
    have hzst := Fz.le.refl Z131
    have hs233 := hs3.mono hle132
    have hs234 := cf0 hx9
    refine s1 hFx 7 (.int .i64 ((readS (((((BitsS u0).1).take (w64 ((((BitsS u0).1).length : Int) - 9)).toNat) ++ ([48] : List UInt8)) ++ (((BitsS u0).1).drop (w64 ((w64 ((((BitsS u0).1).length : Int) - 9)) + 1)).toNat))).2.1)) ?_; intro a235 hF236; clear hFx
    refine nl (qnI (hJ _ _ ?_)); clear hJ J
    exact ⟨ao102, cap103, b116, ud4, .pointer (some ⟨b116, 0, none⟩), .int .i64 ((readS (((((BitsS u0).1).take (w64 ((((BitsS u0).1).length : Int) - 9)).toNat) ++ ([48] : List UInt8)) ++ (((BitsS u0).1).drop (w64 ((w64 ((((BitsS u0).1).length : Int) - 9)) + 1)).toNat))).2.1), .tuple #[.agg #[.int .i64 (((readS (((((BitsS u0).1).take (w64 ((((BitsS u0).1).length : Int) - 9)).toNat) ++ ([48] : List UInt8)) ++ (((BitsS u0).1).drop (w64 ((w64 ((((BitsS u0).1).length : Int) - 9)) + 1)).toNat))).1).ID), .bool (((readS (((((BitsS u0).1).take (w64 ((((BitsS u0).1).length : Int) - 9)).toNat) ++ ([48] : List UInt8)) ++ (((BitsS u0).1).drop (w64 ((w64 ((((BitsS u0).1).length : Int) - 9)) + 1)).toNat))).1).Long), .bool (((readS (((((BitsS u0).1).take (w64 ((((BitsS u0).1).length : Int) - 9)).toNat) ++ ([48] : List UInt8)) ++ (((BitsS u0).1).drop (w64 ((w64 ((((BitsS u0).1).length : Int) - 9)) + 1)).toNat))).1).Fast), .bool (((readS (((((BitsS u0).1).take (w64 ((((BitsS u0).1).length : Int) - 9)).toNat) ++ ([48] : List UInt8)) ++ (((BitsS u0).1).drop (w64 ((w64 ((((BitsS u0).1).length : Int) - 9)) + 1)).toNat))).1).Remote), .int .i64 (((readS (((((BitsS u0).1).take (w64 ((((BitsS u0).1).length : Int) - 9)).toNat) ++ ([48] : List UInt8)) ++ (((BitsS u0).1).drop (w64 ((w64 ((((BitsS u0).1).length : Int) - 9)) + 1)).toNat))).1).Size), .slice ao102 (((readS (((((BitsS u0).1).take (w64 ((((BitsS u0).1).length : Int) - 9)).toNat) ++ ([48] : List UInt8)) ++ (((BitsS u0).1).drop (w64 ((w64 ((((BitsS u0).1).length : Int) - 9)) + 1)).toNat))).1).Data).length cap103], .int .i64 ((readS (((((BitsS u0).1).take (w64 ((((BitsS u0).1).length : Int) - 9)).toNat) ++ ([48] : List UInt8)) ++ (((BitsS u0).1).drop (w64 ((w64 ((((BitsS u0).1).length : Int) - 9)) + 1)).toNat))).2.1), .int .i64 ((readS (((((BitsS u0).1).take (w64 ((((BitsS u0).1).length : Int) - 9)).toNat) ++ ([48] : List UInt8)) ++ (((BitsS u0).1).drop (w64 ((w64 ((((BitsS u0).1).length : Int) - 9)) + 1)).toNat))).2.2)], str ((BitsS u0).1), .int .i64 (w64 ((((BitsS u0).1).length : Int) - 9)), str (((BitsS u0).1).take (w64 ((((BitsS u0).1).length : Int) - 9)).toNat), str ((((BitsS u0).1).take (w64 ((((BitsS u0).1).length : Int) - 9)).toNat) ++ ([48] : List UInt8)), str ((BitsS u0).1), .int .i64 (w64 ((((BitsS u0).1).length : Int) - 9)), .int .i64 (w64 ((w64 ((((BitsS u0).1).length : Int) - 9)) + 1)), str (((BitsS u0).1).drop (w64 ((w64 ((((BitsS u0).1).length : Int) - 9)) + 1)).toNat), str (((((BitsS u0).1).take (w64 ((((BitsS u0).1).length : Int) - 9)).toNat) ++ ([48] : List UInt8)) ++ (((BitsS u0).1).drop (w64 ((w64 ((((BitsS u0).1).length : Int) - 9)) + 1)).toNat)), .tuple #[.agg #[.int .i64 (((readS (((((BitsS u0).1).take (w64 ((((BitsS u0).1).length : Int) - 9)).toNat) ++ ([48] : List UInt8)) ++ (((BitsS u0).1).drop (w64 ((w64 ((((BitsS u0).1).length : Int) - 9)) + 1)).toNat))).1).ID), .bool (((readS (((((BitsS u0).1).take (w64 ((((BitsS u0).1).length : Int) - 9)).toNat) ++ ([48] : List UInt8)) ++ (((BitsS u0).1).drop (w64 ((w64 ((((BitsS u0).1).length : Int) - 9)) + 1)).toNat))).1).Long), .bool (((readS (((((BitsS u0).1).take (w64 ((((BitsS u0).1).length : Int) - 9)).toNat) ++ ([48] : List UInt8)) ++ (((BitsS u0).1).drop (w64 ((w64 ((((BitsS u0).1).length : Int) - 9)) + 1)).toNat))).1).Fast), .bool (((readS (((((BitsS u0).1).take (w64 ((((BitsS u0).1).length : Int) - 9)).toNat) ++ ([48] : List UInt8)) ++ (((BitsS u0).1).drop (w64 ((w64 ((((BitsS u0).1).length : Int) - 9)) + 1)).toNat))).1).Remote), .int .i64 (((readS (((((BitsS u0).1).take (w64 ((((BitsS u0).1).length : Int) - 9)).toNat) ++ ([48] : List UInt8)) ++ (((BitsS u0).1).drop (w64 ((w64 ((((BitsS u0).1).length : Int) - 9)) + 1)).toNat))).1).Size), .slice ao102 (((readS (((((BitsS u0).1).take (w64 ((((BitsS u0).1).length : Int) - 9)).toNat) ++ ([48] : List UInt8)) ++ (((BitsS u0).1).drop (w64 ((w64 ((((BitsS u0).1).length : Int) - 9)) + 1)).toNat))).1).Data).length cap103], .int .i64 ((readS (((((BitsS u0).1).take (w64 ((((BitsS u0).1).length : Int) - 9)).toNat) ++ ([48] : List UInt8)) ++ (((BitsS u0).1).drop (w64 ((w64 ((((BitsS u0).1).length : Int) - 9)) + 1)).toNat))).2.1), .int .i64 ((readS (((((BitsS u0).1).take (w64 ((((BitsS u0).1).length : Int) - 9)).toNat) ++ ([48] : List UInt8)) ++ (((BitsS u0).1).drop (w64 ((w64 ((((BitsS u0).1).length : Int) - 9)) + 1)).toNat))).2.2)], .agg #[.int .i64 (((readS (((((BitsS u0).1).take (w64 ((((BitsS u0).1).length : Int) - 9)).toNat) ++ ([48] : List UInt8)) ++ (((BitsS u0).1).drop (w64 ((w64 ((((BitsS u0).1).length : Int) - 9)) + 1)).toNat))).1).ID), .bool (((readS (((((BitsS u0).1).take (w64 ((((BitsS u0).1).length : Int) - 9)).toNat) ++ ([48] : List UInt8)) ++ (((BitsS u0).1).drop (w64 ((w64 ((((BitsS u0).1).length : Int) - 9)) + 1)).toNat))).1).Long), .bool (((readS (((((BitsS u0).1).take (w64 ((((BitsS u0).1).length : Int) - 9)).toNat) ++ ([48] : List UInt8)) ++ (((BitsS u0).1).drop (w64 ((w64 ((((BitsS u0).1).length : Int) - 9)) + 1)).toNat))).1).Fast), .bool (((readS (((((BitsS u0).1).take (w64 ((((BitsS u0).1).length : Int) - 9)).toNat) ++ ([48] : List UInt8)) ++ (((BitsS u0).1).drop (w64 ((w64 ((((BitsS u0).1).length : Int) - 9)) + 1)).toNat))).1).Remote), .int .i64 (((readS (((((BitsS u0).1).take (w64 ((((BitsS u0).1).length : Int) - 9)).toNat) ++ ([48] : List UInt8)) ++ (((BitsS u0).1).drop (w64 ((w64 ((((BitsS u0).1).length : Int) - 9)) + 1)).toNat))).1).Size), .slice ao102 (((readS (((((BitsS u0).1).take (w64 ((((BitsS u0).1).length : Int) - 9)).toNat) ++ ([48] : List UInt8)) ++ (((BitsS u0).1).drop (w64 ((w64 ((((BitsS u0).1).length : Int) - 9)) + 1)).toNat))).1).Data).length cap103], .int .i64 ((readS (((((BitsS u0).1).take (w64 ((((BitsS u0).1).length : Int) - 9)).toNat) ++ ([48] : List UInt8)) ++ (((BitsS u0).1).drop (w64 ((w64 ((((BitsS u0).1).length : Int) - 9)) + 1)).toNat))).2.1), ud41, .row b6 [.int .i64 u0.ID, .bool u0.Long, .bool u0.Fast, .bool u0.Remote, .int .i64 u0.Size, .slice ao1 u0.Data.length cap2] 24, .row b116 [.int .i64 (((readS (((((BitsS u0).1).take (w64 ((((BitsS u0).1).length : Int) - 9)).toNat) ++ ([48] : List UInt8)) ++ (((BitsS u0).1).drop (w64 ((w64 ((((BitsS u0).1).length : Int) - 9)) + 1)).toNat))).1).ID), .bool (((readS (((((BitsS u0).1).take (w64 ((((BitsS u0).1).length : Int) - 9)).toNat) ++ ([48] : List UInt8)) ++ (((BitsS u0).1).drop (w64 ((w64 ((((BitsS u0).1).length : Int) - 9)) + 1)).toNat))).1).Long), .bool (((readS (((((BitsS u0).1).take (w64 ((((BitsS u0).1).length : Int) - 9)).toNat) ++ ([48] : List UInt8)) ++ (((BitsS u0).1).drop (w64 ((w64 ((((BitsS u0).1).length : Int) - 9)) + 1)).toNat))).1).Fast), .bool (((readS (((((BitsS u0).1).take (w64 ((((BitsS u0).1).length : Int) - 9)).toNat) ++ ([48] : List UInt8)) ++ (((BitsS u0).1).drop (w64 ((w64 ((((BitsS u0).1).length : Int) - 9)) + 1)).toNat))).1).Remote), .int .i64 (((readS (((((BitsS u0).1).take (w64 ((((BitsS u0).1).length : Int) - 9)).toNat) ++ ([48] : List UInt8)) ++ (((BitsS u0).1).drop (w64 ((w64 ((((BitsS u0).1).length : Int) - 9)) + 1)).toNat))).1).Size), .slice ao102 (((readS (((((BitsS u0).1).take (w64 ((((BitsS u0).1).length : Int) - 9)).toNat) ++ ([48] : List UInt8)) ++ (((BitsS u0).1).drop (w64 ((w64 ((((BitsS u0).1).length : Int) - 9)) + 1)).toNat))).1).Data).length cap103] 24, Z131, hle132, hF236.region (by kernel_rfl) (by kernel_rfl), hMx.perm (List.Perm.refl _), (nt hx17), kf, kf, kf, kf, kf, kf, kf, kf, kf, kf, kf, kf, kf, kf, kf, cu41, rfl, (tn hx14), (fun _ => tn hx15), kf, (fun _ => hs234)⟩
   · -- 17: assign
    obtain rfl := Option.some.inj hi
    have hx16 := hpre 16 (by kernel_rfl)
    have hx15 := hpre 15 (by kernel_rfl)
    have hx14 := hpre 14 (by kernel_rfl)
    have hx13 := hpre 13 (by kernel_rfl)
    have hx12 := hpre 12 (by kernel_rfl)
    have hx11 := hpre 11 (by kernel_rfl)
    have hx10 := hpre 10 (by kernel_rfl)
    have hx9 := hpre 9 (by kernel_rfl)
    have hx8 := hpre 8 (by kernel_rfl)
    have hx7 := hpre 7 (by kernel_rfl)
    have hx6 := hpre 6 (by kernel_rfl)
    have hx5 := hpre 5 (by kernel_rfl)
    have hx4 := hpre 4 (by kernel_rfl)
    have hx3 := hpre 3 (by kernel_rfl)
    have hx2 := hpre 2 (by kernel_rfl)
    have hx1 := hpre 1 (by kernel_rfl)
    have hx0 := hpre 0 (by kernel_rfl)
    have hx17 := hSi
    obtain rfl := cu6 hx14
    obtain rfl := cu7 hx16
    obtain rfl := cu28 hx10
    obtain rfl := cu29 hx0
    obtain rfl := cu30 hx1
    obtain rfl := cu31 hx2
    obtain rfl := cu32 hx3
    obtain rfl := cu33 hx4
    obtain rfl := cu34 hx5
    obtain rfl := cu35 hx6
    obtain rfl := cu36 hx7
    obtain rfl := cu37 hx8
    obtain rfl := cu38 hx9
    obtain rfl := cu39 hx11
    obtain rfl := cu40 hx12
    obtain rfl := cu41 hx13
    obtain rfl := cr0_0
    obtain rfl := cr1_2 hx15
    refine hG (any_step ?_); clear hG G; intro A J hJ
    have hle0 := Fz.le.trans hle0 hle132
    have hzst := Fz.le.refl Z131
    have hs238 := hs3.mono hle132
    have hs239 := cf0 hx9
    refine s1 hFx 4 (.int .i64 ((readS (((((BitsS u0).1).take (w64 ((((BitsS u0).1).length : Int) - 9)).toNat) ++ ([48] : List UInt8)) ++ (((BitsS u0).1).drop (w64 ((w64 ((((BitsS u0).1).length : Int) - 9)) + 1)).toNat))).2.2)) ?_; intro a240 hF241; clear hFx
    refine nl (qnI (hJ _ _ ?_)); clear hJ J
    exact ⟨ao102, cap103, b116, .int .i64 ((readS (((((BitsS u0).1).take (w64 ((((BitsS u0).1).length : Int) - 9)).toNat) ++ ([48] : List UInt8)) ++ (((BitsS u0).1).drop (w64 ((w64 ((((BitsS u0).1).length : Int) - 9)) + 1)).toNat))).2.2), .pointer (some ⟨b116, 0, none⟩), .int .i64 ((readS (((((BitsS u0).1).take (w64 ((((BitsS u0).1).length : Int) - 9)).toNat) ++ ([48] : List UInt8)) ++ (((BitsS u0).1).drop (w64 ((w64 ((((BitsS u0).1).length : Int) - 9)) + 1)).toNat))).2.1), .tuple #[.agg #[.int .i64 (((readS (((((BitsS u0).1).take (w64 ((((BitsS u0).1).length : Int) - 9)).toNat) ++ ([48] : List UInt8)) ++ (((BitsS u0).1).drop (w64 ((w64 ((((BitsS u0).1).length : Int) - 9)) + 1)).toNat))).1).ID), .bool (((readS (((((BitsS u0).1).take (w64 ((((BitsS u0).1).length : Int) - 9)).toNat) ++ ([48] : List UInt8)) ++ (((BitsS u0).1).drop (w64 ((w64 ((((BitsS u0).1).length : Int) - 9)) + 1)).toNat))).1).Long), .bool (((readS (((((BitsS u0).1).take (w64 ((((BitsS u0).1).length : Int) - 9)).toNat) ++ ([48] : List UInt8)) ++ (((BitsS u0).1).drop (w64 ((w64 ((((BitsS u0).1).length : Int) - 9)) + 1)).toNat))).1).Fast), .bool (((readS (((((BitsS u0).1).take (w64 ((((BitsS u0).1).length : Int) - 9)).toNat) ++ ([48] : List UInt8)) ++ (((BitsS u0).1).drop (w64 ((w64 ((((BitsS u0).1).length : Int) - 9)) + 1)).toNat))).1).Remote), .int .i64 (((readS (((((BitsS u0).1).take (w64 ((((BitsS u0).1).length : Int) - 9)).toNat) ++ ([48] : List UInt8)) ++ (((BitsS u0).1).drop (w64 ((w64 ((((BitsS u0).1).length : Int) - 9)) + 1)).toNat))).1).Size), .slice ao102 (((readS (((((BitsS u0).1).take (w64 ((((BitsS u0).1).length : Int) - 9)).toNat) ++ ([48] : List UInt8)) ++ (((BitsS u0).1).drop (w64 ((w64 ((((BitsS u0).1).length : Int) - 9)) + 1)).toNat))).1).Data).length cap103], .int .i64 ((readS (((((BitsS u0).1).take (w64 ((((BitsS u0).1).length : Int) - 9)).toNat) ++ ([48] : List UInt8)) ++ (((BitsS u0).1).drop (w64 ((w64 ((((BitsS u0).1).length : Int) - 9)) + 1)).toNat))).2.1), .int .i64 ((readS (((((BitsS u0).1).take (w64 ((((BitsS u0).1).length : Int) - 9)).toNat) ++ ([48] : List UInt8)) ++ (((BitsS u0).1).drop (w64 ((w64 ((((BitsS u0).1).length : Int) - 9)) + 1)).toNat))).2.2)], str ((BitsS u0).1), .int .i64 (w64 ((((BitsS u0).1).length : Int) - 9)), str (((BitsS u0).1).take (w64 ((((BitsS u0).1).length : Int) - 9)).toNat), str ((((BitsS u0).1).take (w64 ((((BitsS u0).1).length : Int) - 9)).toNat) ++ ([48] : List UInt8)), str ((BitsS u0).1), .int .i64 (w64 ((((BitsS u0).1).length : Int) - 9)), .int .i64 (w64 ((w64 ((((BitsS u0).1).length : Int) - 9)) + 1)), str (((BitsS u0).1).drop (w64 ((w64 ((((BitsS u0).1).length : Int) - 9)) + 1)).toNat), str (((((BitsS u0).1).take (w64 ((((BitsS u0).1).length : Int) - 9)).toNat) ++ ([48] : List UInt8)) ++ (((BitsS u0).1).drop (w64 ((w64 ((((BitsS u0).1).length : Int) - 9)) + 1)).toNat)), .tuple #[.agg #[.int .i64 (((readS (((((BitsS u0).1).take (w64 ((((BitsS u0).1).length : Int) - 9)).toNat) ++ ([48] : List UInt8)) ++ (((BitsS u0).1).drop (w64 ((w64 ((((BitsS u0).1).length : Int) - 9)) + 1)).toNat))).1).ID), .bool (((readS (((((BitsS u0).1).take (w64 ((((BitsS u0).1).length : Int) - 9)).toNat) ++ ([48] : List UInt8)) ++ (((BitsS u0).1).drop (w64 ((w64 ((((BitsS u0).1).length : Int) - 9)) + 1)).toNat))).1).Long), .bool (((readS (((((BitsS u0).1).take (w64 ((((BitsS u0).1).length : Int) - 9)).toNat) ++ ([48] : List UInt8)) ++ (((BitsS u0).1).drop (w64 ((w64 ((((BitsS u0).1).length : Int) - 9)) + 1)).toNat))).1).Fast), .bool (((readS (((((BitsS u0).1).take (w64 ((((BitsS u0).1).length : Int) - 9)).toNat) ++ ([48] : List UInt8)) ++ (((BitsS u0).1).drop (w64 ((w64 ((((BitsS u0).1).length : Int) - 9)) + 1)).toNat))).1).Remote), .int .i64 (((readS (((((BitsS u0).1).take (w64 ((((BitsS u0).1).length : Int) - 9)).toNat) ++ ([48] : List UInt8)) ++ (((BitsS u0).1).drop (w64 ((w64 ((((BitsS u0).1).length : Int) - 9)) + 1)).toNat))).1).Size), .slice ao102 (((readS (((((BitsS u0).1).take (w64 ((((BitsS u0).1).length : Int) - 9)).toNat) ++ ([48] : List UInt8)) ++ (((BitsS u0).1).drop (w64 ((w64 ((((BitsS u0).1).length : Int) - 9)) + 1)).toNat))).1).Data).length cap103], .int .i64 ((readS (((((BitsS u0).1).take (w64 ((((BitsS u0).1).length : Int) - 9)).toNat) ++ ([48] : List UInt8)) ++ (((BitsS u0).1).drop (w64 ((w64 ((((BitsS u0).1).length : Int) - 9)) + 1)).toNat))).2.1), .int .i64 ((readS (((((BitsS u0).1).take (w64 ((((BitsS u0).1).length : Int) - 9)).toNat) ++ ([48] : List UInt8)) ++ (((BitsS u0).1).drop (w64 ((w64 ((((BitsS u0).1).length : Int) - 9)) + 1)).toNat))).2.2)], .agg #[.int .i64 (((readS (((((BitsS u0).1).take (w64 ((((BitsS u0).1).length : Int) - 9)).toNat) ++ ([48] : List UInt8)) ++ (((BitsS u0).1).drop (w64 ((w64 ((((BitsS u0).1).length : Int) - 9)) + 1)).toNat))).1).ID), .bool (((readS (((((BitsS u0).1).take (w64 ((((BitsS u0).1).length : Int) - 9)).toNat) ++ ([48] : List UInt8)) ++ (((BitsS u0).1).drop (w64 ((w64 ((((BitsS u0).1).length : Int) - 9)) + 1)).toNat))).1).Long), .bool (((readS (((((BitsS u0).1).take (w64 ((((BitsS u0).1).length : Int) - 9)).toNat) ++ ([48] : List UInt8)) ++ (((BitsS u0).1).drop (w64 ((w64 ((((BitsS u0).1).length : Int) - 9)) + 1)).toNat))).1).Fast), .bool (((readS (((((BitsS u0).1).take (w64 ((((BitsS u0).1).length : Int) - 9)).toNat) ++ ([48] : List UInt8)) ++ (((BitsS u0).1).drop (w64 ((w64 ((((BitsS u0).1).length : Int) - 9)) + 1)).toNat))).1).Remote), .int .i64 (((readS (((((BitsS u0).1).take (w64 ((((BitsS u0).1).length : Int) - 9)).toNat) ++ ([48] : List UInt8)) ++ (((BitsS u0).1).drop (w64 ((w64 ((((BitsS u0).1).length : Int) - 9)) + 1)).toNat))).1).Size), .slice ao102 (((readS (((((BitsS u0).1).take (w64 ((((BitsS u0).1).length : Int) - 9)).toNat) ++ ([48] : List UInt8)) ++ (((BitsS u0).1).drop (w64 ((w64 ((((BitsS u0).1).length : Int) - 9)) + 1)).toNat))).1).Data).length cap103], .int .i64 ((readS (((((BitsS u0).1).take (w64 ((((BitsS u0).1).length : Int) - 9)).toNat) ++ ([48] : List UInt8)) ++ (((BitsS u0).1).drop (w64 ((w64 ((((BitsS u0).1).length : Int) - 9)) + 1)).toNat))).2.1), .int .i64 ((readS (((((BitsS u0).1).take (w64 ((((BitsS u0).1).length : Int) - 9)).toNat) ++ ([48] : List UInt8)) ++ (((BitsS u0).1).drop (w64 ((w64 ((((BitsS u0).1).length : Int) - 9)) + 1)).toNat))).2.2), .row b6 [.int .i64 u0.ID, .bool u0.Long, .bool u0.Fast, .bool u0.Remote, .int .i64 u0.Size, .slice ao1 u0.Data.length cap2] 24, .row b116 [.int .i64 (((readS (((((BitsS u0).1).take (w64 ((((BitsS u0).1).length : Int) - 9)).toNat) ++ ([48] : List UInt8)) ++ (((BitsS u0).1).drop (w64 ((w64 ((((BitsS u0).1).length : Int) - 9)) + 1)).toNat))).1).ID), .bool (((readS (((((BitsS u0).1).take (w64 ((((BitsS u0).1).length : Int) - 9)).toNat) ++ ([48] : List UInt8)) ++ (((BitsS u0).1).drop (w64 ((w64 ((((BitsS u0).1).length : Int) - 9)) + 1)).toNat))).1).Long), .bool (((readS (((((BitsS u0).1).take (w64 ((((BitsS u0).1).length : Int) - 9)).toNat) ++ ([48] : List UInt8)) ++ (((BitsS u0).1).drop (w64 ((w64 ((((BitsS u0).1).length : Int) - 9)) + 1)).toNat))).1).Fast), .bool (((readS (((((BitsS u0).1).take (w64 ((((BitsS u0).1).length : Int) - 9)).toNat) ++ ([48] : List UInt8)) ++ (((BitsS u0).1).drop (w64 ((w64 ((((BitsS u0).1).length : Int) - 9)) + 1)).toNat))).1).Remote), .int .i64 (((readS (((((BitsS u0).1).take (w64 ((((BitsS u0).1).length : Int) - 9)).toNat) ++ ([48] : List UInt8)) ++ (((BitsS u0).1).drop (w64 ((w64 ((((BitsS u0).1).length : Int) - 9)) + 1)).toNat))).1).Size), .slice ao102 (((readS (((((BitsS u0).1).take (w64 ((((BitsS u0).1).length : Int) - 9)).toNat) ++ ([48] : List UInt8)) ++ (((BitsS u0).1).drop (w64 ((w64 ((((BitsS u0).1).length : Int) - 9)) + 1)).toNat))).1).Data).length cap103] 24, Z131, hle132, hF241.region (by kernel_rfl) (by kernel_rfl), hMx.perm (List.Perm.refl _), kf, kf, kf, kf, kf, kf, kf, kf, kf, kf, kf, kf, kf, kf, kf, kf, kf, rfl, (tn hx14), (fun _ => tn hx15), kf, (fun _ => hs239)⟩
  case hE =>
   intro S hS a243 wd244 hI; refine Go.Sy.hid ?_; intro G hG; obtain ⟨ao102, hI⟩ := hI; obtain ⟨cap103, hI⟩ := hI; obtain ⟨b116, hI⟩ := hI; obtain ⟨ud4, hI⟩ := hI; obtain ⟨ud6, hI⟩ := hI; obtain ⟨ud7, hI⟩ := hI; obtain ⟨ud28, hI⟩ := hI; obtain ⟨ud29, hI⟩ := hI; obtain ⟨ud30, hI⟩ := hI; obtain ⟨ud31, hI⟩ := hI; obtain ⟨ud32, hI⟩ := hI; obtain ⟨ud33, hI⟩ := hI; obtain ⟨ud34, hI⟩ := hI; obtain ⟨ud35, hI⟩ := hI; obtain ⟨ud36, hI⟩ := hI; obtain ⟨ud37, hI⟩ := hI; obtain ⟨ud38, hI⟩ := hI; obtain ⟨ud39, hI⟩ := hI; obtain ⟨ud40, hI⟩ := hI; obtain ⟨ud41, hI⟩ := hI; obtain ⟨rh0, hI⟩ := hI; obtain ⟨rh1, hI⟩ := hI; obtain ⟨Z131, hI⟩ := hI; obtain ⟨hle132, hI⟩ := hI; obtain ⟨hFx, hI⟩ := hI; obtain ⟨hMx, hI⟩ := hI; obtain ⟨cu4, hI⟩ := hI; obtain ⟨cu6, hI⟩ := hI; obtain ⟨cu7, hI⟩ := hI; obtain ⟨cu28, hI⟩ := hI; obtain ⟨cu29, hI⟩ := hI; obtain ⟨cu30, hI⟩ := hI; obtain ⟨cu31, hI⟩ := hI; obtain ⟨cu32, hI⟩ := hI; obtain ⟨cu33, hI⟩ := hI; obtain ⟨cu34, hI⟩ := hI; obtain ⟨cu35, hI⟩ := hI; obtain ⟨cu36, hI⟩ := hI; obtain ⟨cu37, hI⟩ := hI; obtain ⟨cu38, hI⟩ := hI; obtain ⟨cu39, hI⟩ := hI; obtain ⟨cu40, hI⟩ := hI; obtain ⟨cu41, hI⟩ := hI; obtain ⟨cr0_0, hI⟩ := hI; obtain ⟨cr1_0, hI⟩ := hI; obtain ⟨cr1_1, hI⟩ := hI; obtain ⟨cr1_2, hI⟩ := hI; have cf0 := hI; clear hI; refine hG ?_; clear hG G
   obtain rfl := cu4 (hS 17 (by decide))
   obtain rfl := cu6 (hS 14 (by decide))
   obtain rfl := cu7 (hS 16 (by decide))
   obtain rfl := cu28 (hS 10 (by decide))
   obtain rfl := cu29 (hS 0 (by decide))
   obtain rfl := cu30 (hS 1 (by decide))
   obtain rfl := cu31 (hS 2 (by decide))
   obtain rfl := cu32 (hS 3 (by decide))
   obtain rfl := cu33 (hS 4 (by decide))
   obtain rfl := cu34 (hS 5 (by decide))
   obtain rfl := cu35 (hS 6 (by decide))
   obtain rfl := cu36 (hS 7 (by decide))
   obtain rfl := cu37 (hS 8 (by decide))
   obtain rfl := cu38 (hS 9 (by decide))
   obtain rfl := cu39 (hS 11 (by decide))
   obtain rfl := cu40 (hS 12 (by decide))
   obtain rfl := cu41 (hS 13 (by decide))
   obtain rfl := cr0_0
   obtain rfl := cr1_2 (hS 15 (by decide))
   have hle0 := Fz.le.trans hle0 hle132
   have hs245 := hs3.mono hle132
   have hs246 := cf0 (hS 9 (by decide))
   refine thn ?_
   have hF247 : Fr 55 [] [⟨1, [], .pointer (some ⟨b6, 0, none⟩)⟩, ⟨3, [], str ((BitsS u0).1)⟩, ⟨4, [], .int .i64 ((readS (((((BitsS u0).1).take (w64 ((((BitsS u0).1).length : Int) - 9)).toNat) ++ ([48] : List UInt8)) ++ (((BitsS u0).1).drop (w64 ((w64 ((((BitsS u0).1).length : Int) - 9)) + 1)).toNat))).2.2)⟩, ⟨6, [], .pointer (some ⟨b116, 0, none⟩)⟩, ⟨7, [], .int .i64 ((readS (((((BitsS u0).1).take (w64 ((((BitsS u0).1).length : Int) - 9)).toNat) ++ ([48] : List UInt8)) ++ (((BitsS u0).1).drop (w64 ((w64 ((((BitsS u0).1).length : Int) - 9)) + 1)).toNat))).2.1)⟩] a243 := hFx.region (by kernel_rfl) (by kernel_rfl); clear hFx
   refine sqH ?_; intro hQ248Q hQ248
   refine s1 hF247 42 (.int .i64 ((readS (((((BitsS u0).1).take (w64 ((((BitsS u0).1).length : Int) - 9)).toNat) ++ ([48] : List UInt8)) ++ (((BitsS u0).1).drop (w64 ((w64 ((((BitsS u0).1).length : Int) - 9)) + 1)).toNat))).2.2)) ?_; intro a249 hF250; clear hF247
   refine s1 hF250 43 (.bool (((readS (((((BitsS u0).1).take (w64 ((((BitsS u0).1).length : Int) - 9)).toNat) ++ ([48] : List UInt8)) ++ (((BitsS u0).1).drop (w64 ((w64 ((((BitsS u0).1).length : Int) - 9)) + 1)).toNat))).2.2) == 0)) ?_; intro a251 hF252; clear hF250
   refine s1 hF252 44 (.bool (((readS (((((BitsS u0).1).take (w64 ((((BitsS u0).1).length : Int) - 9)).toNat) ++ ([48] : List UInt8)) ++ (((BitsS u0).1).drop (w64 ((w64 ((((BitsS u0).1).length : Int) - 9)) + 1)).toNat))).2.2) == 0)) ?_; intro a253 hF254; clear hF252
   have hF255 := hF254.atom ((((readS (((((BitsS u0).1).take (w64 ((((BitsS u0).1).length : Int) - 9)).toNat) ++ ([48] : List UInt8)) ++ (((BitsS u0).1).drop (w64 ((w64 ((((BitsS u0).1).length : Int) - 9)) + 1)).toNat))).2.2) == 0) == true) (by kernel_rfl); clear hF254
   refine gp hF255 45 0 [] (((readS (((((BitsS u0).1).take (w64 ((((BitsS u0).1).length : Int) - 9)).toNat) ++ ([48] : List UInt8)) ++ (((BitsS u0).1).drop (w64 ((w64 ((((BitsS u0).1).length : Int) - 9)) + 1)).toNat))).2.2) == 0) (.int .i64 ((readS (((((BitsS u0).1).take (w64 ((((BitsS u0).1).length : Int) - 9)).toNat) ++ ([48] : List UInt8)) ++ (((BitsS u0).1).drop (w64 ((w64 ((((BitsS u0).1).length : Int) - 9)) + 1)).toNat))).2.1)) rfl rfl ?_; intro a256 hF257; clear hF255
   refine gp hF257 46 0 [] (((readS (((((BitsS u0).1).take (w64 ((((BitsS u0).1).length : Int) - 9)).toNat) ++ ([48] : List UInt8)) ++ (((BitsS u0).1).drop (w64 ((w64 ((((BitsS u0).1).length : Int) - 9)) + 1)).toNat))).2.2) == 0) (str ((BitsS u0).1)) rfl rfl ?_; intro a258 hF259; clear hF257
   refine gp hF259 47 0 [] (((readS (((((BitsS u0).1).take (w64 ((((BitsS u0).1).length : Int) - 9)).toNat) ++ ([48] : List UInt8)) ++ (((BitsS u0).1).drop (w64 ((w64 ((((BitsS u0).1).length : Int) - 9)) + 1)).toNat))).2.2) == 0) (.int .i64 (((BitsS u0).1).length : Int)) rfl rfl ?_; intro a260 hF261; clear hF259
   refine gp hF261 48 0 [] (((readS (((((BitsS u0).1).take (w64 ((((BitsS u0).1).length : Int) - 9)).toNat) ++ ([48] : List UInt8)) ++ (((BitsS u0).1).drop (w64 ((w64 ((((BitsS u0).1).length : Int) - 9)) + 1)).toNat))).2.2) == 0) (.bool (((readS (((((BitsS u0).1).take (w64 ((((BitsS u0).1).length : Int) - 9)).toNat) ++ ([48] : List UInt8)) ++ (((BitsS u0).1).drop (w64 ((w64 ((((BitsS u0).1).length : Int) - 9)) + 1)).toNat))).2.1) == (((BitsS u0).1).length : Int))) rfl rfl ?_; intro a262 hF263; clear hF261
   refine st hF263 (.bool ((((readS (((((BitsS u0).1).take (w64 ((((BitsS u0).1).length : Int) - 9)).toNat) ++ ([48] : List UInt8)) ++ (((BitsS u0).1).drop (w64 ((w64 ((((BitsS u0).1).length : Int) - 9)) + 1)).toNat))).2.2) == 0) && (((readS (((((BitsS u0).1).take (w64 ((((BitsS u0).1).length : Int) - 9)).toNat) ++ ([48] : List UInt8)) ++ (((BitsS u0).1).drop (w64 ((w64 ((((BitsS u0).1).length : Int) - 9)) + 1)).toNat))).2.1) == (((BitsS u0).1).length : Int)))) (nog rfl _) rfl (by kernel_rfl) (pk_and hF263 (g := []) (m := 0) (b := ((readS (((((BitsS u0).1).take (w64 ((((BitsS u0).1).length : Int) - 9)).toNat) ++ ([48] : List UInt8)) ++ (((BitsS u0).1).drop (w64 ((w64 ((((BitsS u0).1).length : Int) - 9)) + 1)).toNat))).2.2) == 0) (v := ((readS (((((BitsS u0).1).take (w64 ((((BitsS u0).1).length : Int) - 9)).toNat) ++ ([48] : List UInt8)) ++ (((BitsS u0).1).drop (w64 ((w64 ((((BitsS u0).1).length : Int) - 9)) + 1)).toNat))).2.1) == (((BitsS u0).1).length : Int)) rfl (by kernel_rfl) (by kernel_rfl) (by kernel_rfl) rfl) ?_; intro a264 hF265; clear hF263
   refine s1 hF265 50 (.bool ((((readS (((((BitsS u0).1).take (w64 ((((BitsS u0).1).length : Int) - 9)).toNat) ++ ([48] : List UInt8)) ++ (((BitsS u0).1).drop (w64 ((w64 ((((BitsS u0).1).length : Int) - 9)) + 1)).toNat))).2.2) == 0) && (((readS (((((BitsS u0).1).take (w64 ((((BitsS u0).1).length : Int) - 9)).toNat) ++ ([48] : List UInt8)) ++ (((BitsS u0).1).drop (w64 ((w64 ((((BitsS u0).1).length : Int) - 9)) + 1)).toNat))).2.1) == (((BitsS u0).1).length : Int)))) ?_; intro a266 hF267; clear hF265
   have hF268 := hF267.atom (((((readS (((((BitsS u0).1).take (w64 ((((BitsS u0).1).length : Int) - 9)).toNat) ++ ([48] : List UInt8)) ++ (((BitsS u0).1).drop (w64 ((w64 ((((BitsS u0).1).length : Int) - 9)) + 1)).toNat))).2.2) == 0) && (((readS (((((BitsS u0).1).take (w64 ((((BitsS u0).1).length : Int) - 9)).toNat) ++ ([48] : List UInt8)) ++ (((BitsS u0).1).drop (w64 ((w64 ((((BitsS u0).1).length : Int) - 9)) + 1)).toNat))).2.1) == (((BitsS u0).1).length : Int))) == true) (by kernel_rfl); clear hF267
   refine gd hF268 (.agg #[.int .i64 u0.ID, .bool u0.Long, .bool u0.Fast, .bool u0.Remote, .int .i64 u0.Size, .slice ao1 u0.Data.length cap2]) (m := 1) (cj := []) (bj := (((readS (((((BitsS u0).1).take (w64 ((((BitsS u0).1).length : Int) - 9)).toNat) ++ ([48] : List UInt8)) ++ (((BitsS u0).1).drop (w64 ((w64 ((((BitsS u0).1).length : Int) - 9)) + 1)).toNat))).2.2) == 0) && (((readS (((((BitsS u0).1).take (w64 ((((BitsS u0).1).length : Int) - 9)).toNat) ++ ([48] : List UInt8)) ++ (((BitsS u0).1).drop (w64 ((w64 ((((BitsS u0).1).length : Int) - 9)) + 1)).toNat))).2.1) == (((BitsS u0).1).length : Int))) rfl rfl (by kernel_rfl) rfl (by kernel_rfl) (by kernel_rfl) (by kernel_rfl) (fun hg => lda hF268 hMx 0 (g := [1]) (b := b6) (off := 0) (k := 6) (cs := [.int .i64 u0.ID, .bool u0.Long, .bool u0.Fast, .bool u0.Remote, .int .i64 u0.Size, .slice ao1 u0.Data.length cap2]) (vs := [.int .i64 u0.ID, .bool u0.Long, .bool u0.Fast, .bool u0.Remote, .int .i64 u0.Size, .slice ao1 u0.Data.length cap2]) (ty := 24) rfl (by kernel_rfl) (by kernel_rfl) (by kernel_rfl) (by kernel_rfl) (by kernel_rfl) hg) ?_; intro a269 hF270; clear hF268
   refine gd hF270 (.agg #[.int .i64 (((readS (((((BitsS u0).1).take (w64 ((((BitsS u0).1).length : Int) - 9)).toNat) ++ ([48] : List UInt8)) ++ (((BitsS u0).1).drop (w64 ((w64 ((((BitsS u0).1).length : Int) - 9)) + 1)).toNat))).1).ID), .bool (((readS (((((BitsS u0).1).take (w64 ((((BitsS u0).1).length : Int) - 9)).toNat) ++ ([48] : List UInt8)) ++ (((BitsS u0).1).drop (w64 ((w64 ((((BitsS u0).1).length : Int) - 9)) + 1)).toNat))).1).Long), .bool (((readS (((((BitsS u0).1).take (w64 ((((BitsS u0).1).length : Int) - 9)).toNat) ++ ([48] : List UInt8)) ++ (((BitsS u0).1).drop (w64 ((w64 ((((BitsS u0).1).length : Int) - 9)) + 1)).toNat))).1).Fast), .bool (((readS (((((BitsS u0).1).take (w64 ((((BitsS u0).1).length : Int) - 9)).toNat) ++ ([48] : List UInt8)) ++ (((BitsS u0).1).drop (w64 ((w64 ((((BitsS u0).1).length : Int) - 9)) + 1)).toNat))).1).Remote), .int .i64 (((readS (((((BitsS u0).1).take (w64 ((((BitsS u0).1).length : Int) - 9)).toNat) ++ ([48] : List UInt8)) ++ (((BitsS u0).1).drop (w64 ((w64 ((((BitsS u0).1).length : Int) - 9)) + 1)).toNat))).1).Size), .slice ao102 (((readS (((((BitsS u0).1).take (w64 ((((BitsS u0).1).length : Int) - 9)).toNat) ++ ([48] : List UInt8)) ++ (((BitsS u0).1).drop (w64 ((w64 ((((BitsS u0).1).length : Int) - 9)) + 1)).toNat))).1).Data).length cap103]) (m := 1) (cj := []) (bj := (((readS (((((BitsS u0).1).take (w64 ((((BitsS u0).1).length : Int) - 9)).toNat) ++ ([48] : List UInt8)) ++ (((BitsS u0).1).drop (w64 ((w64 ((((BitsS u0).1).length : Int) - 9)) + 1)).toNat))).2.2) == 0) && (((readS (((((BitsS u0).1).take (w64 ((((BitsS u0).1).length : Int) - 9)).toNat) ++ ([48] : List UInt8)) ++ (((BitsS u0).1).drop (w64 ((w64 ((((BitsS u0).1).length : Int) - 9)) + 1)).toNat))).2.1) == (((BitsS u0).1).length : Int))) rfl rfl (by kernel_rfl) rfl (by kernel_rfl) (by kernel_rfl) (by kernel_rfl) (fun hg => lda hF270 hMx 1 (g := [1]) (b := b116) (off := 0) (k := 6) (cs := [.int .i64 (((readS (((((BitsS u0).1).take (w64 ((((BitsS u0).1).length : Int) - 9)).toNat) ++ ([48] : List UInt8)) ++ (((BitsS u0).1).drop (w64 ((w64 ((((BitsS u0).1).length : Int) - 9)) + 1)).toNat))).1).ID), .bool (((readS (((((BitsS u0).1).take (w64 ((((BitsS u0).1).length : Int) - 9)).toNat) ++ ([48] : List UInt8)) ++ (((BitsS u0).1).drop (w64 ((w64 ((((BitsS u0).1).length : Int) - 9)) + 1)).toNat))).1).Long), .bool (((readS (((((BitsS u0).1).take (w64 ((((BitsS u0).1).length : Int) - 9)).toNat) ++ ([48] : List UInt8)) ++ (((BitsS u0).1).drop (w64 ((w64 ((((BitsS u0).1).length : Int) - 9)) + 1)).toNat))).1).Fast), .bool (((readS (((((BitsS u0).1).take (w64 ((((BitsS u0).1).length : Int) - 9)).toNat) ++ ([48] : List UInt8)) ++ (((BitsS u0).1).drop (w64 ((w64 ((((BitsS u0).1).length : Int) - 9)) + 1)).toNat))).1).Remote), .int .i64 (((readS (((((BitsS u0).1).take (w64 ((((BitsS u0).1).length : Int) - 9)).toNat) ++ ([48] : List UInt8)) ++ (((BitsS u0).1).drop (w64 ((w64 ((((BitsS u0).1).length : Int) - 9)) + 1)).toNat))).1).Size), .slice ao102 (((readS (((((BitsS u0).1).take (w64 ((((BitsS u0).1).length : Int) - 9)).toNat) ++ ([48] : List UInt8)) ++ (((BitsS u0).1).drop (w64 ((w64 ((((BitsS u0).1).length : Int) - 9)) + 1)).toNat))).1).Data).length cap103]) (vs := [.int .i64 (((readS (((((BitsS u0).1).take (w64 ((((BitsS u0).1).length : Int) - 9)).toNat) ++ ([48] : List UInt8)) ++ (((BitsS u0).1).drop (w64 ((w64 ((((BitsS u0).1).length : Int) - 9)) + 1)).toNat))).1).ID), .bool (((readS (((((BitsS u0).1).take (w64 ((((BitsS u0).1).length : Int) - 9)).toNat) ++ ([48] : List UInt8)) ++ (((BitsS u0).1).drop (w64 ((w64 ((((BitsS u0).1).length : Int) - 9)) + 1)).toNat))).1).Long), .bool (((readS (((((BitsS u0).1).take (w64 ((((BitsS u0).1).length : Int) - 9)).toNat) ++ ([48] : List UInt8)) ++ (((BitsS u0).1).drop (w64 ((w64 ((((BitsS u0).1).length : Int) - 9)) + 1)).toNat))).1).Fast), .bool (((readS (((((BitsS u0).1).take (w64 ((((BitsS u0).1).length : Int) - 9)).toNat) ++ ([48] : List UInt8)) ++ (((BitsS u0).1).drop (w64 ((w64 ((((BitsS u0).1).length : Int) - 9)) + 1)).toNat))).1).Remote), .int .i64 (((readS (((((BitsS u0).1).take (w64 ((((BitsS u0).1).length : Int) - 9)).toNat) ++ ([48] : List UInt8)) ++ (((BitsS u0).1).drop (w64 ((w64 ((((BitsS u0).1).length : Int) - 9)) + 1)).toNat))).1).Size), .slice ao102 (((readS (((((BitsS u0).1).take (w64 ((((BitsS u0).1).length : Int) - 9)).toNat) ++ ([48] : List UInt8)) ++ (((BitsS u0).1).drop (w64 ((w64 ((((BitsS u0).1).length : Int) - 9)) + 1)).toNat))).1).Data).length cap103]) (ty := 24) rfl (by kernel_rfl) (by kernel_rfl) (by kernel_rfl) (by kernel_rfl) (by kernel_rfl) hg) ?_; intro a271 hF272; clear hF270
   refine gcl hF272 hMx (.bool (sameS u0 ((readS (((((BitsS u0).1).take (w64 ((((BitsS u0).1).length : Int) - 9)).toNat) ++ ([48] : List UInt8)) ++ (((BitsS u0).1).drop (w64 ((w64 ((((BitsS u0).1).length : Int) - 9)) + 1)).toNat))).1))) 13 #[.agg #[.int .i64 u0.ID, .bool u0.Long, .bool u0.Fast, .bool u0.Remote, .int .i64 u0.Size, .slice ao1 u0.Data.length cap2], .agg #[.int .i64 (((readS (((((BitsS u0).1).take (w64 ((((BitsS u0).1).length : Int) - 9)).toNat) ++ ([48] : List UInt8)) ++ (((BitsS u0).1).drop (w64 ((w64 ((((BitsS u0).1).length : Int) - 9)) + 1)).toNat))).1).ID), .bool (((readS (((((BitsS u0).1).take (w64 ((((BitsS u0).1).length : Int) - 9)).toNat) ++ ([48] : List UInt8)) ++ (((BitsS u0).1).drop (w64 ((w64 ((((BitsS u0).1).length : Int) - 9)) + 1)).toNat))).1).Long), .bool (((readS (((((BitsS u0).1).take (w64 ((((BitsS u0).1).length : Int) - 9)).toNat) ++ ([48] : List UInt8)) ++ (((BitsS u0).1).drop (w64 ((w64 ((((BitsS u0).1).length : Int) - 9)) + 1)).toNat))).1).Fast), .bool (((readS (((((BitsS u0).1).take (w64 ((((BitsS u0).1).length : Int) - 9)).toNat) ++ ([48] : List UInt8)) ++ (((BitsS u0).1).drop (w64 ((w64 ((((BitsS u0).1).length : Int) - 9)) + 1)).toNat))).1).Remote), .int .i64 (((readS (((((BitsS u0).1).take (w64 ((((BitsS u0).1).length : Int) - 9)).toNat) ++ ([48] : List UInt8)) ++ (((BitsS u0).1).drop (w64 ((w64 ((((BitsS u0).1).length : Int) - 9)) + 1)).toNat))).1).Size), .slice ao102 (((readS (((((BitsS u0).1).take (w64 ((((BitsS u0).1).length : Int) - 9)).toNat) ++ ([48] : List UInt8)) ++ (((BitsS u0).1).drop (w64 ((w64 ((((BitsS u0).1).length : Int) - 9)) + 1)).toNat))).1).Data).length cap103]] (m := 1) (cj := []) (bj := (((readS (((((BitsS u0).1).take (w64 ((((BitsS u0).1).length : Int) - 9)).toNat) ++ ([48] : List UInt8)) ++ (((BitsS u0).1).drop (w64 ((w64 ((((BitsS u0).1).length : Int) - 9)) + 1)).toNat))).2.2) == 0) && (((readS (((((BitsS u0).1).take (w64 ((((BitsS u0).1).length : Int) - 9)).toNat) ++ ([48] : List UInt8)) ++ (((BitsS u0).1).drop (w64 ((w64 ((((BitsS u0).1).length : Int) - 9)) + 1)).toNat))).2.1) == (((BitsS u0).1).length : Int))) rfl rfl (by kernel_rfl) rfl (by kernel_rfl) (by kernel_rfl) (by kernel_rfl) (fun _ => by kernel_rfl) (fun hg => fSame_fun u0 ((readS (((((BitsS u0).1).take (w64 ((((BitsS u0).1).length : Int) - 9)).toNat) ++ ([48] : List UInt8)) ++ (((BitsS u0).1).drop (w64 ((w64 ((((BitsS u0).1).length : Int) - 9)) + 1)).toNat))).1) ao1 cap2 ao102 cap103 _ _ hs245 hs246 hMx.fz) ?_; intro a273 wd275 hF274 hM276; clear hF272 hMx
   refine st hF274 (.bool (((((readS (((((BitsS u0).1).take (w64 ((((BitsS u0).1).length : Int) - 9)).toNat) ++ ([48] : List UInt8)) ++ (((BitsS u0).1).drop (w64 ((w64 ((((BitsS u0).1).length : Int) - 9)) + 1)).toNat))).2.2) == 0) && (((readS (((((BitsS u0).1).take (w64 ((((BitsS u0).1).length : Int) - 9)).toNat) ++ ([48] : List UInt8)) ++ (((BitsS u0).1).drop (w64 ((w64 ((((BitsS u0).1).length : Int) - 9)) + 1)).toNat))).2.1) == (((BitsS u0).1).length : Int))) && (sameS u0 ((readS (((((BitsS u0).1).take (w64 ((((BitsS u0).1).length : Int) - 9)).toNat) ++ ([48] : List UInt8)) ++ (((BitsS u0).1).drop (w64 ((w64 ((((BitsS u0).1).length : Int) - 9)) + 1)).toNat))).1)))) (nog rfl _) rfl (by kernel_rfl) (pk_and hF274 (g := []) (m := 1) (b := (((readS (((((BitsS u0).1).take (w64 ((((BitsS u0).1).length : Int) - 9)).toNat) ++ ([48] : List UInt8)) ++ (((BitsS u0).1).drop (w64 ((w64 ((((BitsS u0).1).length : Int) - 9)) + 1)).toNat))).2.2) == 0) && (((readS (((((BitsS u0).1).take (w64 ((((BitsS u0).1).length : Int) - 9)).toNat) ++ ([48] : List UInt8)) ++ (((BitsS u0).1).drop (w64 ((w64 ((((BitsS u0).1).length : Int) - 9)) + 1)).toNat))).2.1) == (((BitsS u0).1).length : Int))) (v := (sameS u0 ((readS (((((BitsS u0).1).take (w64 ((((BitsS u0).1).length : Int) - 9)).toNat) ++ ([48] : List UInt8)) ++ (((BitsS u0).1).drop (w64 ((w64 ((((BitsS u0).1).length : Int) - 9)) + 1)).toNat))).1))) rfl (by kernel_rfl) (by kernel_rfl) (by kernel_rfl) rfl) ?_; intro a277 hF278; clear hF274
   refine s1 hF278 2 (.bool (((((readS (((((BitsS u0).1).take (w64 ((((BitsS u0).1).length : Int) - 9)).toNat) ++ ([48] : List UInt8)) ++ (((BitsS u0).1).drop (w64 ((w64 ((((BitsS u0).1).length : Int) - 9)) + 1)).toNat))).2.2) == 0) && (((readS (((((BitsS u0).1).take (w64 ((((BitsS u0).1).length : Int) - 9)).toNat) ++ ([48] : List UInt8)) ++ (((BitsS u0).1).drop (w64 ((w64 ((((BitsS u0).1).length : Int) - 9)) + 1)).toNat))).2.1) == (((BitsS u0).1).length : Int))) && (sameS u0 ((readS (((((BitsS u0).1).take (w64 ((((BitsS u0).1).length : Int) - 9)).toNat) ++ ([48] : List UInt8)) ++ (((BitsS u0).1).drop (w64 ((w64 ((((BitsS u0).1).length : Int) - 9)) + 1)).toNat))).1)))) ?_; intro a279 hF280; clear hF278
   refine nlH (hQ248 _ _ ?_); clear hQ248 hQ248Q
   refine wp_ret ?_
   refine rt (fn := Tryd.f3) (v := .bool (((((readS (((((BitsS u0).1).take (w64 ((((BitsS u0).1).length : Int) - 9)).toNat) ++ ([48] : List UInt8)) ++ (((BitsS u0).1).drop (w64 ((w64 ((((BitsS u0).1).length : Int) - 9)) + 1)).toNat))).2.2) == 0) && (((readS (((((BitsS u0).1).take (w64 ((((BitsS u0).1).length : Int) - 9)).toNat) ++ ([48] : List UInt8)) ++ (((BitsS u0).1).drop (w64 ((w64 ((((BitsS u0).1).length : Int) - 9)) + 1)).toNat))).2.1) == (((BitsS u0).1).length : Int))) && (sameS u0 ((readS (((((BitsS u0).1).take (w64 ((((BitsS u0).1).length : Int) - 9)).toNat) ++ ([48] : List UInt8)) ++ (((BitsS u0).1).drop (w64 ((w64 ((((BitsS u0).1).length : Int) - 9)) + 1)).toNat))).1)))) hF280 (re1 hF280 (fn := Tryd.f3) rfl (by kernel_rfl)) ?_
   exact ⟨((((readS (((((BitsS u0).1).take (w64 ((((BitsS u0).1).length : Int) - 9)).toNat) ++ ([48] : List UInt8)) ++ (((BitsS u0).1).drop (w64 ((w64 ((((BitsS u0).1).length : Int) - 9)) + 1)).toNat))).2.2) == 0) && (((readS (((((BitsS u0).1).take (w64 ((((BitsS u0).1).length : Int) - 9)).toNat) ++ ([48] : List UInt8)) ++ (((BitsS u0).1).drop (w64 ((w64 ((((BitsS u0).1).length : Int) - 9)) + 1)).toNat))).2.1) == (((BitsS u0).1).length : Int))) && (sameS u0 ((readS (((((BitsS u0).1).take (w64 ((((BitsS u0).1).length : Int) - 9)).toNat) ++ ([48] : List UInt8)) ++ (((BitsS u0).1).drop (w64 ((w64 ((((BitsS u0).1).length : Int) - 9)) + 1)).toNat))).1)), rfl, hp130, hM276.below⟩

end Go.Proofs.YtmbdcehmeiiaoaaDoor
