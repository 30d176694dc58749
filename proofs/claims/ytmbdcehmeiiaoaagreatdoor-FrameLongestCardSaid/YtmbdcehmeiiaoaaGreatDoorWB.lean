/- The walks, made by program: each call does what its pure predicate says. -/
import Derived.Test.YtmbdcehmeiiaoaaGreatDoorPB
import Derived.Test.YtmbdcehmeiiaoaaGreatDoorWA
set_option linter.unusedVariables false
set_option linter.unusedSimpArgs false
namespace Go.Proofs.YtmbdcehmeiiaoaaGreatDoor
open Go.Sy Go.RowKit
theorem bread_fun (u0 : List UInt8) (hpre : u0.length ≤ 62 ∧ isRow u0 = true)  (Z : Fz) (w : World)  (hZ : Z.on w) : Calls Tryz.prog 67 #[str u0] w fun e w' => e = .returned (.int .u64 (breadS u0)) ∧ Below w.heap.size w w' :=
  (bread_walk u0  Z w  hZ (bread_ok u0 hpre)).mono fun _ _ ⟨r, he, hk, hb⟩ => ⟨by subst hk; exact he, hb⟩

theorem bwrite_fun (u0 : Int) (u1 : Int) (hpre : 0 ≤ u1 ∧ u1 ≤ 64 ∧ 0 ≤ u0 ∧ u0 < 2 ^ 62)  (Z : Fz) (w : World)  (hZ : Z.on w) : Calls Tryz.prog 71 #[.int .u64 u0, .int .i64 u1] w fun e w' => e = .returned (str (bwriteS u0 u1)) ∧ Below w.heap.size w w' :=
  (bwrite_walk u0 u1  Z w  hZ (bwrite_ok u0 u1 hpre)).mono fun _ _ ⟨r, he, hk, hb⟩ => ⟨by subst hk; exact he, hb⟩

theorem bcheck_fun (u0 : List UInt8)  (Z : Fz) (w : World)  (hZ : Z.on w) : Calls Tryz.prog 31 #[str u0] w fun e w' => e = .returned (.int .i64 (bcheckS u0)) ∧ Below w.heap.size w w' :=
  (bcheck_walk u0  Z w  hZ (bcheck_ok u0)).mono fun _ _ ⟨r, he, hk, hb⟩ => ⟨by subst hk; exact he, hb⟩

theorem ksum_fun (u0 : Kind) (u1 : List UInt8) (hpre : okKindS u0 ∧ u1.length ≤ 1000000)  (Z : Fz) (w : World)  (hZ : Z.on w) : Calls Tryz.prog 72 #[.agg #[.int .i64 u0.Size, .int .u64 u0.Poly, .int .u64 u0.From, .int .u64 u0.End], str u1] w fun e w' => e = .returned (.int .u64 (ksumS u0 u1)) ∧ Below w.heap.size w w' :=
  (ksum_walk u0 u1  Z w  hZ (ksum_ok u0 u1 hpre)).mono fun _ _ ⟨r, he, hk, hb⟩ => ⟨by subst hk; exact he, hb⟩

theorem cnext_fun (u0 : Counter) (u1 : Int) (hpre : -1000000 ≤ u0.n ∧ u0.n ≤ 1000000 ∧ 0 ≤ u1 ∧ u1 ≤ 97) (b1 : Nat) (B : Nat) (w0 : World) (Z0 : Fz) (Rr : List Res) (Z : Fz) (w : World) (hM0 : Mem B [] w0 Z0 ((.row b1 [.int .u8 u0.last, .int .i64 u0.n] 57) :: Rr) Z w) (hZ : Z.on w) : Calls Tryz.prog 69 #[.pointer (some ⟨b1, 0, none⟩), .int .u8 u1] w fun e w' => ∃ (Z' : Fz), e = .returned (.tuple #[.int .u8 (cnextS u0 u1).1, .bool (cnextS u0 u1).2.1]) ∧ Fz.le Z Z' ∧ Mem B [] w0 Z0 ((.row b1 [.int .u8 (cnextS u0 u1).2.2.last, .int .i64 (cnextS u0 u1).2.2.n] 57) :: Rr) Z' w' :=
  (cnext_walk u0 u1 b1 B w0 Z0 Rr Z w hM0 hZ (cnext_ok u0 u1 hpre)).mono fun _ _ ⟨r, h0, he, hk, f0, hm⟩ => by subst hk; exact ⟨h0, he, f0, hm⟩


theorem cnextF_fun (u0 : FReader) (u1 : Int) (hpre : -1000000 ≤ u0.Reader.c.n ∧ u0.Reader.c.n ≤ 1000000 ∧ 0 ≤ u1 ∧ u1 ≤ 97) (b1 : Nat) (ao2 : Option Addr) (cap3 : Nat) (B : Nat) (w0 : World) (Z0 : Fz) (Rr : List Res) (Z : Fz) (w : World) (hs4 : SlR (tyInt .u8) Z ao2 cap3 u0.f.Data) (hM0 : Mem B [] w0 Z0 ((.row b1 [str u0.Reader.Row, .int .i64 u0.Reader.At, .int .i64 u0.Reader.Code, .int .u8 u0.Reader.c.last, .int .i64 u0.Reader.c.n, .int .i64 u0.f.ID, .bool u0.f.Long, .bool u0.f.Fast, .bool u0.f.Remote, .int .i64 u0.f.Size, .slice ao2 u0.f.Data.length cap3] 61) :: Rr) Z w) (hZ : Z.on w) : Calls Tryz.prog 69 #[.pointer (some ⟨b1, 3, none⟩), .int .u8 u1] w fun e w' => ∃ (ao1001 : Option Addr) (cap1002 : Nat) (Z' : Fz), e = .returned (.tuple #[.int .u8 (cnextFS u0 u1).1, .bool (cnextFS u0 u1).2.1]) ∧ Fz.le Z Z' ∧ SlR (tyInt .u8) Z' ao1001 cap1002 (cnextFS u0 u1).2.2.f.Data ∧ Mem B [] w0 Z0 ((.row b1 [str (cnextFS u0 u1).2.2.Reader.Row, .int .i64 (cnextFS u0 u1).2.2.Reader.At, .int .i64 (cnextFS u0 u1).2.2.Reader.Code, .int .u8 (cnextFS u0 u1).2.2.Reader.c.last, .int .i64 (cnextFS u0 u1).2.2.Reader.c.n, .int .i64 (cnextFS u0 u1).2.2.f.ID, .bool (cnextFS u0 u1).2.2.f.Long, .bool (cnextFS u0 u1).2.2.f.Fast, .bool (cnextFS u0 u1).2.2.f.Remote, .int .i64 (cnextFS u0 u1).2.2.f.Size, .slice ao1001 (cnextFS u0 u1).2.2.f.Data.length cap1002] 61) :: Rr) Z' w' :=
  (cnextF_walk u0 u1 b1 ao2 cap3 B w0 Z0 Rr Z w hs4 hM0 hZ (cnextF_ok u0 u1 hpre)).mono fun _ _ ⟨r, h0, h1, h2, he, hk, f0, f1, hm⟩ => by subst hk; exact ⟨h0, h1, h2, he, f0, f1, hm⟩


theorem rbitF_fun (u0 : FReader) (hpre : 0 ≤ u0.Reader.At ∧ u0.Reader.At ≤ (u0.Reader.Row.length : Int) ∧ u0.Reader.Row.length ≤ 1000000) (b1 : Nat) (ao2 : Option Addr) (cap3 : Nat) (B : Nat) (w0 : World) (Z0 : Fz) (Rr : List Res) (Z : Fz) (w : World) (hs4 : SlR (tyInt .u8) Z ao2 cap3 u0.f.Data) (hM0 : Mem B [] w0 Z0 ((.row b1 [str u0.Reader.Row, .int .i64 u0.Reader.At, .int .i64 u0.Reader.Code, .int .u8 u0.Reader.c.last, .int .i64 u0.Reader.c.n, .int .i64 u0.f.ID, .bool u0.f.Long, .bool u0.f.Fast, .bool u0.f.Remote, .int .i64 u0.f.Size, .slice ao2 u0.f.Data.length cap3] 61) :: Rr) Z w) (hZ : Z.on w) : Calls Tryz.prog 68 #[.pointer (some ⟨b1, 0, none⟩)] w fun e w' => ∃ (ao1001 : Option Addr) (cap1002 : Nat) (Z' : Fz), e = .returned (.int .u8 (rbitFS u0).1) ∧ Fz.le Z Z' ∧ SlR (tyInt .u8) Z' ao1001 cap1002 (rbitFS u0).2.f.Data ∧ Mem B [] w0 Z0 ((.row b1 [str (rbitFS u0).2.Reader.Row, .int .i64 (rbitFS u0).2.Reader.At, .int .i64 (rbitFS u0).2.Reader.Code, .int .u8 (rbitFS u0).2.Reader.c.last, .int .i64 (rbitFS u0).2.Reader.c.n, .int .i64 (rbitFS u0).2.f.ID, .bool (rbitFS u0).2.f.Long, .bool (rbitFS u0).2.f.Fast, .bool (rbitFS u0).2.f.Remote, .int .i64 (rbitFS u0).2.f.Size, .slice ao1001 (rbitFS u0).2.f.Data.length cap1002] 61) :: Rr) Z' w' :=
  (rbitF_walk u0 b1 ao2 cap3 B w0 Z0 Rr Z w hs4 hM0 hZ (rbitF_ok u0 hpre)).mono fun _ _ ⟨r, h0, h1, h2, he, hk, f0, f1, hm⟩ => by subst hk; exact ⟨h0, h1, h2, he, f0, f1, hm⟩

theorem scontains_fun (u0 : List Int) (u1 : Int) (ao1 : Option Addr) (cap2 : Nat) (Z : Fz) (w : World) (hs3 : SlR (tyInt .i64) Z ao1 cap2 u0) (hZ : Z.on w) : Calls Tryz.prog 58 #[.slice ao1 u0.length cap2, .int .i64 u1] w fun e w' => e = .returned (.bool (scontainsS u0 u1)) ∧ Below w.heap.size w w' :=
  (scontains_walk u0 u1 ao1 cap2 Z w hs3 hZ (scontains_ok u0 u1)).mono fun _ _ ⟨r, he, hk, hb⟩ => ⟨by subst hk; exact he, hb⟩

theorem sindex_fun (u0 : List Int) (u1 : Int) (ao1 : Option Addr) (cap2 : Nat) (Z : Fz) (w : World) (hs3 : SlR (tyInt .i64) Z ao1 cap2 u0) (hZ : Z.on w) : Calls Tryz.prog 27 #[.slice ao1 u0.length cap2, .int .i64 u1] w fun e w' => e = .returned (.int .i64 (sindexS u0 u1)) ∧ Below w.heap.size w w' :=
  (sindex_walk u0 u1 ao1 cap2 Z w hs3 hZ (sindex_ok2 u0 u1)).mono fun _ _ ⟨r, he, hk, hb⟩ => ⟨by subst hk; exact he, hb⟩

set_option maxRecDepth 100000 in
set_option maxHeartbeats 0 in
theorem csum_walk (u0 : Int) (u1 : List UInt8)  (Z : Fz) (w : World)  (hZ : Z.on w) {K : ((List UInt8) × Int) → Prop} (hp : csum_vc u0 u1 K) : Calls Tryz.prog 39 #[.int .i64 u0, str u1] w fun e w' => ∃ r : (List UInt8) × Int, e = .returned (.tuple #[str r.1, .int .i64 r.2]) ∧ K r ∧ Below w.heap.size w w' := by
 refine enter0 Tryz.func39 rfl rfl (by kernel_rfl) ?_; intro a0 hF0; have hM0 := Mem.start w Z hZ; have hle0 := Fz.le.refl Z
 refine sqH ?_; intro hQ1Q hQ1
 refine s1 hF0 4 (str []) ?_; intro a2 hF3; clear hF0
 refine s1 hF3 5 (.int .i64 0) ?_; intro a4 hF5; clear hF3
 refine nlH (hQ1 _ _ ?_); clear hQ1 hQ1Q
 refine wp_seq ?_
 refine sqH ?_; intro hQ6Q hQ6
 refine s1 hF5 8 (str u1) ?_; intro a7 hF8; clear hF5
 refine fcl hF8 hM0 (.int .i64 (bcheckS u1)) 31 #[str u1] (nog rfl _) rfl (by kernel_rfl) (fun _ => by kernel_rfl) (bcheck_fun u1 _ _ hM0.fz) ?_; intro a9 wd11 hF10 hM12; clear hF8 hM0
 refine s1 hF10 6 (.int .i64 (bcheckS u1)) ?_; intro a13 hF14; clear hF10
 refine nlH (hQ6 _ _ ?_); clear hQ6 hQ6Q
 refine sqH ?_; intro hQ15Q hQ15
 refine s1 hF14 10 (.int .i64 (bcheckS u1)) ?_; intro a16 hF17; clear hF14
 refine s1 hF17 11 (.bool ((bcheckS u1) != 0)) ?_; intro a18 hF19; clear hF17
 refine nlH (hQ15 _ _ ?_); clear hQ15 hQ15Q
 refine cd hF19 (t := (bcheckS u1) != 0) (by kernel_rfl) (fun hb20 => ?_) (fun hb20 => ?_)
 ·
  have hp21 := hp.1 hb20; clear hp
  refine sqH ?_; intro hQ22Q hQ22
  refine s1 hF19 12 (.int .i64 (bcheckS u1)) ?_; intro a23 hF24; clear hF19
  refine s1 hF24 4 (str []) ?_; intro a25 hF26; clear hF24
  refine s1 hF26 5 (.int .i64 (bcheckS u1)) ?_; intro a27 hF28; clear hF26
  refine nlH (hQ22 _ _ ?_); clear hQ22 hQ22Q
  refine wp_ret ?_
  refine thr ?_
  refine rt (fn := Tryz.f39) (v := .tuple #[str [], .int .i64 (bcheckS u1)]) hF28 (re2 hF28 (fn := Tryz.f39) rfl (by kernel_rfl) (by kernel_rfl)) ?_
  exact ⟨([], (bcheckS u1)), rfl, hp21, hM12.below⟩
 ·
  have hp29 := hp.2 hb20; clear hp
  refine wp_skip ?_
  refine thn ?_
  refine wp_seq ?_
  refine sqH ?_; intro hQ30Q hQ30
  refine s1 hF19 13 (.int .i64 u0) ?_; intro a31 hF32; clear hF19
  refine s1 hF32 14 (.bool (decide (u0 < 0))) ?_; intro a33 hF34; clear hF32
  refine s1 hF34 15 (.bool (decide (u0 < 0))) ?_; intro a35 hF36; clear hF34
  have hF37 := hF36.atom ((decide (u0 < 0)) == false) (by kernel_rfl); clear hF36
  refine gp hF37 16 0 [] (decide (u0 < 0)) (.int .i64 u0) rfl rfl ?_; intro a38 hF39; clear hF37
  refine gcl hF39 hM12 (.agg #[.int .i64 ckinds.1.Size, .int .u64 ckinds.1.Poly, .int .u64 ckinds.1.From, .int .u64 ckinds.1.End, .int .i64 ckinds.2.1.Size, .int .u64 ckinds.2.1.Poly, .int .u64 ckinds.2.1.From, .int .u64 ckinds.2.1.End, .int .i64 ckinds.2.2.1.Size, .int .u64 ckinds.2.2.1.Poly, .int .u64 ckinds.2.2.1.From, .int .u64 ckinds.2.2.1.End, .int .i64 ckinds.2.2.2.1.Size, .int .u64 ckinds.2.2.2.1.Poly, .int .u64 ckinds.2.2.2.1.From, .int .u64 ckinds.2.2.2.1.End, .int .i64 ckinds.2.2.2.2.Size, .int .u64 ckinds.2.2.2.2.Poly, .int .u64 ckinds.2.2.2.2.From, .int .u64 ckinds.2.2.2.2.End]) 70 #[] (m := 0) (cj := []) (bj := decide (u0 < 0)) rfl rfl (by kernel_rfl) rfl (by kernel_rfl) (by kernel_rfl) (by kernel_rfl) (fun _ => by kernel_rfl) (fun hg => ckinds_fun  _ _ hM12.fz) ?_; intro a40 wd42 hF41 hM43; clear hF39 hM12
  refine gp hF41 18 0 [] (decide (u0 < 0)) (.int .i64 5) rfl rfl ?_; intro a44 hF45; clear hF41
  refine gp hF45 19 0 [] (decide (u0 < 0)) (.bool (decide (u0 ≥ 5))) rfl rfl ?_; intro a46 hF47; clear hF45
  refine st hF47 (.bool ((decide (u0 < 0)) || (decide (u0 ≥ 5)))) (nog rfl _) rfl (by kernel_rfl) (pk_or hF47 (g := []) (m := 0) (b := decide (u0 < 0)) (v := decide (u0 ≥ 5)) rfl (by kernel_rfl) (by kernel_rfl) (by kernel_rfl) rfl) ?_; intro a48 hF49; clear hF47
  refine nlH (hQ30 _ _ ?_); clear hQ30 hQ30Q
  refine cd hF49 (t := (decide (u0 < 0)) || (decide (u0 ≥ 5))) (by kernel_rfl) (fun hb50 => ?_) (fun hb50 => ?_)
  ·
   have hp51 := hp29.1 hb50; clear hp29
   have hF52 : Fr 30 [] [] a48 := hF49.reg; clear hF49
   refine sqH ?_; intro hQ53Q hQ53
   refine s1 hF52 4 (str []) ?_; intro a54 hF55; clear hF52
   refine s1 hF55 5 (.int .i64 8) ?_; intro a56 hF57; clear hF55
   refine nlH (hQ53 _ _ ?_); clear hQ53 hQ53Q
   refine wp_ret ?_
   refine thr ?_
   refine rt (fn := Tryz.f39) (v := .tuple #[str [], .int .i64 8]) hF57 (re2 hF57 (fn := Tryz.f39) rfl (by kernel_rfl) (by kernel_rfl)) ?_
   exact ⟨([], 8), rfl, hp51, hM43.below⟩
  ·
   have hp58 := hp29.2 hb50; clear hp29
   refine wp_skip ?_
   refine thn ?_
   have hF59 : Fr 30 [] [⟨0, [], .int .i64 u0⟩, ⟨1, [], str u1⟩] a48 := hF49.reg; clear hF49
   refine sqH ?_; intro hQ60Q hQ60
   refine fcl hF59 hM43 (.agg #[.int .i64 ckinds.1.Size, .int .u64 ckinds.1.Poly, .int .u64 ckinds.1.From, .int .u64 ckinds.1.End, .int .i64 ckinds.2.1.Size, .int .u64 ckinds.2.1.Poly, .int .u64 ckinds.2.1.From, .int .u64 ckinds.2.1.End, .int .i64 ckinds.2.2.1.Size, .int .u64 ckinds.2.2.1.Poly, .int .u64 ckinds.2.2.1.From, .int .u64 ckinds.2.2.1.End, .int .i64 ckinds.2.2.2.1.Size, .int .u64 ckinds.2.2.2.1.Poly, .int .u64 ckinds.2.2.2.1.From, .int .u64 ckinds.2.2.2.1.End, .int .i64 ckinds.2.2.2.2.Size, .int .u64 ckinds.2.2.2.2.Poly, .int .u64 ckinds.2.2.2.2.From, .int .u64 ckinds.2.2.2.2.End]) 70 #[] (nog rfl _) rfl (by kernel_rfl) (fun _ => by kernel_rfl) (ckinds_fun  _ _ hM43.fz) ?_; intro a61 wd63 hF62 hM64; clear hF59 hM43
   refine s1 hF62 22 (.int .i64 u0) ?_; intro a65 hF66; clear hF62
   have hc67 := hp58.1; have hp68 := hp58.2; clear hp58
   have hix : ∀ x : Int, 0 ≤ x ∧ x < 5 → x = 0 ∨ x = 1 ∨ x = 2 ∨ x = 3 ∨ x = 4 := by intro x hx; omega
   refine st hF66 (.agg #[.int .i64 (([ckinds.1.Size, ckinds.2.1.Size, ckinds.2.2.1.Size, ckinds.2.2.2.1.Size, ckinds.2.2.2.2.Size] : List Int).getD u0.toNat 0), .int .u64 (([ckinds.1.Poly, ckinds.2.1.Poly, ckinds.2.2.1.Poly, ckinds.2.2.2.1.Poly, ckinds.2.2.2.2.Poly] : List Int).getD u0.toNat 0), .int .u64 (([ckinds.1.From, ckinds.2.1.From, ckinds.2.2.1.From, ckinds.2.2.2.1.From, ckinds.2.2.2.2.From] : List Int).getD u0.toNat 0), .int .u64 (([ckinds.1.End, ckinds.2.1.End, ckinds.2.2.1.End, ckinds.2.2.2.1.End, ckinds.2.2.2.2.End] : List Int).getD u0.toNat 0)]) (nog rfl _) rfl (by kernel_rfl) ((by generalize u0 = ix at *; rcases hix _ hc67 with rfl | rfl | rfl | rfl | rfl <;> exact p0 hF66 (by kernel_rfl))) ?_; intro a69 hF70; clear hF66
   refine sn hF70 hM64 (fun b => .pointer (some ⟨b, 0, none⟩)) [.int .i64 0, .int .u64 0, .int .u64 0, .int .u64 0] 100 (nog rfl _) rfl (by kernel_rfl) (by kernel_rfl) ?_; intro b71 a72 wd74 hF73 hM75; clear hF70 hM64
   refine sr hF73 hM75 0 [.int .i64 (([ckinds.1.Size, ckinds.2.1.Size, ckinds.2.2.1.Size, ckinds.2.2.2.1.Size, ckinds.2.2.2.2.Size] : List Int).getD u0.toNat 0), .int .u64 (([ckinds.1.Poly, ckinds.2.1.Poly, ckinds.2.2.1.Poly, ckinds.2.2.2.1.Poly, ckinds.2.2.2.2.Poly] : List Int).getD u0.toNat 0), .int .u64 (([ckinds.1.From, ckinds.2.1.From, ckinds.2.2.1.From, ckinds.2.2.2.1.From, ckinds.2.2.2.2.From] : List Int).getD u0.toNat 0), .int .u64 (([ckinds.1.End, ckinds.2.1.End, ckinds.2.2.1.End, ckinds.2.2.2.1.End, ckinds.2.2.2.2.End] : List Int).getD u0.toNat 0)] (b := b71) (off := 0) (cs := [.int .i64 0, .int .u64 0, .int .u64 0, .int .u64 0]) (ty := 100) (u := .agg #[.int .i64 (([ckinds.1.Size, ckinds.2.1.Size, ckinds.2.2.1.Size, ckinds.2.2.2.1.Size, ckinds.2.2.2.2.Size] : List Int).getD u0.toNat 0), .int .u64 (([ckinds.1.Poly, ckinds.2.1.Poly, ckinds.2.2.1.Poly, ckinds.2.2.2.1.Poly, ckinds.2.2.2.2.Poly] : List Int).getD u0.toNat 0), .int .u64 (([ckinds.1.From, ckinds.2.1.From, ckinds.2.2.1.From, ckinds.2.2.2.1.From, ckinds.2.2.2.2.From] : List Int).getD u0.toNat 0), .int .u64 (([ckinds.1.End, ckinds.2.1.End, ckinds.2.2.1.End, ckinds.2.2.2.1.End, ckinds.2.2.2.2.End] : List Int).getD u0.toNat 0)]) (nog rfl _) rfl rfl (by kernel_rfl) (by kernel_rfl) (by kernel_rfl) (by kernel_rfl) (by kernel_rfl) (by kernel_rfl) (by kernel_rfl) ?_; intro wd76 hM77; clear hM75
   have hM78 : Mem w.heap.size [] w Z [.row b71 [.int .i64 (([ckinds.1.Size, ckinds.2.1.Size, ckinds.2.2.1.Size, ckinds.2.2.2.1.Size, ckinds.2.2.2.2.Size] : List Int).getD u0.toNat 0), .int .u64 (([ckinds.1.Poly, ckinds.2.1.Poly, ckinds.2.2.1.Poly, ckinds.2.2.2.1.Poly, ckinds.2.2.2.2.Poly] : List Int).getD u0.toNat 0), .int .u64 (([ckinds.1.From, ckinds.2.1.From, ckinds.2.2.1.From, ckinds.2.2.2.1.From, ckinds.2.2.2.2.From] : List Int).getD u0.toNat 0), .int .u64 (([ckinds.1.End, ckinds.2.1.End, ckinds.2.2.1.End, ckinds.2.2.2.1.End, ckinds.2.2.2.2.End] : List Int).getD u0.toNat 0)] 100] Z wd76 := hM77; clear hM77
   refine nlH (hQ60 _ _ ?_); clear hQ60 hQ60Q
   have hF79 : Fr 30 [] [⟨1, [], str u1⟩, ⟨7, [], .pointer (some ⟨b71, 0, none⟩)⟩] a72 := hF73.reg; clear hF73
   refine sqQH mixed (by kernel_rfl) hM78 ?_; intro hQ80Q hQ80
   refine qst hF79 (.agg #[.int .i64 (([ckinds.1.Size, ckinds.2.1.Size, ckinds.2.2.1.Size, ckinds.2.2.2.1.Size, ckinds.2.2.2.2.Size] : List Int).getD u0.toNat 0), .int .u64 (([ckinds.1.Poly, ckinds.2.1.Poly, ckinds.2.2.1.Poly, ckinds.2.2.2.1.Poly, ckinds.2.2.2.2.Poly] : List Int).getD u0.toNat 0), .int .u64 (([ckinds.1.From, ckinds.2.1.From, ckinds.2.2.1.From, ckinds.2.2.2.1.From, ckinds.2.2.2.2.From] : List Int).getD u0.toNat 0), .int .u64 (([ckinds.1.End, ckinds.2.1.End, ckinds.2.2.1.End, ckinds.2.2.2.1.End, ckinds.2.2.2.2.End] : List Int).getD u0.toNat 0)]) (nog rfl _) rfl (by kernel_rfl) (fun v81 hC => lda hF79 hC 0 (g := []) (b := b71) (off := 0) (k := 4) (cs := [.int .i64 (([ckinds.1.Size, ckinds.2.1.Size, ckinds.2.2.1.Size, ckinds.2.2.2.1.Size, ckinds.2.2.2.2.Size] : List Int).getD u0.toNat 0), .int .u64 (([ckinds.1.Poly, ckinds.2.1.Poly, ckinds.2.2.1.Poly, ckinds.2.2.2.1.Poly, ckinds.2.2.2.2.Poly] : List Int).getD u0.toNat 0), .int .u64 (([ckinds.1.From, ckinds.2.1.From, ckinds.2.2.1.From, ckinds.2.2.2.1.From, ckinds.2.2.2.2.From] : List Int).getD u0.toNat 0), .int .u64 (([ckinds.1.End, ckinds.2.1.End, ckinds.2.2.1.End, ckinds.2.2.2.1.End, ckinds.2.2.2.2.End] : List Int).getD u0.toNat 0)]) (vs := [.int .i64 (([ckinds.1.Size, ckinds.2.1.Size, ckinds.2.2.1.Size, ckinds.2.2.2.1.Size, ckinds.2.2.2.2.Size] : List Int).getD u0.toNat 0), .int .u64 (([ckinds.1.Poly, ckinds.2.1.Poly, ckinds.2.2.1.Poly, ckinds.2.2.2.1.Poly, ckinds.2.2.2.2.Poly] : List Int).getD u0.toNat 0), .int .u64 (([ckinds.1.From, ckinds.2.1.From, ckinds.2.2.1.From, ckinds.2.2.2.1.From, ckinds.2.2.2.2.From] : List Int).getD u0.toNat 0), .int .u64 (([ckinds.1.End, ckinds.2.1.End, ckinds.2.2.1.End, ckinds.2.2.2.1.End, ckinds.2.2.2.2.End] : List Int).getD u0.toNat 0)]) (ty := 100) rfl (by kernel_rfl) (by kernel_rfl) (by kernel_rfl) (by kernel_rfl) (by kernel_rfl) rfl) ?_; intro a82 hF83; clear hF79
   refine q1 hF83 25 (str u1) ?_; intro a85 hF86; clear hF83
   have hc88 := hp68.1; have hp89 := hp68.2; clear hp68
   refine qcl hF86 (.int .u64 (ksumS (⟨([ckinds.1.Size, ckinds.2.1.Size, ckinds.2.2.1.Size, ckinds.2.2.2.1.Size, ckinds.2.2.2.2.Size] : List Int).getD u0.toNat 0, ([ckinds.1.Poly, ckinds.2.1.Poly, ckinds.2.2.1.Poly, ckinds.2.2.2.1.Poly, ckinds.2.2.2.2.Poly] : List Int).getD u0.toNat 0, ([ckinds.1.From, ckinds.2.1.From, ckinds.2.2.1.From, ckinds.2.2.2.1.From, ckinds.2.2.2.2.From] : List Int).getD u0.toNat 0, ([ckinds.1.End, ckinds.2.1.End, ckinds.2.2.1.End, ckinds.2.2.2.1.End, ckinds.2.2.2.2.End] : List Int).getD u0.toNat 0⟩ : Kind) u1)) 72 #[.agg #[.int .i64 (([ckinds.1.Size, ckinds.2.1.Size, ckinds.2.2.1.Size, ckinds.2.2.2.1.Size, ckinds.2.2.2.2.Size] : List Int).getD u0.toNat 0), .int .u64 (([ckinds.1.Poly, ckinds.2.1.Poly, ckinds.2.2.1.Poly, ckinds.2.2.2.1.Poly, ckinds.2.2.2.2.Poly] : List Int).getD u0.toNat 0), .int .u64 (([ckinds.1.From, ckinds.2.1.From, ckinds.2.2.1.From, ckinds.2.2.2.1.From, ckinds.2.2.2.2.From] : List Int).getD u0.toNat 0), .int .u64 (([ckinds.1.End, ckinds.2.1.End, ckinds.2.2.1.End, ckinds.2.2.2.1.End, ckinds.2.2.2.2.End] : List Int).getD u0.toNat 0)], str u1] (nog rfl _) rfl (by kernel_rfl) (fun _ => by kernel_rfl) (qfc fun w hC => ksum_fun (⟨([ckinds.1.Size, ckinds.2.1.Size, ckinds.2.2.1.Size, ckinds.2.2.2.1.Size, ckinds.2.2.2.2.Size] : List Int).getD u0.toNat 0, ([ckinds.1.Poly, ckinds.2.1.Poly, ckinds.2.2.1.Poly, ckinds.2.2.2.1.Poly, ckinds.2.2.2.2.Poly] : List Int).getD u0.toNat 0, ([ckinds.1.From, ckinds.2.1.From, ckinds.2.2.1.From, ckinds.2.2.2.1.From, ckinds.2.2.2.2.From] : List Int).getD u0.toNat 0, ([ckinds.1.End, ckinds.2.1.End, ckinds.2.2.1.End, ckinds.2.2.2.1.End, ckinds.2.2.2.2.End] : List Int).getD u0.toNat 0⟩ : Kind) u1 hc88 _ _ hC.fz) ?_; intro a90 hF91; clear hF86
   refine q1 hF91 27 (.pointer (some ⟨b71, 0, none⟩)) ?_; intro a93 hF94; clear hF91
   refine qst hF94 (.int .i64 (([ckinds.1.Size, ckinds.2.1.Size, ckinds.2.2.1.Size, ckinds.2.2.2.1.Size, ckinds.2.2.2.2.Size] : List Int).getD u0.toNat 0)) (nog rfl _) rfl (by kernel_rfl) (fun v95 hC => ld hF94 hC 0 (g := []) (b := b71) (off := 0) (cs := [.int .i64 (([ckinds.1.Size, ckinds.2.1.Size, ckinds.2.2.1.Size, ckinds.2.2.2.1.Size, ckinds.2.2.2.2.Size] : List Int).getD u0.toNat 0), .int .u64 (([ckinds.1.Poly, ckinds.2.1.Poly, ckinds.2.2.1.Poly, ckinds.2.2.2.1.Poly, ckinds.2.2.2.2.Poly] : List Int).getD u0.toNat 0), .int .u64 (([ckinds.1.From, ckinds.2.1.From, ckinds.2.2.1.From, ckinds.2.2.2.1.From, ckinds.2.2.2.2.From] : List Int).getD u0.toNat 0), .int .u64 (([ckinds.1.End, ckinds.2.1.End, ckinds.2.2.1.End, ckinds.2.2.2.1.End, ckinds.2.2.2.2.End] : List Int).getD u0.toNat 0)]) (ty := 100) rfl (by kernel_rfl) (by kernel_rfl) (by kernel_rfl) (by kernel_rfl) rfl) ?_; intro a96 hF97; clear hF94
   have hc99 := hp89.1; have hp100 := hp89.2; clear hp89
   refine qcl hF97 (str (bwriteS (ksumS (⟨([ckinds.1.Size, ckinds.2.1.Size, ckinds.2.2.1.Size, ckinds.2.2.2.1.Size, ckinds.2.2.2.2.Size] : List Int).getD u0.toNat 0, ([ckinds.1.Poly, ckinds.2.1.Poly, ckinds.2.2.1.Poly, ckinds.2.2.2.1.Poly, ckinds.2.2.2.2.Poly] : List Int).getD u0.toNat 0, ([ckinds.1.From, ckinds.2.1.From, ckinds.2.2.1.From, ckinds.2.2.2.1.From, ckinds.2.2.2.2.From] : List Int).getD u0.toNat 0, ([ckinds.1.End, ckinds.2.1.End, ckinds.2.2.1.End, ckinds.2.2.2.1.End, ckinds.2.2.2.2.End] : List Int).getD u0.toNat 0⟩ : Kind) u1) (([ckinds.1.Size, ckinds.2.1.Size, ckinds.2.2.1.Size, ckinds.2.2.2.1.Size, ckinds.2.2.2.2.Size] : List Int).getD u0.toNat 0))) 71 #[.int .u64 (ksumS (⟨([ckinds.1.Size, ckinds.2.1.Size, ckinds.2.2.1.Size, ckinds.2.2.2.1.Size, ckinds.2.2.2.2.Size] : List Int).getD u0.toNat 0, ([ckinds.1.Poly, ckinds.2.1.Poly, ckinds.2.2.1.Poly, ckinds.2.2.2.1.Poly, ckinds.2.2.2.2.Poly] : List Int).getD u0.toNat 0, ([ckinds.1.From, ckinds.2.1.From, ckinds.2.2.1.From, ckinds.2.2.2.1.From, ckinds.2.2.2.2.From] : List Int).getD u0.toNat 0, ([ckinds.1.End, ckinds.2.1.End, ckinds.2.2.1.End, ckinds.2.2.2.1.End, ckinds.2.2.2.2.End] : List Int).getD u0.toNat 0⟩ : Kind) u1), .int .i64 (([ckinds.1.Size, ckinds.2.1.Size, ckinds.2.2.1.Size, ckinds.2.2.2.1.Size, ckinds.2.2.2.2.Size] : List Int).getD u0.toNat 0)] (nog rfl _) rfl (by kernel_rfl) (fun _ => by kernel_rfl) (qfc fun w hC => bwrite_fun (ksumS (⟨([ckinds.1.Size, ckinds.2.1.Size, ckinds.2.2.1.Size, ckinds.2.2.2.1.Size, ckinds.2.2.2.2.Size] : List Int).getD u0.toNat 0, ([ckinds.1.Poly, ckinds.2.1.Poly, ckinds.2.2.1.Poly, ckinds.2.2.2.1.Poly, ckinds.2.2.2.2.Poly] : List Int).getD u0.toNat 0, ([ckinds.1.From, ckinds.2.1.From, ckinds.2.2.1.From, ckinds.2.2.2.1.From, ckinds.2.2.2.2.From] : List Int).getD u0.toNat 0, ([ckinds.1.End, ckinds.2.1.End, ckinds.2.2.1.End, ckinds.2.2.2.1.End, ckinds.2.2.2.2.End] : List Int).getD u0.toNat 0⟩ : Kind) u1) (([ckinds.1.Size, ckinds.2.1.Size, ckinds.2.2.1.Size, ckinds.2.2.2.1.Size, ckinds.2.2.2.2.Size] : List Int).getD u0.toNat 0) hc99 _ _ hC.fz) ?_; intro a101 hF102; clear hF97
   refine q1 hF102 4 (str (bwriteS (ksumS (⟨([ckinds.1.Size, ckinds.2.1.Size, ckinds.2.2.1.Size, ckinds.2.2.2.1.Size, ckinds.2.2.2.2.Size] : List Int).getD u0.toNat 0, ([ckinds.1.Poly, ckinds.2.1.Poly, ckinds.2.2.1.Poly, ckinds.2.2.2.1.Poly, ckinds.2.2.2.2.Poly] : List Int).getD u0.toNat 0, ([ckinds.1.From, ckinds.2.1.From, ckinds.2.2.1.From, ckinds.2.2.2.1.From, ckinds.2.2.2.2.From] : List Int).getD u0.toNat 0, ([ckinds.1.End, ckinds.2.1.End, ckinds.2.2.1.End, ckinds.2.2.2.1.End, ckinds.2.2.2.2.End] : List Int).getD u0.toNat 0⟩ : Kind) u1) (([ckinds.1.Size, ckinds.2.1.Size, ckinds.2.2.1.Size, ckinds.2.2.2.1.Size, ckinds.2.2.2.2.Size] : List Int).getD u0.toNat 0))) ?_; intro a104 hF105; clear hF102
   refine q1 hF105 5 (.int .i64 0) ?_; intro a107 hF108; clear hF105
   refine qnl (hQ80 _ ?_); clear hQ80 hQ80Q; intro wd109 hM110; clear hM78
   refine wp_ret ?_
   refine rt (fn := Tryz.f39) (v := .tuple #[str (bwriteS (ksumS (⟨([ckinds.1.Size, ckinds.2.1.Size, ckinds.2.2.1.Size, ckinds.2.2.2.1.Size, ckinds.2.2.2.2.Size] : List Int).getD u0.toNat 0, ([ckinds.1.Poly, ckinds.2.1.Poly, ckinds.2.2.1.Poly, ckinds.2.2.2.1.Poly, ckinds.2.2.2.2.Poly] : List Int).getD u0.toNat 0, ([ckinds.1.From, ckinds.2.1.From, ckinds.2.2.1.From, ckinds.2.2.2.1.From, ckinds.2.2.2.2.From] : List Int).getD u0.toNat 0, ([ckinds.1.End, ckinds.2.1.End, ckinds.2.2.1.End, ckinds.2.2.2.1.End, ckinds.2.2.2.2.End] : List Int).getD u0.toNat 0⟩ : Kind) u1) (([ckinds.1.Size, ckinds.2.1.Size, ckinds.2.2.1.Size, ckinds.2.2.2.1.Size, ckinds.2.2.2.2.Size] : List Int).getD u0.toNat 0)), .int .i64 0]) hF108 (re2 hF108 (fn := Tryz.f39) rfl (by kernel_rfl) (by kernel_rfl)) ?_
   exact ⟨((bwriteS (ksumS (⟨([ckinds.1.Size, ckinds.2.1.Size, ckinds.2.2.1.Size, ckinds.2.2.2.1.Size, ckinds.2.2.2.2.Size] : List Int).getD u0.toNat 0, ([ckinds.1.Poly, ckinds.2.1.Poly, ckinds.2.2.1.Poly, ckinds.2.2.2.1.Poly, ckinds.2.2.2.2.Poly] : List Int).getD u0.toNat 0, ([ckinds.1.From, ckinds.2.1.From, ckinds.2.2.1.From, ckinds.2.2.2.1.From, ckinds.2.2.2.2.From] : List Int).getD u0.toNat 0, ([ckinds.1.End, ckinds.2.1.End, ckinds.2.2.1.End, ckinds.2.2.2.1.End, ckinds.2.2.2.2.End] : List Int).getD u0.toNat 0⟩ : Kind) u1) (([ckinds.1.Size, ckinds.2.1.Size, ckinds.2.2.1.Size, ckinds.2.2.2.1.Size, ckinds.2.2.2.2.Size] : List Int).getD u0.toNat 0)), 0), rfl, hp100, hM110.below⟩

set_option maxRecDepth 100000 in
set_option maxHeartbeats 0 in
theorem bof_walk (u0 : List Int) (ao1 : Option Addr) (cap2 : Nat) (Z : Fz) (w : World) (hs3 : SlR (tyInt .u8) Z ao1 cap2 u0) (hZ : Z.on w) {K : ((List UInt8) × Int) → Prop} (hp : bof_vc u0 K) : Calls Tryz.prog 73 #[.slice ao1 u0.length cap2] w fun e w' => ∃ r : (List UInt8) × Int, e = .returned (.tuple #[str r.1, .int .i64 r.2]) ∧ K r ∧ Below w.heap.size w w' := by
 refine enter0 Tryz.func73 rfl rfl (by kernel_rfl) ?_; intro a0 hF0; have hM0 := Mem.start w Z hZ; have hle0 := Fz.le.refl Z
 have hzB := Go.Sy.zB hZ
 have hp4 := hp (hs3.small); clear hp
 refine sqH ?_; intro hQ5Q hQ5
 refine s1 hF0 2 (str []) ?_; intro a6 hF7; clear hF0
 refine s1 hF7 3 (.int .i64 0) ?_; intro a8 hF9; clear hF7
 refine nlH (hQ5 _ _ ?_); clear hQ5 hQ5Q
 refine wp_seq ?_
 refine sqH ?_; intro hQ10Q hQ10
 refine s1 hF9 7 (.slice ao1 u0.length cap2) ?_; intro a11 hF12; clear hF9
 refine s1 hF12 8 (.int .i64 (u0.length : Int)) ?_; intro a13 hF14; clear hF12
 refine s1 hF14 9 (.bool (decide ((u0.length : Int) > 125))) ?_; intro a15 hF16; clear hF14
 refine nlH (hQ10 _ _ ?_); clear hQ10 hQ10Q
 refine cd hF16 (t := decide ((u0.length : Int) > 125)) (by kernel_rfl) (fun hb17 => ?_) (fun hb17 => ?_)
 ·
  have hp18 := hp4.1 hb17; clear hp4
  refine sqH ?_; intro hQ19Q hQ19
  refine s1 hF16 2 (str []) ?_; intro a20 hF21; clear hF16
  refine s1 hF21 3 (.int .i64 2) ?_; intro a22 hF23; clear hF21
  refine nlH (hQ19 _ _ ?_); clear hQ19 hQ19Q
  refine wp_ret ?_
  refine thr ?_
  refine rt (fn := Tryz.f73) (v := .tuple #[str [], .int .i64 2]) hF23 (re2 hF23 (fn := Tryz.f73) rfl (by kernel_rfl) (by kernel_rfl)) ?_
  exact ⟨([], 2), rfl, hp18, hM0.below⟩
 ·
  have hp24 := hp4.2 hb17; clear hp4
  refine wp_skip ?_
  refine thn ?_
  refine sqH ?_; intro hQ25Q hQ25
  refine sn hF16 hM0 (fun b => .pointer (some ⟨b, 0, none⟩)) [.pointer none, .slice none 0 0] 133 (nog rfl _) rfl (by kernel_rfl) (by kernel_rfl) ?_; intro b26 a27 wd29 hF28 hM30; clear hF16 hM0
  refine nlH (hQ25 _ _ ?_); clear hQ25 hQ25Q
  refine wp_seq ?_
  refine sqH ?_; intro hQ31Q hQ31
  refine s1 hF28 10 (.slice ao1 u0.length cap2) ?_; intro a32 hF33; clear hF28
  refine s1 hF33 11 (.int .i64 (u0.length : Int)) ?_; intro a34 hF35; clear hF33
  refine s1 hF35 12 (.int .i64 0) ?_; intro a36 hF37; clear hF35
  refine nlH (hQ31 _ _ ?_); clear hQ31 hQ31Q
  refine wp_block ?_
  have hF38 : Fr 22 [] [⟨4, [], .pointer (some ⟨b26, 0, none⟩)⟩, ⟨10, [], .slice ao1 u0.length cap2⟩, ⟨11, [], .int .i64 (u0.length : Int)⟩, ⟨12, [], .int .i64 0⟩] a36 := hF37.reg; clear hF37
  have hM40 : Mem w.heap.size [] w Z [.row b26 [.pointer none, .slice none ([] : List UInt8).length 0] 133, .own tyByte 5 none 0 ([] : List UInt8)] Z wd29 := hM30.bldNil 5; clear hM30
  have hF41 : Fr 22 [] [⟨4, [], .pointer (some ⟨b26, 0, none⟩)⟩, ⟨10, [], .slice ao1 u0.length cap2⟩, ⟨11, [], .int .i64 (u0.length : Int)⟩, ⟨12, [], .int .i64 0⟩] a36 := hF38.reg; clear hF38
  obtain ⟨inv39, mu39, hI44, hr43⟩ := hp24
  refine lp (ι := Int × (List UInt8) × Value × (Option Addr) × Nat) (fun (s : Int × (List UInt8) × Value × (Option Addr) × Nat) => [⟨4, [], .pointer (some ⟨b26, 0, none⟩)⟩, ⟨10, [], .slice ao1 u0.length cap2⟩, ⟨11, [], .int .i64 (u0.length : Int)⟩, ⟨12, [], .int .i64 s.1⟩]) (fun (s : Int × (List UInt8) × Value × (Option Addr) × Nat) => [.row b26 [s.2.2.1, .slice s.2.2.2.1 s.2.1.length s.2.2.2.2] 133, .own tyByte 5 s.2.2.2.1 s.2.2.2.2 s.2.1]) (fun (s : Int × (List UInt8) × Value × (Option Addr) × Nat) => Z) (fun (s : Int × (List UInt8) × Value × (Option Addr) × Nat) => inv39 s.1 s.2.1 ∧ (s.2.2.1 = .pointer none ∨ s.2.2.1 = .pointer (some ⟨b26, 0, none⟩))) (fun (s : Int × (List UInt8) × Value × (Option Addr) × Nat) => mu39 s.1 s.2.1) ⟨0, ([] : List UInt8), (.pointer none), none, 0⟩ ⟨hI44, (.inl rfl)⟩ (by exact hF41.reg) (by exact hM40) ?_
  rintro ⟨x12, yb26, vpyb26, aoyb26, capyb26⟩ ⟨hI42, hvpyb26⟩ a46 wd47 hF48 hM49
  have hF50 : Fr 22 [] [⟨4, [], .pointer (some ⟨b26, 0, none⟩)⟩, ⟨10, [], .slice ao1 u0.length cap2⟩, ⟨11, [], .int .i64 (u0.length : Int)⟩, ⟨12, [], .int .i64 x12⟩] a46 := hF48; clear hF48 hF41
  have hM51 : Mem w.heap.size [] w Z [.row b26 [vpyb26, .slice aoyb26 yb26.length capyb26] 133, .own tyByte 5 aoyb26 capyb26 yb26] Z wd47 := hM49; clear hM49 hM40
  have hp52 := hr43 x12 yb26 hI42
  refine sqH ?_; intro hQ53Q hQ53
  refine s1 hF50 13 (.bool (decide (x12 < (u0.length : Int)))) ?_; intro a54 hF55; clear hF50
  refine nlH (hQ53 _ _ ?_); clear hQ53 hQ53Q
  refine wp_seq ?_
  refine cd hF55 (t := decide (x12 < (u0.length : Int))) (by kernel_rfl) (fun hb56 => ?_) (fun hb56 => ?_)
  ·
   have hp57 := hp52.1 hb56; clear hp52
   refine wp_skip ?_
   refine thn ?_
   refine wp_seq ?_
   refine wp_block ?_
   refine sqH ?_; intro hQ58Q hQ58
   have hc59 := hp57.1; have hp60 := hp57.2; clear hp57
   refine ix hF55 (T := (tyInt .u8)) (xs := u0) hs3 x12 hc59 (k := .i64) (e := 5) (bytes := 1) (nog rfl _) rfl (by kernel_rfl) rfl (by kernel_rfl) (by kernel_rfl) (by kernel_rfl) ?_; intro b61 off62 cs63 q64 a68 hq65 hP66 hT67 hF69; clear hF55
   have hp70 := hp60 q64 hq65; clear hp60
   obtain rfl : cs63 = ([.int .u8 q64] : List Value) := hT67
   refine z1 hF69 hM51 15 hP66 0 (.int .u8 q64) rfl ?_; intro a71 hF72; clear hF69
   refine s1 hF72 6 (.int .u8 q64) ?_; intro a73 hF74; clear hF72
   refine nlH (hQ58 _ _ ?_); clear hQ58 hQ58Q
   refine rgH ?_; intro hQ75Q hQ75
   refine s1 hF74 16 (.int .u8 q64) ?_; intro a76 hF77; clear hF74
   refine s1 hF77 17 (.int .u64 (wu64 q64)) ?_; intro a78 hF79; clear hF77
   have hc80 := hp70.1; have hp81 := hp70.2; clear hp70
   refine fcl hF79 hM51 (str (bwriteS (wu64 q64) 8)) 71 #[.int .u64 (wu64 q64), .int .i64 8] (nog rfl _) rfl (by kernel_rfl) (fun _ => by kernel_rfl) (bwrite_fun (wu64 q64) 8 hc80 _ _ hM51.fz) ?_; intro a82 wd84 hF83 hM85; clear hF79 hM51
   have hc90 := hp81.1; have hp91 := hp81.2; clear hp81
   refine cl hF83 98 #[.pointer (some ⟨b26, 0, none⟩), str (bwriteS (wu64 q64) 8)] (nog rfl _) rfl (by kernel_rfl) (by kernel_rfl) ?_
   refine (Go.Sy.bld_write Tryz.lays166 Tryz.lays166X hM85 hzB hvpyb26 hc90).mono ?_; rintro _ wd86 ⟨ao92, cap93, rfl, hm⟩; refine ⟨_, rfl, ?_⟩; intro a87 hF88; have hM89 := hm; clear hm hM85 hF83
   have hM94 : Mem w.heap.size [] w Z [.row b26 [.pointer (some ⟨b26, 0, none⟩), .slice ao92 (yb26 ++ (bwriteS (wu64 q64) 8)).length cap93] 133, .own tyByte 5 ao92 cap93 (yb26 ++ (bwriteS (wu64 q64) 8))] Z wd86 := hM89; clear hM89
   refine nlH (hQ75 _ _ ?_); clear hQ75 hQ75Q
   refine ibn ?_
   refine thn ?_
   refine rgH ?_; intro hQ95Q hQ95
   refine s1 hF88 20 (.int .i64 (w64 (x12 + 1))) ?_; intro a96 hF97; clear hF88
   refine s1 hF97 12 (.int .i64 (w64 (x12 + 1))) ?_; intro a98 hF99; clear hF97
   refine nlH (hQ95 _ _ ?_); clear hQ95 hQ95Q
   refine rd ?_
   exact ⟨⟨w64 (x12 + 1), yb26 ++ (bwriteS (wu64 q64) 8), (.pointer (some ⟨b26, 0, none⟩)), ao92, cap93⟩, ⟨hp91.1, (.inr rfl)⟩, hp91.2, (hF99.reg).anyβ _ (by kernel_rfl), hM94.keep (List.Sublist.cons_cons _ (List.Sublist.cons_cons _ (List.Sublist.slnil)))⟩
  ·
   have hp100 := hp52.2 hb56; clear hp52
   refine wp_exit ?_
   refine thx ?_
   refine thx ?_
   refine ibx ?_
   refine thn ?_
   refine sqH ?_; intro hQ101Q hQ101
   refine cl hF55 99 #[.pointer (some ⟨b26, 0, none⟩)] (nog rfl _) rfl (by kernel_rfl) (by kernel_rfl) ?_
   refine (Go.Sy.bld_string Tryz.lays169 Tryz.lays169X hM51 hzB hvpyb26).mono ?_; rintro _ wd102 ⟨rfl, hm⟩; refine ⟨_, rfl, ?_⟩; intro a103 hF104; have hM105 := hm; clear hm hM51 hF55
   have hM106 : Mem w.heap.size [] w Z [] Z wd102 := hM105; clear hM105
   refine s1 hF104 2 (str yb26) ?_; intro a107 hF108; clear hF104
   refine s1 hF108 3 (.int .i64 0) ?_; intro a109 hF110; clear hF108
   refine nlH (hQ101 _ _ ?_); clear hQ101 hQ101Q
   refine wp_ret ?_
   refine rt (fn := Tryz.f73) (v := .tuple #[str yb26, .int .i64 0]) hF110 (re2 hF110 (fn := Tryz.f73) rfl (by kernel_rfl) (by kernel_rfl)) ?_
   exact ⟨(yb26, 0), rfl, hp100, hM106.below⟩



set_option maxRecDepth 100000 in
set_option maxHeartbeats 0 in
theorem rtakeF_walk (u0 : FReader) (u1 : Int) (b1 : Nat) (ao2 : Option Addr) (cap3 : Nat) (B : Nat) (w0 : World) (Z0 : Fz) (Rr : List Res) (Z : Fz) (w : World) (hs4 : SlR (tyInt .u8) Z ao2 cap3 u0.f.Data) (hM0 : Mem B [] w0 Z0 ((.row b1 [str u0.Reader.Row, .int .i64 u0.Reader.At, .int .i64 u0.Reader.Code, .int .u8 u0.Reader.c.last, .int .i64 u0.Reader.c.n, .int .i64 u0.f.ID, .bool u0.f.Long, .bool u0.f.Fast, .bool u0.f.Remote, .int .i64 u0.f.Size, .slice ao2 u0.f.Data.length cap3] 61) :: Rr) Z w) (hZ : Z.on w) {K : ((List UInt8) × FReader) → Prop} (hp : rtakeF_vc u0 u1 K) : Calls Tryz.prog 36 #[.pointer (some ⟨b1, 0, none⟩), .int .i64 u1] w fun e w' => ∃ (r : (List UInt8) × FReader) (ao1001 : Option Addr) (cap1002 : Nat) (Z' : Fz), e = .returned (str r.1) ∧ K r ∧ Fz.le Z Z' ∧ SlR (tyInt .u8) Z' ao1001 cap1002 r.2.f.Data ∧ Mem B [] w0 Z0 ((.row b1 [str r.2.Reader.Row, .int .i64 r.2.Reader.At, .int .i64 r.2.Reader.Code, .int .u8 r.2.Reader.c.last, .int .i64 r.2.Reader.c.n, .int .i64 r.2.f.ID, .bool r.2.f.Long, .bool r.2.f.Fast, .bool r.2.f.Remote, .int .i64 r.2.f.Size, .slice ao1001 r.2.f.Data.length cap1002] 61) :: Rr) Z' w' := by
 refine enter0 Tryz.func36 rfl rfl (by kernel_rfl) ?_; intro a0 hF0; have hle0 := Fz.le.refl Z
 have hp5 := hp (hs4.small); clear hp
 refine sqH ?_; intro hQ6Q hQ6
 refine s1 hF0 4 (str []) ?_; intro a7 hF8; clear hF0
 refine nlH (hQ6 _ _ ?_); clear hQ6 hQ6Q
 refine sqH ?_; intro hQ9Q hQ9
 refine s1 hF8 5 (.slice none 0 0) ?_; intro a10 hF11; clear hF8
 refine nlH (hQ9 _ _ ?_); clear hQ9 hQ9Q
 refine wp_seq ?_
 refine sqH ?_; intro hQ12Q hQ12
 refine s1 hF11 10 (.int .i64 u1) ?_; intro a13 hF14; clear hF11
 refine s1 hF14 11 (.int .i64 0) ?_; intro a15 hF16; clear hF14
 refine nlH (hQ12 _ _ ?_); clear hQ12 hQ12Q
 refine wp_block ?_
 have hF17 : Fr 61 [] [⟨0, [], .pointer (some ⟨b1, 0, none⟩)⟩, ⟨5, [], .slice none 0 0⟩, ⟨10, [], .int .i64 u1⟩, ⟨11, [], .int .i64 0⟩] a15 := hF16.reg; clear hF16
 have hM19 : Mem B [] w0 Z0 ((.own (tyInt .u8) 5 none 0 ([] : List Int)) :: (.row b1 [str u0.Reader.Row, .int .i64 u0.Reader.At, .int .i64 u0.Reader.Code, .int .u8 u0.Reader.c.last, .int .i64 u0.Reader.c.n, .int .i64 u0.f.ID, .bool u0.f.Long, .bool u0.f.Fast, .bool u0.f.Remote, .int .i64 u0.f.Size, .slice ao2 u0.f.Data.length cap3] 61) :: Rr) Z w := hM0.addNil (tyInt .u8) 5 (by decide); clear hM0
 have hF20 : Fr 61 [] [⟨0, [], .pointer (some ⟨b1, 0, none⟩)⟩, ⟨5, [], .slice none ([] : List Int).length 0⟩, ⟨10, [], .int .i64 u1⟩, ⟨11, [], .int .i64 0⟩] a15 := hF17.reg; clear hF17
 obtain ⟨inv18, mu18, hI23, hr22⟩ := hp5
 have hle24 := hle0
 refine lp (ι := (List Int) × Int × FReader × (Option Addr) × Nat × (Option Addr) × Nat × Fz) (fun (s : (List Int) × Int × FReader × (Option Addr) × Nat × (Option Addr) × Nat × Fz) => [⟨0, [], .pointer (some ⟨b1, 0, none⟩)⟩, ⟨5, [], .slice s.2.2.2.1 s.1.length s.2.2.2.2.1⟩, ⟨10, [], .int .i64 u1⟩, ⟨11, [], .int .i64 s.2.1⟩]) (fun (s : (List Int) × Int × FReader × (Option Addr) × Nat × (Option Addr) × Nat × Fz) => ((.own (tyInt .u8) 5 s.2.2.2.1 s.2.2.2.2.1 s.1) :: (.row b1 [str s.2.2.1.Reader.Row, .int .i64 s.2.2.1.Reader.At, .int .i64 s.2.2.1.Reader.Code, .int .u8 s.2.2.1.Reader.c.last, .int .i64 s.2.2.1.Reader.c.n, .int .i64 s.2.2.1.f.ID, .bool s.2.2.1.f.Long, .bool s.2.2.1.f.Fast, .bool s.2.2.1.f.Remote, .int .i64 s.2.2.1.f.Size, .slice s.2.2.2.2.2.1 s.2.2.1.f.Data.length s.2.2.2.2.2.2.1] 61) :: Rr)) (fun (s : (List Int) × Int × FReader × (Option Addr) × Nat × (Option Addr) × Nat × Fz) => s.2.2.2.2.2.2.2) (fun (s : (List Int) × Int × FReader × (Option Addr) × Nat × (Option Addr) × Nat × Fz) => inv18 s.1 s.2.1 s.2.2.1 ∧ SlR (tyInt .u8) s.2.2.2.2.2.2.2 s.2.2.2.2.2.1 s.2.2.2.2.2.2.1 s.2.2.1.f.Data ∧ Fz.le Z s.2.2.2.2.2.2.2) (fun (s : (List Int) × Int × FReader × (Option Addr) × Nat × (Option Addr) × Nat × Fz) => mu18 s.1 s.2.1 s.2.2.1) ⟨([] : List Int), 0, u0, none, 0, ao2, cap3, Z⟩ ⟨hI23, hs4, Fz.le.refl _⟩ (by exact hF20.reg) (by exact hM19) ?_
 rintro ⟨x5, x11, yb1, aox5, capx5, aoyb1_0, capyb1_0, ZL18⟩ ⟨hI21, hsyb1_0, hleL18⟩ a25 wd26 hF27 hM28
 have hF29 : Fr 61 [] [⟨0, [], .pointer (some ⟨b1, 0, none⟩)⟩, ⟨5, [], .slice aox5 x5.length capx5⟩, ⟨10, [], .int .i64 u1⟩, ⟨11, [], .int .i64 x11⟩] a25 := hF27; clear hF27 hF20
 have hM30 : Mem B [] w0 Z0 ((.own (tyInt .u8) 5 aox5 capx5 x5) :: (.row b1 [str yb1.Reader.Row, .int .i64 yb1.Reader.At, .int .i64 yb1.Reader.Code, .int .u8 yb1.Reader.c.last, .int .i64 yb1.Reader.c.n, .int .i64 yb1.f.ID, .bool yb1.f.Long, .bool yb1.f.Fast, .bool yb1.f.Remote, .int .i64 yb1.f.Size, .slice aoyb1_0 yb1.f.Data.length capyb1_0] 61) :: Rr) ZL18 wd26 := hM28; clear hM28 hM19
 have hp31 := hr22 x5 x11 yb1 hI21
 replace hle0 := Fz.le.trans hle0 hleL18
 have hs32 := hs4.mono hleL18
 refine sqH ?_; intro hQ33Q hQ33
 refine s1 hF29 12 (.bool (decide (x11 < u1))) ?_; intro a34 hF35; clear hF29
 refine nlH (hQ33 _ _ ?_); clear hQ33 hQ33Q
 refine wp_seq ?_
 refine cd hF35 (t := decide (x11 < u1)) (by kernel_rfl) (fun hb36 => ?_) (fun hb36 => ?_)
 ·
  have hp37 := hp31.1 hb36; clear hp31
  refine wp_skip ?_
  refine thn ?_
  refine wp_seq ?_
  refine wp_block ?_
  refine sqH ?_; intro hQ38Q hQ38
  refine s1 hF35 13 (.pointer (some ⟨b1, 0, none⟩)) ?_; intro a39 hF40; clear hF35
  have hc41 := hp37.1; have hp42 := hp37.2; clear hp37
  refine cl hF40 68 #[.pointer (some ⟨b1, 0, none⟩)] (nog rfl _) rfl (by kernel_rfl) (by kernel_rfl) ?_
  obtain ⟨r47, hr48⟩ : ∃ x, (rbitFS yb1) = x := ⟨_, rfl⟩; have hp49 := hp42 r47 hr48; clear hp42
  have h9 := rbitF_fun yb1 hc41 b1 aoyb1_0 capyb1_0 _ _ _ _ _ _ hsyb1_0 (hM30.perm (pk 1 rfl)) hM30.fz; rw [hr48] at h9; refine h9.mono ?_; clear h9; rintro _ wd43 ⟨ao51, cap52, Z54, rfl, hle55, hs53, hm⟩; refine ⟨_, rfl, ?_⟩; intro a44 hF45; have hM46 := hm; clear hm hM30 hF40
  replace hs32 := hs32.mono hle55
  replace hsyb1_0 := hsyb1_0.mono hle55
  replace hleL18 := hleL18.mono hle55
  replace hle0 := Fz.le.trans hle0 hle55
  have hM56 : Mem B [] w0 Z0 ((.row b1 [str r47.2.Reader.Row, .int .i64 r47.2.Reader.At, .int .i64 r47.2.Reader.Code, .int .u8 r47.2.Reader.c.last, .int .i64 r47.2.Reader.c.n, .int .i64 r47.2.f.ID, .bool r47.2.f.Long, .bool r47.2.f.Fast, .bool r47.2.f.Remote, .int .i64 r47.2.f.Size, .slice ao51 r47.2.f.Data.length cap52] 61) :: (.own (tyInt .u8) 5 aox5 capx5 x5) :: Rr) Z54 wd43 := hM46; clear hM46
  have hp57 := hp49 (hs53.small); clear hp49
  refine s1 hF45 6 (.int .u8 r47.1) ?_; intro a58 hF59; clear hF45
  refine nlH (hQ38 _ _ ?_); clear hQ38 hQ38Q
  refine wp_seq ?_
  refine sqH ?_; intro hQ60Q hQ60
  refine s1 hF59 15 (.pointer (some ⟨b1, 0, none⟩)) ?_; intro a61 hF62; clear hF59
  refine s1 hF62 16 (.pointer (some ⟨b1, 0, none⟩)) ?_; intro a63 hF64; clear hF62
  refine s1 hF64 17 (.pointer (some ⟨b1, 2, none⟩)) ?_; intro a65 hF66; clear hF64
  refine l1 hF66 hM56 18 0 2 (.int .i64 r47.2.Reader.Code) rfl rfl ?_; intro a67 hF68; clear hF66
  refine s1 hF68 19 (.bool (r47.2.Reader.Code != 0)) ?_; intro a69 hF70; clear hF68
  refine nlH (hQ60 _ _ ?_); clear hQ60 hQ60Q
  refine cd hF70 (t := r47.2.Reader.Code != 0) (by kernel_rfl) (fun hb71 => ?_) (fun hb71 => ?_)
  ·
   have hp72 := hp57.1 hb71; clear hp57
   refine sqH ?_; intro hQ73Q hQ73
   refine s1 hF70 4 (str []) ?_; intro a74 hF75; clear hF70
   refine nlH (hQ73 _ _ ?_); clear hQ73 hQ73Q
   refine wp_ret ?_
   refine thr ?_
   refine ibr ?_
   refine thr ?_
   refine thr ?_
   refine ibr ?_
   refine thr ?_
   refine rt (fn := Tryz.f36) (v := str []) hF75 (re1 hF75 (fn := Tryz.f36) rfl (by kernel_rfl)) ?_
   exact ⟨([], r47.2), ao51, cap52, Z54, rfl, hp72, hle0, hs53, hM56.keep (List.Sublist.cons_cons _ (List.Sublist.cons _ (List.Sublist.refl _)))⟩
  ·
   have hp76 := hp57.2 hb71; clear hp57
   refine wp_skip ?_
   refine thn ?_
   refine sqH ?_; intro hQ77Q hQ77
   refine s1 hF70 20 (.slice aox5 x5.length capx5) ?_; intro a78 hF79; clear hF70
   refine s1 hF79 21 (.int .u8 r47.1) ?_; intro a80 hF81; clear hF79
   refine sn hF81 hM56 (fun b => .slice (some ⟨b, 0, none⟩) 1 1) [.int .u8 r47.1] 5 (nog rfl _) rfl (by kernel_rfl) (by kernel_rfl) ?_; intro b82 a83 wd85 hF84 hM86; clear hF81 hM56
   have hc87 := hp76.1; have hp88 := hp76.2; clear hp76
   refine ap hF84 hM86 2 (T := (tyInt .u8)) (xs := x5) (ys := [r47.1]) (ao := aox5) (cap := capx5) (ao2 := (some ⟨b82, 0, none⟩)) (cap2 := 1) (t := 22) (e := 5) (bytes := 1) (nog rfl _) rfl (by kernel_rfl) rfl (by kernel_rfl) (by kernel_rfl) (by kernel_rfl) rfl (Src.row hM86 0 rfl (RepAll.one (T := (tyInt .u8)) (x := r47.1) rfl)) hc87 ?_; intro ao89 cap90 a94 wd91 hnil92 hF95 hM93; clear hF84 hM86
   have hM96 : Mem B [] w0 Z0 ((.row b82 [.int .u8 r47.1] 5) :: (.row b1 [str r47.2.Reader.Row, .int .i64 r47.2.Reader.At, .int .i64 r47.2.Reader.Code, .int .u8 r47.2.Reader.c.last, .int .i64 r47.2.Reader.c.n, .int .i64 r47.2.f.ID, .bool r47.2.f.Long, .bool r47.2.f.Fast, .bool r47.2.f.Remote, .int .i64 r47.2.f.Size, .slice ao51 r47.2.f.Data.length cap52] 61) :: (.own (tyInt .u8) 5 ao89 cap90 (x5 ++ [r47.1])) :: Rr) Z54 wd91 := hM93; clear hM93
   refine s1 hF95 5 (.slice ao89 (x5 ++ [r47.1]).length cap90) ?_; intro a97 hF98; clear hF95
   refine nlH (hQ77 _ _ ?_); clear hQ77 hQ77Q
   have hF99 : Fr 61 [] [⟨0, [], .pointer (some ⟨b1, 0, none⟩)⟩, ⟨5, [], .slice ao89 (x5 ++ [r47.1]).length cap90⟩, ⟨6, [], .int .u8 r47.1⟩, ⟨10, [], .int .i64 u1⟩, ⟨11, [], .int .i64 x11⟩] a97 := hF98.reg; clear hF98
   refine sqH ?_; intro hQ100Q hQ100
   refine s1 hF99 25 (.pointer (some ⟨b1, 0, none⟩)) ?_; intro a101 hF102; clear hF99
   refine s1 hF102 26 (.pointer (some ⟨b1, 0, none⟩)) ?_; intro a103 hF104; clear hF102
   refine s1 hF104 27 (.pointer (some ⟨b1, 3, none⟩)) ?_; intro a105 hF106; clear hF104
   refine s1 hF106 28 (.int .u8 r47.1) ?_; intro a107 hF108; clear hF106
   have hc109 := hp88.1; have hp110 := hp88.2; clear hp88
   refine cl hF108 69 #[.pointer (some ⟨b1, 3, none⟩), .int .u8 r47.1] (nog rfl _) rfl (by kernel_rfl) (by kernel_rfl) ?_
   obtain ⟨r115, hr116⟩ : ∃ x, (cnextFS r47.2 r47.1) = x := ⟨_, rfl⟩; have hp117 := hp110 r115 hr116; clear hp110
   have h9 := cnextF_fun r47.2 r47.1 hc109 b1 ao51 cap52 _ _ _ _ _ _ hs53 (hM96.perm (pk 1 rfl)) hM96.fz; rw [hr116] at h9; refine h9.mono ?_; clear h9; rintro _ wd111 ⟨ao119, cap120, Z122, rfl, hle123, hs121, hm⟩; refine ⟨_, rfl, ?_⟩; intro a112 hF113; have hM114 := hm; clear hm hM96 hF108
   replace hs32 := hs32.mono hle123
   replace hsyb1_0 := hsyb1_0.mono hle123
   replace hleL18 := hleL18.mono hle123
   replace hs53 := hs53.mono hle123
   replace hle0 := Fz.le.trans hle0 hle123
   have hM124 : Mem B [] w0 Z0 ((.row b1 [str r115.2.2.Reader.Row, .int .i64 r115.2.2.Reader.At, .int .i64 r115.2.2.Reader.Code, .int .u8 r115.2.2.Reader.c.last, .int .i64 r115.2.2.Reader.c.n, .int .i64 r115.2.2.f.ID, .bool r115.2.2.f.Long, .bool r115.2.2.f.Fast, .bool r115.2.2.f.Remote, .int .i64 r115.2.2.f.Size, .slice ao119 r115.2.2.f.Data.length cap120] 61) :: (.row b82 [.int .u8 r47.1] 5) :: (.own (tyInt .u8) 5 ao89 cap90 (x5 ++ [r47.1])) :: Rr) Z122 wd111 := hM114; clear hM114
   have hp125 := hp117 (hs121.small); clear hp117
   refine s1 hF113 24 (.tuple #[.int .u8 r115.1, .bool r115.2.1]) ?_; intro a126 hF127; clear hF113
   refine s1 hF127 30 (.int .u8 r115.1) ?_; intro a128 hF129; clear hF127
   refine s1 hF129 31 (.bool r115.2.1) ?_; intro a130 hF131; clear hF129
   refine s1 hF131 7 (.int .u8 r115.1) ?_; intro a132 hF133; clear hF131
   refine s1 hF133 8 (.bool r115.2.1) ?_; intro a134 hF135; clear hF133
   refine nlH (hQ100 _ _ ?_); clear hQ100 hQ100Q
   refine sqH ?_; intro hQ136Q hQ136
   refine s1 hF135 32 (.bool r115.2.1) ?_; intro a137 hF138; clear hF135
   refine nlH (hQ136 _ _ ?_); clear hQ136 hQ136Q
   refine cd hF138 (t := r115.2.1) (by kernel_rfl) (fun hb139 => ?_) (fun hb139 => ?_)
   ·
    have hp140 := hp125.1 hb139; clear hp125
    refine wp_seq ?_
    refine sqH ?_; intro hQ141Q hQ141
    refine s1 hF138 33 (.pointer (some ⟨b1, 0, none⟩)) ?_; intro a142 hF143; clear hF138
    have hc144 := hp140.1; have hp145 := hp140.2; clear hp140
    refine cl hF143 68 #[.pointer (some ⟨b1, 0, none⟩)] (nog rfl _) rfl (by kernel_rfl) (by kernel_rfl) ?_
    obtain ⟨r150, hr151⟩ : ∃ x, (rbitFS r115.2.2) = x := ⟨_, rfl⟩; have hp152 := hp145 r150 hr151; clear hp145
    have h9 := rbitF_fun r115.2.2 hc144 b1 ao119 cap120 _ _ _ _ _ _ hs121 hM124 hM124.fz; rw [hr151] at h9; refine h9.mono ?_; clear h9; rintro _ wd146 ⟨ao154, cap155, Z157, rfl, hle158, hs156, hm⟩; refine ⟨_, rfl, ?_⟩; intro a147 hF148; have hM149 := hm; clear hm hM124 hF143
    replace hs32 := hs32.mono hle158
    replace hsyb1_0 := hsyb1_0.mono hle158
    replace hleL18 := hleL18.mono hle158
    replace hs53 := hs53.mono hle158
    replace hs121 := hs121.mono hle158
    replace hle0 := Fz.le.trans hle0 hle158
    have hM159 : Mem B [] w0 Z0 ((.row b1 [str r150.2.Reader.Row, .int .i64 r150.2.Reader.At, .int .i64 r150.2.Reader.Code, .int .u8 r150.2.Reader.c.last, .int .i64 r150.2.Reader.c.n, .int .i64 r150.2.f.ID, .bool r150.2.f.Long, .bool r150.2.f.Fast, .bool r150.2.f.Remote, .int .i64 r150.2.f.Size, .slice ao154 r150.2.f.Data.length cap155] 61) :: (.row b82 [.int .u8 r47.1] 5) :: (.own (tyInt .u8) 5 ao89 cap90 (x5 ++ [r47.1])) :: Rr) Z157 wd146 := hM149; clear hM149
    have hp160 := hp152 (hs156.small); clear hp152
    refine s1 hF148 9 (.int .u8 r150.1) ?_; intro a161 hF162; clear hF148
    refine nlH (hQ141 _ _ ?_); clear hQ141 hQ141Q
    have hF163 : Fr 61 [] [⟨0, [], .pointer (some ⟨b1, 0, none⟩)⟩, ⟨5, [], .slice ao89 (x5 ++ [r47.1]).length cap90⟩, ⟨7, [], .int .u8 r115.1⟩, ⟨9, [], .int .u8 r150.1⟩, ⟨10, [], .int .i64 u1⟩, ⟨11, [], .int .i64 x11⟩] a161 := hF162.reg; clear hF162
    refine sqH ?_; intro hQ164Q hQ164
    refine s1 hF163 35 (.pointer (some ⟨b1, 0, none⟩)) ?_; intro a165 hF166; clear hF163
    refine s1 hF166 36 (.pointer (some ⟨b1, 0, none⟩)) ?_; intro a167 hF168; clear hF166
    refine s1 hF168 37 (.pointer (some ⟨b1, 2, none⟩)) ?_; intro a169 hF170; clear hF168
    refine l1 hF170 hM159 38 0 2 (.int .i64 r150.2.Reader.Code) rfl rfl ?_; intro a171 hF172; clear hF170
    refine s1 hF172 39 (.bool (r150.2.Reader.Code == 0)) ?_; intro a173 hF174; clear hF172
    refine s1 hF174 40 (.bool (r150.2.Reader.Code == 0)) ?_; intro a175 hF176; clear hF174
    have hF177 := hF176.atom ((r150.2.Reader.Code == 0) == true) (by kernel_rfl); clear hF176
    refine gp hF177 41 0 [] (r150.2.Reader.Code == 0) (.int .u8 r150.1) rfl rfl ?_; intro a178 hF179; clear hF177
    refine gp hF179 42 0 [] (r150.2.Reader.Code == 0) (.int .u8 r115.1) rfl rfl ?_; intro a180 hF181; clear hF179
    refine gp hF181 43 0 [] (r150.2.Reader.Code == 0) (.bool (r150.1 != r115.1)) rfl rfl ?_; intro a182 hF183; clear hF181
    refine st hF183 (.bool ((r150.2.Reader.Code == 0) && (r150.1 != r115.1))) (nog rfl _) rfl (by kernel_rfl) (pk_and hF183 (g := []) (m := 0) (b := r150.2.Reader.Code == 0) (v := r150.1 != r115.1) rfl (by kernel_rfl) (by kernel_rfl) (by kernel_rfl) rfl) ?_; intro a184 hF185; clear hF183
    refine nlH (hQ164 _ _ ?_); clear hQ164 hQ164Q
    refine cd hF185 (t := (r150.2.Reader.Code == 0) && (r150.1 != r115.1)) (by kernel_rfl) (fun hb186 => ?_) (fun hb186 => ?_)
    ·
     have hp187 := hp160.1 hb186; clear hp160
     have hF188 : Fr 61 [] [⟨0, [], .pointer (some ⟨b1, 0, none⟩)⟩, ⟨5, [], .slice ao89 (x5 ++ [r47.1]).length cap90⟩, ⟨7, [], .int .u8 r115.1⟩, ⟨10, [], .int .i64 u1⟩, ⟨11, [], .int .i64 x11⟩] a184 := hF185.reg; clear hF185
     refine rgH ?_; intro hQ189Q hQ189
     refine s1 hF188 45 (.pointer (some ⟨b1, 0, none⟩)) ?_; intro a190 hF191; clear hF188
     refine s1 hF191 46 (.pointer (some ⟨b1, 0, none⟩)) ?_; intro a192 hF193; clear hF191
     refine s1 hF193 47 (.pointer (some ⟨b1, 2, none⟩)) ?_; intro a194 hF195; clear hF193
     refine sr hF195 hM159 0 [str r150.2.Reader.Row, .int .i64 r150.2.Reader.At, .int .i64 5, .int .u8 r150.2.Reader.c.last, .int .i64 r150.2.Reader.c.n, .int .i64 r150.2.f.ID, .bool r150.2.f.Long, .bool r150.2.f.Fast, .bool r150.2.f.Remote, .int .i64 r150.2.f.Size, .slice ao154 r150.2.f.Data.length cap155] (b := b1) (off := 2) (cs := [str r150.2.Reader.Row, .int .i64 r150.2.Reader.At, .int .i64 r150.2.Reader.Code, .int .u8 r150.2.Reader.c.last, .int .i64 r150.2.Reader.c.n, .int .i64 r150.2.f.ID, .bool r150.2.f.Long, .bool r150.2.f.Fast, .bool r150.2.f.Remote, .int .i64 r150.2.f.Size, .slice ao154 r150.2.f.Data.length cap155]) (ty := 61) (u := .int .i64 5) (nog rfl _) rfl rfl (by kernel_rfl) (by kernel_rfl) (by kernel_rfl) (by kernel_rfl) (by kernel_rfl) (by kernel_rfl) (by kernel_rfl) ?_; intro wd196 hM197; clear hM159
     have hM198 : Mem B [] w0 Z0 ((.row b1 [str r150.2.Reader.Row, .int .i64 r150.2.Reader.At, .int .i64 5, .int .u8 r150.2.Reader.c.last, .int .i64 r150.2.Reader.c.n, .int .i64 r150.2.f.ID, .bool r150.2.f.Long, .bool r150.2.f.Fast, .bool r150.2.f.Remote, .int .i64 r150.2.f.Size, .slice ao154 r150.2.f.Data.length cap155] 61) :: (.row b82 [.int .u8 r47.1] 5) :: (.own (tyInt .u8) 5 ao89 cap90 (x5 ++ [r47.1])) :: Rr) Z157 wd196 := hM197; clear hM197
     refine nlH (hQ189 _ _ ?_); clear hQ189 hQ189Q
     refine thn ?_
     refine rgH ?_; intro hQ199Q hQ199
     refine s1 hF195 48 (.pointer (some ⟨b1, 0, none⟩)) ?_; intro a200 hF201; clear hF195
     refine s1 hF201 49 (.pointer (some ⟨b1, 0, none⟩)) ?_; intro a202 hF203; clear hF201
     refine s1 hF203 50 (.pointer (some ⟨b1, 3, none⟩)) ?_; intro a204 hF205; clear hF203
     refine s1 hF205 51 (.int .u8 r115.1) ?_; intro a206 hF207; clear hF205
     have hc208 := hp187.1; have hp209 := hp187.2; clear hp187
     refine cl hF207 69 #[.pointer (some ⟨b1, 3, none⟩), .int .u8 r115.1] (nog rfl _) rfl (by kernel_rfl) (by kernel_rfl) ?_
     obtain ⟨r214, hr215⟩ : ∃ x, (cnextFS (⟨(⟨r150.2.Reader.Row, r150.2.Reader.At, 5, r150.2.Reader.c⟩ : Reader), r150.2.f⟩ : FReader) r115.1) = x := ⟨_, rfl⟩; have hp216 := hp209 r214 hr215; clear hp209
     have h9 := cnextF_fun (⟨(⟨r150.2.Reader.Row, r150.2.Reader.At, 5, r150.2.Reader.c⟩ : Reader), r150.2.f⟩ : FReader) r115.1 hc208 b1 ao154 cap155 _ _ _ _ _ _ hs156 hM198 hM198.fz; rw [hr215] at h9; refine h9.mono ?_; clear h9; rintro _ wd210 ⟨ao218, cap219, Z221, rfl, hle222, hs220, hm⟩; refine ⟨_, rfl, ?_⟩; intro a211 hF212; have hM213 := hm; clear hm hM198 hF207
     replace hs32 := hs32.mono hle222
     replace hsyb1_0 := hsyb1_0.mono hle222
     replace hleL18 := hleL18.mono hle222
     replace hs53 := hs53.mono hle222
     replace hs121 := hs121.mono hle222
     replace hs156 := hs156.mono hle222
     replace hle0 := Fz.le.trans hle0 hle222
     have hM223 : Mem B [] w0 Z0 ((.row b1 [str r214.2.2.Reader.Row, .int .i64 r214.2.2.Reader.At, .int .i64 r214.2.2.Reader.Code, .int .u8 r214.2.2.Reader.c.last, .int .i64 r214.2.2.Reader.c.n, .int .i64 r214.2.2.f.ID, .bool r214.2.2.f.Long, .bool r214.2.2.f.Fast, .bool r214.2.2.f.Remote, .int .i64 r214.2.2.f.Size, .slice ao218 r214.2.2.f.Data.length cap219] 61) :: (.row b82 [.int .u8 r47.1] 5) :: (.own (tyInt .u8) 5 ao89 cap90 (x5 ++ [r47.1])) :: Rr) Z221 wd210 := hM213; clear hM213
     have hp224 := hp216 (hs220.small); clear hp216
     refine nlH (hQ199 _ _ ?_); clear hQ199 hQ199Q
     refine ibn ?_
     refine thn ?_
     refine rgH ?_; intro hQ225Q hQ225
     refine s1 hF212 53 (.int .i64 (w64 (x11 + 1))) ?_; intro a226 hF227; clear hF212
     refine s1 hF227 11 (.int .i64 (w64 (x11 + 1))) ?_; intro a228 hF229; clear hF227
     refine nlH (hQ225 _ _ ?_); clear hQ225 hQ225Q
     refine rd ?_
     have hM230 := hM223.perm ((pk 2 rfl).trans (lpr.cons _))
     exact ⟨⟨x5 ++ [r47.1], w64 (x11 + 1), r214.2.2, ao89, cap90, ao218, cap219, Z221⟩, ⟨hp224.1, hs220, hleL18⟩, hp224.2, (hF229.reg).anyβ _ (by kernel_rfl), hM230.keep (List.Sublist.cons_cons _ (List.Sublist.cons_cons _ (List.Sublist.cons _ (List.Sublist.refl _))))⟩
    ·
     have hp231 := hp160.2 hb186; clear hp160
     refine wp_skip ?_
     refine thn ?_
     have hF232 : Fr 61 [] [⟨0, [], .pointer (some ⟨b1, 0, none⟩)⟩, ⟨5, [], .slice ao89 (x5 ++ [r47.1]).length cap90⟩, ⟨7, [], .int .u8 r115.1⟩, ⟨10, [], .int .i64 u1⟩, ⟨11, [], .int .i64 x11⟩] a184 := hF185.reg; clear hF185
     refine rgH ?_; intro hQ233Q hQ233
     refine s1 hF232 48 (.pointer (some ⟨b1, 0, none⟩)) ?_; intro a234 hF235; clear hF232
     refine s1 hF235 49 (.pointer (some ⟨b1, 0, none⟩)) ?_; intro a236 hF237; clear hF235
     refine s1 hF237 50 (.pointer (some ⟨b1, 3, none⟩)) ?_; intro a238 hF239; clear hF237
     refine s1 hF239 51 (.int .u8 r115.1) ?_; intro a240 hF241; clear hF239
     have hc242 := hp231.1; have hp243 := hp231.2; clear hp231
     refine cl hF241 69 #[.pointer (some ⟨b1, 3, none⟩), .int .u8 r115.1] (nog rfl _) rfl (by kernel_rfl) (by kernel_rfl) ?_
     obtain ⟨r248, hr249⟩ : ∃ x, (cnextFS r150.2 r115.1) = x := ⟨_, rfl⟩; have hp250 := hp243 r248 hr249; clear hp243
     have h9 := cnextF_fun r150.2 r115.1 hc242 b1 ao154 cap155 _ _ _ _ _ _ hs156 hM159 hM159.fz; rw [hr249] at h9; refine h9.mono ?_; clear h9; rintro _ wd244 ⟨ao252, cap253, Z255, rfl, hle256, hs254, hm⟩; refine ⟨_, rfl, ?_⟩; intro a245 hF246; have hM247 := hm; clear hm hM159 hF241
     replace hs32 := hs32.mono hle256
     replace hsyb1_0 := hsyb1_0.mono hle256
     replace hleL18 := hleL18.mono hle256
     replace hs53 := hs53.mono hle256
     replace hs121 := hs121.mono hle256
     replace hs156 := hs156.mono hle256
     replace hle0 := Fz.le.trans hle0 hle256
     have hM257 : Mem B [] w0 Z0 ((.row b1 [str r248.2.2.Reader.Row, .int .i64 r248.2.2.Reader.At, .int .i64 r248.2.2.Reader.Code, .int .u8 r248.2.2.Reader.c.last, .int .i64 r248.2.2.Reader.c.n, .int .i64 r248.2.2.f.ID, .bool r248.2.2.f.Long, .bool r248.2.2.f.Fast, .bool r248.2.2.f.Remote, .int .i64 r248.2.2.f.Size, .slice ao252 r248.2.2.f.Data.length cap253] 61) :: (.row b82 [.int .u8 r47.1] 5) :: (.own (tyInt .u8) 5 ao89 cap90 (x5 ++ [r47.1])) :: Rr) Z255 wd244 := hM247; clear hM247
     have hp258 := hp250 (hs254.small); clear hp250
     refine nlH (hQ233 _ _ ?_); clear hQ233 hQ233Q
     refine ibn ?_
     refine thn ?_
     refine rgH ?_; intro hQ259Q hQ259
     refine s1 hF246 53 (.int .i64 (w64 (x11 + 1))) ?_; intro a260 hF261; clear hF246
     refine s1 hF261 11 (.int .i64 (w64 (x11 + 1))) ?_; intro a262 hF263; clear hF261
     refine nlH (hQ259 _ _ ?_); clear hQ259 hQ259Q
     refine rd ?_
     have hM264 := hM257.perm ((pk 2 rfl).trans (lpr.cons _))
     exact ⟨⟨x5 ++ [r47.1], w64 (x11 + 1), r248.2.2, ao89, cap90, ao252, cap253, Z255⟩, ⟨hp258.1, hs254, hleL18⟩, hp258.2, (hF263.reg).anyβ _ (by kernel_rfl), hM264.keep (List.Sublist.cons_cons _ (List.Sublist.cons_cons _ (List.Sublist.cons _ (List.Sublist.refl _))))⟩
   ·
    have hp265 := hp125.2 hb139; clear hp125
    refine wp_skip ?_
    refine ibn ?_
    refine thn ?_
    refine rgH ?_; intro hQ266Q hQ266
    refine s1 hF138 53 (.int .i64 (w64 (x11 + 1))) ?_; intro a267 hF268; clear hF138
    refine s1 hF268 11 (.int .i64 (w64 (x11 + 1))) ?_; intro a269 hF270; clear hF268
    refine nlH (hQ266 _ _ ?_); clear hQ266 hQ266Q
    refine rd ?_
    have hM271 := hM124.perm ((pk 2 rfl).trans (lpr.cons _))
    exact ⟨⟨x5 ++ [r47.1], w64 (x11 + 1), r115.2.2, ao89, cap90, ao119, cap120, Z122⟩, ⟨hp265.1, hs121, hleL18⟩, hp265.2, (hF270.reg).anyβ _ (by kernel_rfl), hM271.keep (List.Sublist.cons_cons _ (List.Sublist.cons_cons _ (List.Sublist.cons _ (List.Sublist.refl _))))⟩
 ·
  have hp272 := hp31.2 hb36; clear hp31
  refine wp_exit ?_
  refine thx ?_
  refine thx ?_
  refine ibx ?_
  refine thn ?_
  refine wp_seq ?_
  refine sqH ?_; intro hQ273Q hQ273
  refine s1 hF35 54 (.pointer (some ⟨b1, 0, none⟩)) ?_; intro a274 hF275; clear hF35
  refine s1 hF275 55 (.pointer (some ⟨b1, 0, none⟩)) ?_; intro a276 hF277; clear hF275
  refine s1 hF277 56 (.pointer (some ⟨b1, 2, none⟩)) ?_; intro a278 hF279; clear hF277
  refine l1 hF279 hM30 57 1 2 (.int .i64 yb1.Reader.Code) rfl rfl ?_; intro a280 hF281; clear hF279
  refine s1 hF281 58 (.bool (yb1.Reader.Code != 0)) ?_; intro a282 hF283; clear hF281
  refine nlH (hQ273 _ _ ?_); clear hQ273 hQ273Q
  refine cd hF283 (t := yb1.Reader.Code != 0) (by kernel_rfl) (fun hb284 => ?_) (fun hb284 => ?_)
  ·
   have hp285 := hp272.1 hb284; clear hp272
   refine sqH ?_; intro hQ286Q hQ286
   refine s1 hF283 4 (str []) ?_; intro a287 hF288; clear hF283
   refine nlH (hQ286 _ _ ?_); clear hQ286 hQ286Q
   refine wp_ret ?_
   refine thr ?_
   refine rt (fn := Tryz.f36) (v := str []) hF288 (re1 hF288 (fn := Tryz.f36) rfl (by kernel_rfl)) ?_
   exact ⟨([], yb1), aoyb1_0, capyb1_0, ZL18, rfl, hp285, hle0, hsyb1_0, hM30.keep (List.Sublist.cons _ (List.Sublist.cons_cons _ (List.Sublist.refl _)))⟩
  ·
   have hp289 := hp272.2 hb284; clear hp272
   refine wp_skip ?_
   refine thn ?_
   refine sqH ?_; intro hQ290Q hQ290
   refine s1 hF283 59 (.slice aox5 x5.length capx5) ?_; intro a291 hF292; clear hF283
   refine st hF292 (str (bstr x5)) (nog rfl _) rfl (by kernel_rfl) ((by obtain ⟨Z9, hle9, hon9, hs9⟩ := hM30.lend 0 rfl; exact bstr_op hF292 (g := []) (e := 5) (ao := aox5) (cap := capx5) (xs := x5) rfl (by kernel_rfl) (by kernel_rfl) (by kernel_rfl) (by kernel_rfl)  hs9 hon9 rfl)) ?_; intro a293 hF294; clear hF292
   refine s1 hF294 4 (str (bstr x5)) ?_; intro a295 hF296; clear hF294
   refine nlH (hQ290 _ _ ?_); clear hQ290 hQ290Q
   refine wp_ret ?_
   refine rt (fn := Tryz.f36) (v := str (bstr x5)) hF296 (re1 hF296 (fn := Tryz.f36) rfl (by kernel_rfl)) ?_
   exact ⟨(bstr x5, yb1), aoyb1_0, capyb1_0, ZL18, rfl, hp289, hle0, hsyb1_0, hM30.keep (List.Sublist.cons _ (List.Sublist.cons_cons _ (List.Sublist.refl _)))⟩

set_option maxRecDepth 100000 in
set_option maxHeartbeats 0 in
theorem rplainF_walk (u0 : FReader) (u1 : Int) (b1 : Nat) (ao2 : Option Addr) (cap3 : Nat) (B : Nat) (w0 : World) (Z0 : Fz) (Rr : List Res) (Z : Fz) (w : World) (hs4 : SlR (tyInt .u8) Z ao2 cap3 u0.f.Data) (hM0 : Mem B [] w0 Z0 ((.row b1 [str u0.Reader.Row, .int .i64 u0.Reader.At, .int .i64 u0.Reader.Code, .int .u8 u0.Reader.c.last, .int .i64 u0.Reader.c.n, .int .i64 u0.f.ID, .bool u0.f.Long, .bool u0.f.Fast, .bool u0.f.Remote, .int .i64 u0.f.Size, .slice ao2 u0.f.Data.length cap3] 61) :: Rr) Z w) (hZ : Z.on w) {K : ((List UInt8) × FReader) → Prop} (hp : rplainF_vc u0 u1 K) : Calls Tryz.prog 41 #[.pointer (some ⟨b1, 0, none⟩), .int .i64 u1] w fun e w' => ∃ (r : (List UInt8) × FReader) (ao1001 : Option Addr) (cap1002 : Nat) (Z' : Fz), e = .returned (str r.1) ∧ K r ∧ Fz.le Z Z' ∧ SlR (tyInt .u8) Z' ao1001 cap1002 r.2.f.Data ∧ Mem B [] w0 Z0 ((.row b1 [str r.2.Reader.Row, .int .i64 r.2.Reader.At, .int .i64 r.2.Reader.Code, .int .u8 r.2.Reader.c.last, .int .i64 r.2.Reader.c.n, .int .i64 r.2.f.ID, .bool r.2.f.Long, .bool r.2.f.Fast, .bool r.2.f.Remote, .int .i64 r.2.f.Size, .slice ao1001 r.2.f.Data.length cap1002] 61) :: Rr) Z' w' := by
 refine enter0 Tryz.func41 rfl rfl (by kernel_rfl) ?_; intro a0 hF0; have hle0 := Fz.le.refl Z
 have hp5 := hp (hs4.small); clear hp
 refine sqH ?_; intro hQ6Q hQ6
 refine s1 hF0 4 (str []) ?_; intro a7 hF8; clear hF0
 refine nlH (hQ6 _ _ ?_); clear hQ6 hQ6Q
 refine sqH ?_; intro hQ9Q hQ9
 refine s1 hF8 5 (.slice none 0 0) ?_; intro a10 hF11; clear hF8
 refine nlH (hQ9 _ _ ?_); clear hQ9 hQ9Q
 refine wp_seq ?_
 refine sqH ?_; intro hQ12Q hQ12
 refine s1 hF11 6 (.int .i64 u1) ?_; intro a13 hF14; clear hF11
 refine s1 hF14 7 (.int .i64 0) ?_; intro a15 hF16; clear hF14
 refine nlH (hQ12 _ _ ?_); clear hQ12 hQ12Q
 refine wp_block ?_
 have hF17 : Fr 22 [] [⟨0, [], .pointer (some ⟨b1, 0, none⟩)⟩, ⟨5, [], .slice none 0 0⟩, ⟨6, [], .int .i64 u1⟩, ⟨7, [], .int .i64 0⟩] a15 := hF16.reg; clear hF16
 have hM19 : Mem B [] w0 Z0 ((.own (tyInt .u8) 5 none 0 ([] : List Int)) :: (.row b1 [str u0.Reader.Row, .int .i64 u0.Reader.At, .int .i64 u0.Reader.Code, .int .u8 u0.Reader.c.last, .int .i64 u0.Reader.c.n, .int .i64 u0.f.ID, .bool u0.f.Long, .bool u0.f.Fast, .bool u0.f.Remote, .int .i64 u0.f.Size, .slice ao2 u0.f.Data.length cap3] 61) :: Rr) Z w := hM0.addNil (tyInt .u8) 5 (by decide); clear hM0
 have hF20 : Fr 22 [] [⟨0, [], .pointer (some ⟨b1, 0, none⟩)⟩, ⟨5, [], .slice none ([] : List Int).length 0⟩, ⟨6, [], .int .i64 u1⟩, ⟨7, [], .int .i64 0⟩] a15 := hF17.reg; clear hF17
 obtain ⟨inv18, mu18, hI23, hr22⟩ := hp5
 have hle24 := hle0
 refine lp (ι := (List Int) × Int × FReader × (Option Addr) × Nat × (Option Addr) × Nat × Fz) (fun (s : (List Int) × Int × FReader × (Option Addr) × Nat × (Option Addr) × Nat × Fz) => [⟨0, [], .pointer (some ⟨b1, 0, none⟩)⟩, ⟨5, [], .slice s.2.2.2.1 s.1.length s.2.2.2.2.1⟩, ⟨6, [], .int .i64 u1⟩, ⟨7, [], .int .i64 s.2.1⟩]) (fun (s : (List Int) × Int × FReader × (Option Addr) × Nat × (Option Addr) × Nat × Fz) => ((.own (tyInt .u8) 5 s.2.2.2.1 s.2.2.2.2.1 s.1) :: (.row b1 [str s.2.2.1.Reader.Row, .int .i64 s.2.2.1.Reader.At, .int .i64 s.2.2.1.Reader.Code, .int .u8 s.2.2.1.Reader.c.last, .int .i64 s.2.2.1.Reader.c.n, .int .i64 s.2.2.1.f.ID, .bool s.2.2.1.f.Long, .bool s.2.2.1.f.Fast, .bool s.2.2.1.f.Remote, .int .i64 s.2.2.1.f.Size, .slice s.2.2.2.2.2.1 s.2.2.1.f.Data.length s.2.2.2.2.2.2.1] 61) :: Rr)) (fun (s : (List Int) × Int × FReader × (Option Addr) × Nat × (Option Addr) × Nat × Fz) => s.2.2.2.2.2.2.2) (fun (s : (List Int) × Int × FReader × (Option Addr) × Nat × (Option Addr) × Nat × Fz) => inv18 s.1 s.2.1 s.2.2.1 ∧ SlR (tyInt .u8) s.2.2.2.2.2.2.2 s.2.2.2.2.2.1 s.2.2.2.2.2.2.1 s.2.2.1.f.Data ∧ Fz.le Z s.2.2.2.2.2.2.2) (fun (s : (List Int) × Int × FReader × (Option Addr) × Nat × (Option Addr) × Nat × Fz) => mu18 s.1 s.2.1 s.2.2.1) ⟨([] : List Int), 0, u0, none, 0, ao2, cap3, Z⟩ ⟨hI23, hs4, Fz.le.refl _⟩ (by exact hF20.reg) (by exact hM19) ?_
 rintro ⟨x5, x7, yb1, aox5, capx5, aoyb1_0, capyb1_0, ZL18⟩ ⟨hI21, hsyb1_0, hleL18⟩ a25 wd26 hF27 hM28
 have hF29 : Fr 22 [] [⟨0, [], .pointer (some ⟨b1, 0, none⟩)⟩, ⟨5, [], .slice aox5 x5.length capx5⟩, ⟨6, [], .int .i64 u1⟩, ⟨7, [], .int .i64 x7⟩] a25 := hF27; clear hF27 hF20
 have hM30 : Mem B [] w0 Z0 ((.own (tyInt .u8) 5 aox5 capx5 x5) :: (.row b1 [str yb1.Reader.Row, .int .i64 yb1.Reader.At, .int .i64 yb1.Reader.Code, .int .u8 yb1.Reader.c.last, .int .i64 yb1.Reader.c.n, .int .i64 yb1.f.ID, .bool yb1.f.Long, .bool yb1.f.Fast, .bool yb1.f.Remote, .int .i64 yb1.f.Size, .slice aoyb1_0 yb1.f.Data.length capyb1_0] 61) :: Rr) ZL18 wd26 := hM28; clear hM28 hM19
 have hp31 := hr22 x5 x7 yb1 hI21
 replace hle0 := Fz.le.trans hle0 hleL18
 have hs32 := hs4.mono hleL18
 refine sqH ?_; intro hQ33Q hQ33
 refine s1 hF29 8 (.bool (decide (x7 < u1))) ?_; intro a34 hF35; clear hF29
 refine nlH (hQ33 _ _ ?_); clear hQ33 hQ33Q
 refine wp_seq ?_
 refine cd hF35 (t := decide (x7 < u1)) (by kernel_rfl) (fun hb36 => ?_) (fun hb36 => ?_)
 ·
  have hp37 := hp31.1 hb36; clear hp31
  refine wp_skip ?_
  refine thn ?_
  refine wp_seq ?_
  refine wp_block ?_
  refine rgH ?_; intro hQ38Q hQ38
  refine s1 hF35 9 (.slice aox5 x5.length capx5) ?_; intro a39 hF40; clear hF35
  refine s1 hF40 10 (.pointer (some ⟨b1, 0, none⟩)) ?_; intro a41 hF42; clear hF40
  have hc43 := hp37.1; have hp44 := hp37.2; clear hp37
  refine cl hF42 68 #[.pointer (some ⟨b1, 0, none⟩)] (nog rfl _) rfl (by kernel_rfl) (by kernel_rfl) ?_
  obtain ⟨r49, hr50⟩ : ∃ x, (rbitFS yb1) = x := ⟨_, rfl⟩; have hp51 := hp44 r49 hr50; clear hp44
  have h9 := rbitF_fun yb1 hc43 b1 aoyb1_0 capyb1_0 _ _ _ _ _ _ hsyb1_0 (hM30.perm (pk 1 rfl)) hM30.fz; rw [hr50] at h9; refine h9.mono ?_; clear h9; rintro _ wd45 ⟨ao53, cap54, Z56, rfl, hle57, hs55, hm⟩; refine ⟨_, rfl, ?_⟩; intro a46 hF47; have hM48 := hm; clear hm hM30 hF42
  replace hs32 := hs32.mono hle57
  replace hsyb1_0 := hsyb1_0.mono hle57
  replace hleL18 := hleL18.mono hle57
  replace hle0 := Fz.le.trans hle0 hle57
  have hM58 : Mem B [] w0 Z0 ((.row b1 [str r49.2.Reader.Row, .int .i64 r49.2.Reader.At, .int .i64 r49.2.Reader.Code, .int .u8 r49.2.Reader.c.last, .int .i64 r49.2.Reader.c.n, .int .i64 r49.2.f.ID, .bool r49.2.f.Long, .bool r49.2.f.Fast, .bool r49.2.f.Remote, .int .i64 r49.2.f.Size, .slice ao53 r49.2.f.Data.length cap54] 61) :: (.own (tyInt .u8) 5 aox5 capx5 x5) :: Rr) Z56 wd45 := hM48; clear hM48
  have hp59 := hp51 (hs55.small); clear hp51
  refine sn hF47 hM58 (fun b => .slice (some ⟨b, 0, none⟩) 1 1) [.int .u8 r49.1] 5 (nog rfl _) rfl (by kernel_rfl) (by kernel_rfl) ?_; intro b60 a61 wd63 hF62 hM64; clear hF47 hM58
  have hc65 := hp59.1; have hp66 := hp59.2; clear hp59
  refine ap hF62 hM64 2 (T := (tyInt .u8)) (xs := x5) (ys := [r49.1]) (ao := aox5) (cap := capx5) (ao2 := (some ⟨b60, 0, none⟩)) (cap2 := 1) (t := 22) (e := 5) (bytes := 1) (nog rfl _) rfl (by kernel_rfl) rfl (by kernel_rfl) (by kernel_rfl) (by kernel_rfl) rfl (Src.row hM64 0 rfl (RepAll.one (T := (tyInt .u8)) (x := r49.1) rfl)) hc65 ?_; intro ao67 cap68 a72 wd69 hnil70 hF73 hM71; clear hF62 hM64
  have hM74 : Mem B [] w0 Z0 ((.row b60 [.int .u8 r49.1] 5) :: (.row b1 [str r49.2.Reader.Row, .int .i64 r49.2.Reader.At, .int .i64 r49.2.Reader.Code, .int .u8 r49.2.Reader.c.last, .int .i64 r49.2.Reader.c.n, .int .i64 r49.2.f.ID, .bool r49.2.f.Long, .bool r49.2.f.Fast, .bool r49.2.f.Remote, .int .i64 r49.2.f.Size, .slice ao53 r49.2.f.Data.length cap54] 61) :: (.own (tyInt .u8) 5 ao67 cap68 (x5 ++ [r49.1])) :: Rr) Z56 wd69 := hM71; clear hM71
  refine s1 hF73 5 (.slice ao67 (x5 ++ [r49.1]).length cap68) ?_; intro a75 hF76; clear hF73
  refine nlH (hQ38 _ _ ?_); clear hQ38 hQ38Q
  refine ibn ?_
  refine thn ?_
  refine rgH ?_; intro hQ77Q hQ77
  refine s1 hF76 14 (.int .i64 (w64 (x7 + 1))) ?_; intro a78 hF79; clear hF76
  refine s1 hF79 7 (.int .i64 (w64 (x7 + 1))) ?_; intro a80 hF81; clear hF79
  refine nlH (hQ77 _ _ ?_); clear hQ77 hQ77Q
  refine rd ?_
  have hM82 := hM74.perm ((pk 2 rfl).trans (((pk 1 rfl).trans (lpr.cons _)).cons _))
  exact ⟨⟨x5 ++ [r49.1], w64 (x7 + 1), r49.2, ao67, cap68, ao53, cap54, Z56⟩, ⟨hp66.1, hs55, hleL18⟩, hp66.2, (hF81.reg).anyβ _ (by kernel_rfl), hM82.keep (List.Sublist.cons_cons _ (List.Sublist.cons_cons _ (List.Sublist.cons _ (List.Sublist.refl _))))⟩
 ·
  have hp83 := hp31.2 hb36; clear hp31
  refine wp_exit ?_
  refine thx ?_
  refine thx ?_
  refine ibx ?_
  refine thn ?_
  refine wp_seq ?_
  refine sqH ?_; intro hQ84Q hQ84
  refine s1 hF35 15 (.pointer (some ⟨b1, 0, none⟩)) ?_; intro a85 hF86; clear hF35
  refine s1 hF86 16 (.pointer (some ⟨b1, 0, none⟩)) ?_; intro a87 hF88; clear hF86
  refine s1 hF88 17 (.pointer (some ⟨b1, 2, none⟩)) ?_; intro a89 hF90; clear hF88
  refine l1 hF90 hM30 18 1 2 (.int .i64 yb1.Reader.Code) rfl rfl ?_; intro a91 hF92; clear hF90
  refine s1 hF92 19 (.bool (yb1.Reader.Code != 0)) ?_; intro a93 hF94; clear hF92
  refine nlH (hQ84 _ _ ?_); clear hQ84 hQ84Q
  refine cd hF94 (t := yb1.Reader.Code != 0) (by kernel_rfl) (fun hb95 => ?_) (fun hb95 => ?_)
  ·
   have hp96 := hp83.1 hb95; clear hp83
   refine sqH ?_; intro hQ97Q hQ97
   refine s1 hF94 4 (str []) ?_; intro a98 hF99; clear hF94
   refine nlH (hQ97 _ _ ?_); clear hQ97 hQ97Q
   refine wp_ret ?_
   refine thr ?_
   refine rt (fn := Tryz.f41) (v := str []) hF99 (re1 hF99 (fn := Tryz.f41) rfl (by kernel_rfl)) ?_
   exact ⟨([], yb1), aoyb1_0, capyb1_0, ZL18, rfl, hp96, hle0, hsyb1_0, hM30.keep (List.Sublist.cons _ (List.Sublist.cons_cons _ (List.Sublist.refl _)))⟩
  ·
   have hp100 := hp83.2 hb95; clear hp83
   refine wp_skip ?_
   refine thn ?_
   refine sqH ?_; intro hQ101Q hQ101
   refine s1 hF94 20 (.slice aox5 x5.length capx5) ?_; intro a102 hF103; clear hF94
   refine st hF103 (str (bstr x5)) (nog rfl _) rfl (by kernel_rfl) ((by obtain ⟨Z9, hle9, hon9, hs9⟩ := hM30.lend 0 rfl; exact bstr_op hF103 (g := []) (e := 5) (ao := aox5) (cap := capx5) (xs := x5) rfl (by kernel_rfl) (by kernel_rfl) (by kernel_rfl) (by kernel_rfl)  hs9 hon9 rfl)) ?_; intro a104 hF105; clear hF103
   refine s1 hF105 4 (str (bstr x5)) ?_; intro a106 hF107; clear hF105
   refine nlH (hQ101 _ _ ?_); clear hQ101 hQ101Q
   refine wp_ret ?_
   refine rt (fn := Tryz.f41) (v := str (bstr x5)) hF107 (re1 hF107 (fn := Tryz.f41) rfl (by kernel_rfl)) ?_
   exact ⟨(bstr x5, yb1), aoyb1_0, capyb1_0, ZL18, rfl, hp100, hle0, hsyb1_0, hM30.keep (List.Sublist.cons _ (List.Sublist.cons_cons _ (List.Sublist.refl _)))⟩

set_option maxRecDepth 100000 in
set_option maxHeartbeats 0 in
theorem sput_walk (u0 : List UInt8)  (Z : Fz) (w : World)  (hZ : Z.on w) {K : ((List UInt8) × Int) → Prop} (hp : sput_vc u0 K) : Calls Tryz.prog 54 #[str u0] w fun e w' => ∃ r : (List UInt8) × Int, e = .returned (.tuple #[str r.1, .int .i64 r.2]) ∧ K r ∧ Below w.heap.size w w' := by
 refine enter0 Tryz.func54 rfl rfl (by kernel_rfl) ?_; intro a0 hF0; have hM0 := Mem.start w Z hZ; have hle0 := Fz.le.refl Z
 refine sqH ?_; intro hQ1Q hQ1
 refine s1 hF0 2 (str []) ?_; intro a2 hF3; clear hF0
 refine s1 hF3 3 (.int .i64 0) ?_; intro a4 hF5; clear hF3
 refine nlH (hQ1 _ _ ?_); clear hQ1 hQ1Q
 refine wp_seq ?_
 refine sqH ?_; intro hQ6Q hQ6
 refine s1 hF5 10 (str u0) ?_; intro a7 hF8; clear hF5
 refine fcl hF8 hM0 (.int .i64 (bcheckS u0)) 31 #[str u0] (nog rfl _) rfl (by kernel_rfl) (fun _ => by kernel_rfl) (bcheck_fun u0 _ _ hM0.fz) ?_; intro a9 wd11 hF10 hM12; clear hF8 hM0
 refine s1 hF10 4 (.int .i64 (bcheckS u0)) ?_; intro a13 hF14; clear hF10
 refine nlH (hQ6 _ _ ?_); clear hQ6 hQ6Q
 refine sqH ?_; intro hQ15Q hQ15
 refine s1 hF14 12 (.int .i64 (bcheckS u0)) ?_; intro a16 hF17; clear hF14
 refine s1 hF17 13 (.bool ((bcheckS u0) != 0)) ?_; intro a18 hF19; clear hF17
 refine nlH (hQ15 _ _ ?_); clear hQ15 hQ15Q
 refine cd hF19 (t := (bcheckS u0) != 0) (by kernel_rfl) (fun hb20 => ?_) (fun hb20 => ?_)
 ·
  have hp21 := hp.1 hb20; clear hp
  refine sqH ?_; intro hQ22Q hQ22
  refine s1 hF19 14 (.int .i64 (bcheckS u0)) ?_; intro a23 hF24; clear hF19
  refine s1 hF24 2 (str []) ?_; intro a25 hF26; clear hF24
  refine s1 hF26 3 (.int .i64 (bcheckS u0)) ?_; intro a27 hF28; clear hF26
  refine nlH (hQ22 _ _ ?_); clear hQ22 hQ22Q
  refine wp_ret ?_
  refine thr ?_
  refine rt (fn := Tryz.f54) (v := .tuple #[str [], .int .i64 (bcheckS u0)]) hF28 (re2 hF28 (fn := Tryz.f54) rfl (by kernel_rfl) (by kernel_rfl)) ?_
  exact ⟨([], (bcheckS u0)), rfl, hp21, hM12.below⟩
 ·
  have hp29 := hp.2 hb20; clear hp
  refine wp_skip ?_
  refine thn ?_
  refine sqH ?_; intro hQ30Q hQ30
  refine s1 hF19 5 (.slice none 0 0) ?_; intro a31 hF32; clear hF19
  refine nlH (hQ30 _ _ ?_); clear hQ30 hQ30Q
  refine sqH ?_; intro hQ33Q hQ33
  refine sn hF32 hM12 (fun b => .pointer (some ⟨b, 0, none⟩)) [.int .u8 0, .int .i64 0] 57 (nog rfl _) rfl (by kernel_rfl) (by kernel_rfl) ?_; intro b34 a35 wd37 hF36 hM38; clear hF32 hM12
  refine nlH (hQ33 _ _ ?_); clear hQ33 hQ33Q
  refine wp_seq ?_
  refine sqH ?_; intro hQ39Q hQ39
  refine s1 hF36 15 (str u0) ?_; intro a40 hF41; clear hF36
  refine s1 hF41 16 (.int .i64 (u0.length : Int)) ?_; intro a42 hF43; clear hF41
  refine s1 hF43 17 (.int .i64 0) ?_; intro a44 hF45; clear hF43
  refine nlH (hQ39 _ _ ?_); clear hQ39 hQ39Q
  refine wp_block ?_
  have hF46 : Fr 43 [] [⟨0, [], str u0⟩, ⟨5, [], .slice none 0 0⟩, ⟨6, [], .pointer (some ⟨b34, 0, none⟩)⟩, ⟨16, [], .int .i64 (u0.length : Int)⟩, ⟨17, [], .int .i64 0⟩] a44 := hF45.reg; clear hF45
  have hM48 : Mem w.heap.size [] w Z [.own (tyInt .u8) 5 none 0 ([] : List Int), .row b34 [.int .u8 0, .int .i64 0] 57] Z wd37 := hM38.addNil (tyInt .u8) 5 (by decide); clear hM38
  have hF49 : Fr 43 [] [⟨0, [], str u0⟩, ⟨5, [], .slice none ([] : List Int).length 0⟩, ⟨6, [], .pointer (some ⟨b34, 0, none⟩)⟩, ⟨16, [], .int .i64 (u0.length : Int)⟩, ⟨17, [], .int .i64 0⟩] a44 := hF46.reg; clear hF46
  obtain ⟨inv47, mu47, hI52, hr51⟩ := hp29
  have hle53 := hle0
  refine lp (ι := (List Int) × Int × Counter × (Option Addr) × Nat × Fz) (fun (s : (List Int) × Int × Counter × (Option Addr) × Nat × Fz) => [⟨0, [], str u0⟩, ⟨5, [], .slice s.2.2.2.1 s.1.length s.2.2.2.2.1⟩, ⟨6, [], .pointer (some ⟨b34, 0, none⟩)⟩, ⟨16, [], .int .i64 (u0.length : Int)⟩, ⟨17, [], .int .i64 s.2.1⟩]) (fun (s : (List Int) × Int × Counter × (Option Addr) × Nat × Fz) => [.own (tyInt .u8) 5 s.2.2.2.1 s.2.2.2.2.1 s.1, .row b34 [.int .u8 s.2.2.1.last, .int .i64 s.2.2.1.n] 57]) (fun (s : (List Int) × Int × Counter × (Option Addr) × Nat × Fz) => s.2.2.2.2.2) (fun (s : (List Int) × Int × Counter × (Option Addr) × Nat × Fz) => inv47 s.1 s.2.1 s.2.2.1 ∧ Fz.le Z s.2.2.2.2.2) (fun (s : (List Int) × Int × Counter × (Option Addr) × Nat × Fz) => mu47 s.1 s.2.1 s.2.2.1) ⟨([] : List Int), 0, (⟨0, 0⟩ : Counter), none, 0, Z⟩ ⟨hI52, Fz.le.refl _⟩ (by exact hF49.reg) (by exact hM48) ?_
  rintro ⟨x5, x17, yb34, aox5, capx5, ZL47⟩ ⟨hI50, hleL47⟩ a54 wd55 hF56 hM57
  have hF58 : Fr 43 [] [⟨0, [], str u0⟩, ⟨5, [], .slice aox5 x5.length capx5⟩, ⟨6, [], .pointer (some ⟨b34, 0, none⟩)⟩, ⟨16, [], .int .i64 (u0.length : Int)⟩, ⟨17, [], .int .i64 x17⟩] a54 := hF56; clear hF56 hF49
  have hM59 : Mem w.heap.size [] w Z [.own (tyInt .u8) 5 aox5 capx5 x5, .row b34 [.int .u8 yb34.last, .int .i64 yb34.n] 57] ZL47 wd55 := hM57; clear hM57 hM48
  have hp60 := hr51 x5 x17 yb34 hI50
  replace hle0 := Fz.le.trans hle0 hleL47
  refine sqH ?_; intro hQ61Q hQ61
  refine s1 hF58 18 (.bool (decide (x17 < (u0.length : Int)))) ?_; intro a62 hF63; clear hF58
  refine nlH (hQ61 _ _ ?_); clear hQ61 hQ61Q
  refine wp_seq ?_
  refine cd hF63 (t := decide (x17 < (u0.length : Int))) (by kernel_rfl) (fun hb64 => ?_) (fun hb64 => ?_)
  ·
   have hp65 := hp60.1 hb64; clear hp60
   refine wp_skip ?_
   refine thn ?_
   refine wp_seq ?_
   refine wp_block ?_
   refine sqH ?_; intro hQ66Q hQ66
   refine s1 hF63 19 (.int .i64 x17) ?_; intro a67 hF68; clear hF63
   refine s1 hF68 7 (.int .i64 x17) ?_; intro a69 hF70; clear hF68
   refine nlH (hQ66 _ _ ?_); clear hQ66 hQ66Q
   refine sqH ?_; intro hQ71Q hQ71
   refine s1 hF70 20 (.slice aox5 x5.length capx5) ?_; intro a72 hF73; clear hF70
   refine s1 hF73 21 (str u0) ?_; intro a74 hF75; clear hF73
   refine s1 hF75 22 (.int .i64 x17) ?_; intro a76 hF77; clear hF75
   have hc78 := hp65.1; have hp79 := hp65.2; clear hp65
   obtain ⟨c80, hq81⟩ : ∃ q, u0[x17.toNat]? = some q := ⟨_, List.getElem?_eq_getElem (by omega)⟩; have hp82 := hp79 c80 hq81
   refine st hF77 (.int .u8 (c80.toNat : Int)) (nog rfl _) rfl (by kernel_rfl) (stridx_run hF77 (k := .i64) rfl (by kernel_rfl) (by kernel_rfl) (by kernel_rfl) hc78.1 hq81) ?_; intro a83 hF84; clear hF77
   refine sn hF84 hM59 (fun b => .slice (some ⟨b, 0, none⟩) 1 1) [.int .u8 (c80.toNat : Int)] 5 (nog rfl _) rfl (by kernel_rfl) (by kernel_rfl) ?_; intro b85 a86 wd88 hF87 hM89; clear hF84 hM59
   have hc90 := hp82.1; have hp91 := hp82.2; clear hp82
   refine ap hF87 hM89 1 (T := (tyInt .u8)) (xs := x5) (ys := [(c80.toNat : Int)]) (ao := aox5) (cap := capx5) (ao2 := (some ⟨b85, 0, none⟩)) (cap2 := 1) (t := 22) (e := 5) (bytes := 1) (nog rfl _) rfl (by kernel_rfl) rfl (by kernel_rfl) (by kernel_rfl) (by kernel_rfl) rfl (Src.row hM89 0 rfl (RepAll.one (T := (tyInt .u8)) (x := (c80.toNat : Int)) rfl)) hc90 ?_; intro ao92 cap93 a97 wd94 hnil95 hF98 hM96; clear hF87 hM89
   have hM99 : Mem w.heap.size [] w Z [.row b85 [.int .u8 (c80.toNat : Int)] 5, .own (tyInt .u8) 5 ao92 cap93 (x5 ++ [(c80.toNat : Int)]), .row b34 [.int .u8 yb34.last, .int .i64 yb34.n] 57] ZL47 wd94 := hM96; clear hM96
   refine s1 hF98 5 (.slice ao92 (x5 ++ [(c80.toNat : Int)]).length cap93) ?_; intro a100 hF101; clear hF98
   refine nlH (hQ71 _ _ ?_); clear hQ71 hQ71Q
   refine sqH ?_; intro hQ102Q hQ102
   refine s1 hF101 27 (str u0) ?_; intro a103 hF104; clear hF101
   refine s1 hF104 28 (.int .i64 x17) ?_; intro a105 hF106; clear hF104
   have hc107 := hp91.1; have hp108 := hp91.2; clear hp91
   obtain ⟨c109, hq110⟩ : ∃ q, u0[x17.toNat]? = some q := ⟨_, List.getElem?_eq_getElem (by omega)⟩; have hp111 := hp108 c109 hq110
   refine st hF106 (.int .u8 (c109.toNat : Int)) (nog rfl _) rfl (by kernel_rfl) (stridx_run hF106 (k := .i64) rfl (by kernel_rfl) (by kernel_rfl) (by kernel_rfl) hc107.1 hq110) ?_; intro a112 hF113; clear hF106
   have hc114 := hp111.1; have hp115 := hp111.2; clear hp111
   refine cl hF113 69 #[.pointer (some ⟨b34, 0, none⟩), .int .u8 (c109.toNat : Int)] (nog rfl _) rfl (by kernel_rfl) (by kernel_rfl) ?_
   obtain ⟨r120, hr121⟩ : ∃ x, (cnextS yb34 (c109.toNat : Int)) = x := ⟨_, rfl⟩; have hp122 := hp115 r120 hr121; clear hp115
   have h9 := cnext_fun yb34 (c109.toNat : Int) hc114 b34 _ _ _ _ _ _ (hM99.perm (pk 2 rfl)) hM99.fz; rw [hr121] at h9; refine h9.mono ?_; clear h9; rintro _ wd116 ⟨Z124, rfl, hle125, hm⟩; refine ⟨_, rfl, ?_⟩; intro a117 hF118; have hM119 := hm; clear hm hM99 hF113
   replace hleL47 := hleL47.mono hle125
   replace hle0 := Fz.le.trans hle0 hle125
   have hM126 : Mem w.heap.size [] w Z [.row b34 [.int .u8 r120.2.2.last, .int .i64 r120.2.2.n] 57, .row b85 [.int .u8 (c80.toNat : Int)] 5, .own (tyInt .u8) 5 ao92 cap93 (x5 ++ [(c80.toNat : Int)])] Z124 wd116 := hM119; clear hM119
   refine s1 hF118 26 (.tuple #[.int .u8 r120.1, .bool r120.2.1]) ?_; intro a127 hF128; clear hF118
   refine s1 hF128 31 (.int .u8 r120.1) ?_; intro a129 hF130; clear hF128
   refine s1 hF130 32 (.bool r120.2.1) ?_; intro a131 hF132; clear hF130
   refine s1 hF132 8 (.int .u8 r120.1) ?_; intro a133 hF134; clear hF132
   refine s1 hF134 9 (.bool r120.2.1) ?_; intro a135 hF136; clear hF134
   refine nlH (hQ102 _ _ ?_); clear hQ102 hQ102Q
   have hF137 : Fr 43 [] [⟨0, [], str u0⟩, ⟨5, [], .slice ao92 (x5 ++ [(c80.toNat : Int)]).length cap93⟩, ⟨6, [], .pointer (some ⟨b34, 0, none⟩)⟩, ⟨8, [], .int .u8 r120.1⟩, ⟨9, [], .bool r120.2.1⟩, ⟨16, [], .int .i64 (u0.length : Int)⟩, ⟨17, [], .int .i64 x17⟩] a135 := hF136.reg; clear hF136
   refine sqH ?_; intro hQ138Q hQ138
   refine s1 hF137 33 (.bool r120.2.1) ?_; intro a139 hF140; clear hF137
   refine nlH (hQ138 _ _ ?_); clear hQ138 hQ138Q
   refine cd hF140 (t := r120.2.1) (by kernel_rfl) (fun hb141 => ?_) (fun hb141 => ?_)
   ·
    have hp142 := hp122.1 hb141; clear hp122
    refine sqH ?_; intro hQ143Q hQ143
    refine s1 hF140 34 (.slice ao92 (x5 ++ [(c80.toNat : Int)]).length cap93) ?_; intro a144 hF145; clear hF140
    refine s1 hF145 35 (.int .u8 r120.1) ?_; intro a146 hF147; clear hF145
    refine sn hF147 hM126 (fun b => .slice (some ⟨b, 0, none⟩) 1 1) [.int .u8 r120.1] 5 (nog rfl _) rfl (by kernel_rfl) (by kernel_rfl) ?_; intro b148 a149 wd151 hF150 hM152; clear hF147 hM126
    have hc153 := hp142.1; have hp154 := hp142.2; clear hp142
    refine ap hF150 hM152 3 (T := (tyInt .u8)) (xs := x5 ++ [(c80.toNat : Int)]) (ys := [r120.1]) (ao := ao92) (cap := cap93) (ao2 := (some ⟨b148, 0, none⟩)) (cap2 := 1) (t := 22) (e := 5) (bytes := 1) (nog rfl _) rfl (by kernel_rfl) rfl (by kernel_rfl) (by kernel_rfl) (by kernel_rfl) rfl (Src.row hM152 0 rfl (RepAll.one (T := (tyInt .u8)) (x := r120.1) rfl)) hc153 ?_; intro ao155 cap156 a160 wd157 hnil158 hF161 hM159; clear hF150 hM152
    have hM162 : Mem w.heap.size [] w Z [.row b148 [.int .u8 r120.1] 5, .row b34 [.int .u8 r120.2.2.last, .int .i64 r120.2.2.n] 57, .row b85 [.int .u8 (c80.toNat : Int)] 5, .own (tyInt .u8) 5 ao155 cap156 ((x5 ++ [(c80.toNat : Int)]) ++ [r120.1])] Z124 wd157 := hM159; clear hM159
    refine s1 hF161 5 (.slice ao155 ((x5 ++ [(c80.toNat : Int)]) ++ [r120.1]).length cap156) ?_; intro a163 hF164; clear hF161
    refine nlH (hQ143 _ _ ?_); clear hQ143 hQ143Q
    refine rgH ?_; intro hQ165Q hQ165
    refine s1 hF164 38 (.int .u8 r120.1) ?_; intro a166 hF167; clear hF164
    have hc168 := hp154.1; have hp169 := hp154.2; clear hp154
    refine cl hF167 69 #[.pointer (some ⟨b34, 0, none⟩), .int .u8 r120.1] (nog rfl _) rfl (by kernel_rfl) (by kernel_rfl) ?_
    obtain ⟨r174, hr175⟩ : ∃ x, (cnextS r120.2.2 r120.1) = x := ⟨_, rfl⟩; have hp176 := hp169 r174 hr175; clear hp169
    have h9 := cnext_fun r120.2.2 r120.1 hc168 b34 _ _ _ _ _ _ (hM162.perm (pk 1 rfl)) hM162.fz; rw [hr175] at h9; refine h9.mono ?_; clear h9; rintro _ wd170 ⟨Z178, rfl, hle179, hm⟩; refine ⟨_, rfl, ?_⟩; intro a171 hF172; have hM173 := hm; clear hm hM162 hF167
    replace hleL47 := hleL47.mono hle179
    replace hle0 := Fz.le.trans hle0 hle179
    have hM180 : Mem w.heap.size [] w Z [.row b34 [.int .u8 r174.2.2.last, .int .i64 r174.2.2.n] 57, .row b148 [.int .u8 r120.1] 5, .row b85 [.int .u8 (c80.toNat : Int)] 5, .own (tyInt .u8) 5 ao155 cap156 ((x5 ++ [(c80.toNat : Int)]) ++ [r120.1])] Z178 wd170 := hM173; clear hM173
    refine nlH (hQ165 _ _ ?_); clear hQ165 hQ165Q
    refine ibn ?_
    refine thn ?_
    refine rgH ?_; intro hQ181Q hQ181
    refine s1 hF172 40 (.int .i64 (w64 (x17 + 1))) ?_; intro a182 hF183; clear hF172
    refine s1 hF183 17 (.int .i64 (w64 (x17 + 1))) ?_; intro a184 hF185; clear hF183
    refine nlH (hQ181 _ _ ?_); clear hQ181 hQ181Q
    refine rd ?_
    have hM186 := hM180.perm ((pk 3 rfl).trans (lpr.cons _))
    exact ⟨⟨(x5 ++ [(c80.toNat : Int)]) ++ [r120.1], w64 (x17 + 1), r174.2.2, ao155, cap156, Z178⟩, ⟨hp176.1, hleL47⟩, hp176.2, (hF185.reg).anyβ _ (by kernel_rfl), hM186.keep (List.Sublist.cons_cons _ (List.Sublist.cons_cons _ (List.Sublist.cons _ (List.Sublist.cons _ (List.Sublist.slnil)))))⟩
   ·
    have hp187 := hp122.2 hb141; clear hp122
    refine wp_skip ?_
    refine ibn ?_
    refine thn ?_
    refine rgH ?_; intro hQ188Q hQ188
    refine s1 hF140 40 (.int .i64 (w64 (x17 + 1))) ?_; intro a189 hF190; clear hF140
    refine s1 hF190 17 (.int .i64 (w64 (x17 + 1))) ?_; intro a191 hF192; clear hF190
    refine nlH (hQ188 _ _ ?_); clear hQ188 hQ188Q
    refine rd ?_
    have hM193 := hM126.perm ((pk 2 rfl).trans (lpr.cons _))
    exact ⟨⟨x5 ++ [(c80.toNat : Int)], w64 (x17 + 1), r120.2.2, ao92, cap93, Z124⟩, ⟨hp187.1, hleL47⟩, hp187.2, (hF192.reg).anyβ _ (by kernel_rfl), hM193.keep (List.Sublist.cons_cons _ (List.Sublist.cons_cons _ (List.Sublist.cons _ (List.Sublist.slnil))))⟩
  ·
   have hp194 := hp60.2 hb64; clear hp60
   refine wp_exit ?_
   refine thx ?_
   refine thx ?_
   refine ibx ?_
   refine thn ?_
   refine sqH ?_; intro hQ195Q hQ195
   refine s1 hF63 41 (.slice aox5 x5.length capx5) ?_; intro a196 hF197; clear hF63
   refine st hF197 (str (bstr x5)) (nog rfl _) rfl (by kernel_rfl) ((by obtain ⟨Z9, hle9, hon9, hs9⟩ := hM59.lend 0 rfl; exact bstr_op hF197 (g := []) (e := 5) (ao := aox5) (cap := capx5) (xs := x5) rfl (by kernel_rfl) (by kernel_rfl) (by kernel_rfl) (by kernel_rfl)  hs9 hon9 rfl)) ?_; intro a198 hF199; clear hF197
   refine s1 hF199 2 (str (bstr x5)) ?_; intro a200 hF201; clear hF199
   refine s1 hF201 3 (.int .i64 0) ?_; intro a202 hF203; clear hF201
   refine nlH (hQ195 _ _ ?_); clear hQ195 hQ195Q
   refine wp_ret ?_
   refine rt (fn := Tryz.f54) (v := .tuple #[str (bstr x5), .int .i64 0]) hF203 (re2 hF203 (fn := Tryz.f54) rfl (by kernel_rfl) (by kernel_rfl)) ?_
   exact ⟨(bstr x5, 0), rfl, hp194, hM59.below⟩

set_option maxRecDepth 100000 in
set_option maxHeartbeats 0 in
theorem sfixed_walk (u0 : List UInt8) (u1 : Int)  (Z : Fz) (w : World)  (hZ : Z.on w) {K : ((List UInt8) × Int) → Prop} (hp : sfixed_vc u0 u1 K) : Calls Tryz.prog 57 #[str u0, .int .u8 u1] w fun e w' => ∃ r : (List UInt8) × Int, e = .returned (.tuple #[str r.1, .int .i64 r.2]) ∧ K r ∧ Below w.heap.size w w' := by
 refine enter0 Tryz.func57 rfl rfl (by kernel_rfl) ?_; intro a0 hF0; have hM0 := Mem.start w Z hZ; have hle0 := Fz.le.refl Z
 refine sqH ?_; intro hQ1Q hQ1
 refine s1 hF0 4 (str []) ?_; intro a2 hF3; clear hF0
 refine s1 hF3 5 (.int .i64 0) ?_; intro a4 hF5; clear hF3
 refine nlH (hQ1 _ _ ?_); clear hQ1 hQ1Q
 refine wp_seq ?_
 refine sqH ?_; intro hQ6Q hQ6
 refine s1 hF5 10 (str u0) ?_; intro a7 hF8; clear hF5
 refine fcl hF8 hM0 (.int .i64 (bcheckS u0)) 31 #[str u0] (nog rfl _) rfl (by kernel_rfl) (fun _ => by kernel_rfl) (bcheck_fun u0 _ _ hM0.fz) ?_; intro a9 wd11 hF10 hM12; clear hF8 hM0
 refine s1 hF10 6 (.int .i64 (bcheckS u0)) ?_; intro a13 hF14; clear hF10
 refine nlH (hQ6 _ _ ?_); clear hQ6 hQ6Q
 refine sqH ?_; intro hQ15Q hQ15
 refine s1 hF14 12 (.int .i64 (bcheckS u0)) ?_; intro a16 hF17; clear hF14
 refine s1 hF17 13 (.bool ((bcheckS u0) != 0)) ?_; intro a18 hF19; clear hF17
 refine nlH (hQ15 _ _ ?_); clear hQ15 hQ15Q
 refine cd hF19 (t := (bcheckS u0) != 0) (by kernel_rfl) (fun hb20 => ?_) (fun hb20 => ?_)
 ·
  have hp21 := hp.1 hb20; clear hp
  refine sqH ?_; intro hQ22Q hQ22
  refine s1 hF19 14 (.int .i64 (bcheckS u0)) ?_; intro a23 hF24; clear hF19
  refine s1 hF24 4 (str []) ?_; intro a25 hF26; clear hF24
  refine s1 hF26 5 (.int .i64 (bcheckS u0)) ?_; intro a27 hF28; clear hF26
  refine nlH (hQ22 _ _ ?_); clear hQ22 hQ22Q
  refine wp_ret ?_
  refine thr ?_
  refine rt (fn := Tryz.f57) (v := .tuple #[str [], .int .i64 (bcheckS u0)]) hF28 (re2 hF28 (fn := Tryz.f57) rfl (by kernel_rfl) (by kernel_rfl)) ?_
  exact ⟨([], (bcheckS u0)), rfl, hp21, hM12.below⟩
 ·
  have hp29 := hp.2 hb20; clear hp
  refine wp_skip ?_
  refine thn ?_
  refine wp_seq ?_
  refine sqH ?_; intro hQ30Q hQ30
  refine s1 hF19 15 (.int .u8 u1) ?_; intro a31 hF32; clear hF19
  refine s1 hF32 16 (.bool (u1 != 48)) ?_; intro a33 hF34; clear hF32
  refine s1 hF34 17 (.bool (u1 != 48)) ?_; intro a35 hF36; clear hF34
  have hF37 := hF36.atom ((u1 != 48) == true) (by kernel_rfl); clear hF36
  refine gp hF37 18 0 [] (u1 != 48) (.int .u8 u1) rfl rfl ?_; intro a38 hF39; clear hF37
  refine gp hF39 19 0 [] (u1 != 48) (.bool (u1 != 49)) rfl rfl ?_; intro a40 hF41; clear hF39
  refine st hF41 (.bool ((u1 != 48) && (u1 != 49))) (nog rfl _) rfl (by kernel_rfl) (pk_and hF41 (g := []) (m := 0) (b := u1 != 48) (v := u1 != 49) rfl (by kernel_rfl) (by kernel_rfl) (by kernel_rfl) rfl) ?_; intro a42 hF43; clear hF41
  refine nlH (hQ30 _ _ ?_); clear hQ30 hQ30Q
  refine cd hF43 (t := (u1 != 48) && (u1 != 49)) (by kernel_rfl) (fun hb44 => ?_) (fun hb44 => ?_)
  ·
   have hp45 := hp29.1 hb44; clear hp29
   have hF46 : Fr 47 [] [] a42 := hF43.reg; clear hF43
   refine sqH ?_; intro hQ47Q hQ47
   refine s1 hF46 4 (str []) ?_; intro a48 hF49; clear hF46
   refine s1 hF49 5 (.int .i64 3) ?_; intro a50 hF51; clear hF49
   refine nlH (hQ47 _ _ ?_); clear hQ47 hQ47Q
   refine wp_ret ?_
   refine thr ?_
   refine rt (fn := Tryz.f57) (v := .tuple #[str [], .int .i64 3]) hF51 (re2 hF51 (fn := Tryz.f57) rfl (by kernel_rfl) (by kernel_rfl)) ?_
   exact ⟨([], 3), rfl, hp45, hM12.below⟩
  ·
   have hp52 := hp29.2 hb44; clear hp29
   refine wp_skip ?_
   refine thn ?_
   have hF53 : Fr 47 [] [⟨0, [], str u0⟩, ⟨1, [], .int .u8 u1⟩] a42 := hF43.reg; clear hF43
   refine sqH ?_; intro hQ54Q hQ54
   refine s1 hF53 7 (.slice none 0 0) ?_; intro a55 hF56; clear hF53
   refine nlH (hQ54 _ _ ?_); clear hQ54 hQ54Q
   refine sqH ?_; intro hQ57Q hQ57
   refine s1 hF56 21 (.int .u8 u1) ?_; intro a58 hF59; clear hF56
   refine s1 hF59 8 (.int .u8 u1) ?_; intro a60 hF61; clear hF59
   refine nlH (hQ57 _ _ ?_); clear hQ57 hQ57Q
   refine wp_seq ?_
   refine sqH ?_; intro hQ62Q hQ62
   refine s1 hF61 22 (str u0) ?_; intro a63 hF64; clear hF61
   refine s1 hF64 23 (.int .i64 (u0.length : Int)) ?_; intro a65 hF66; clear hF64
   refine s1 hF66 24 (.int .i64 0) ?_; intro a67 hF68; clear hF66
   refine nlH (hQ62 _ _ ?_); clear hQ62 hQ62Q
   refine wp_block ?_
   have hF69 : Fr 47 [] [⟨0, [], str u0⟩, ⟨7, [], .slice none 0 0⟩, ⟨8, [], .int .u8 u1⟩, ⟨23, [], .int .i64 (u0.length : Int)⟩, ⟨24, [], .int .i64 0⟩] a67 := hF68.reg; clear hF68
   have hM71 : Mem w.heap.size [] w Z [.own (tyInt .u8) 5 none 0 ([] : List Int)] Z wd11 := hM12.addNil (tyInt .u8) 5 (by decide); clear hM12
   have hF72 : Fr 47 [] [⟨0, [], str u0⟩, ⟨7, [], .slice none ([] : List Int).length 0⟩, ⟨8, [], .int .u8 u1⟩, ⟨23, [], .int .i64 (u0.length : Int)⟩, ⟨24, [], .int .i64 0⟩] a67 := hF69.reg; clear hF69
   obtain ⟨inv70, mu70, hI75, hr74⟩ := hp52
   refine lp (ι := (List Int) × Int × Int × (Option Addr) × Nat) (fun (s : (List Int) × Int × Int × (Option Addr) × Nat) => [⟨0, [], str u0⟩, ⟨7, [], .slice s.2.2.2.1 s.1.length s.2.2.2.2⟩, ⟨8, [], .int .u8 s.2.1⟩, ⟨23, [], .int .i64 (u0.length : Int)⟩, ⟨24, [], .int .i64 s.2.2.1⟩]) (fun (s : (List Int) × Int × Int × (Option Addr) × Nat) => [.own (tyInt .u8) 5 s.2.2.2.1 s.2.2.2.2 s.1]) (fun (s : (List Int) × Int × Int × (Option Addr) × Nat) => Z) (fun (s : (List Int) × Int × Int × (Option Addr) × Nat) => inv70 s.1 s.2.1 s.2.2.1) (fun (s : (List Int) × Int × Int × (Option Addr) × Nat) => mu70 s.1 s.2.1 s.2.2.1) ⟨([] : List Int), u1, 0, none, 0⟩ hI75 (by exact hF72.reg) (by exact hM71) ?_
   rintro ⟨x7, x8, x24, aox7, capx7⟩ hI73 a77 wd78 hF79 hM80
   have hF81 : Fr 47 [] [⟨0, [], str u0⟩, ⟨7, [], .slice aox7 x7.length capx7⟩, ⟨8, [], .int .u8 x8⟩, ⟨23, [], .int .i64 (u0.length : Int)⟩, ⟨24, [], .int .i64 x24⟩] a77 := hF79; clear hF79 hF72
   have hM82 : Mem w.heap.size [] w Z [.own (tyInt .u8) 5 aox7 capx7 x7] Z wd78 := hM80; clear hM80 hM71
   have hp83 := hr74 x7 x8 x24 hI73
   refine sqH ?_; intro hQ84Q hQ84
   refine s1 hF81 25 (.bool (decide (x24 < (u0.length : Int)))) ?_; intro a85 hF86; clear hF81
   refine nlH (hQ84 _ _ ?_); clear hQ84 hQ84Q
   refine wp_seq ?_
   refine cd hF86 (t := decide (x24 < (u0.length : Int))) (by kernel_rfl) (fun hb87 => ?_) (fun hb87 => ?_)
   ·
    have hp88 := hp83.1 hb87; clear hp83
    refine wp_skip ?_
    refine thn ?_
    refine wp_seq ?_
    refine wp_block ?_
    refine sqH ?_; intro hQ89Q hQ89
    refine s1 hF86 26 (.int .i64 x24) ?_; intro a90 hF91; clear hF86
    refine s1 hF91 9 (.int .i64 x24) ?_; intro a92 hF93; clear hF91
    refine nlH (hQ89 _ _ ?_); clear hQ89 hQ89Q
    refine wp_seq ?_
    refine sqH ?_; intro hQ94Q hQ94
    refine s1 hF93 27 (.int .i64 x24) ?_; intro a95 hF96; clear hF93
    refine s1 hF96 28 (.int .i64 (x24.tmod 4)) ?_; intro a97 hF98; clear hF96
    refine s1 hF98 29 (.bool ((x24.tmod 4) == 0)) ?_; intro a99 hF100; clear hF98
    refine nlH (hQ94 _ _ ?_); clear hQ94 hQ94Q
    refine cd hF100 (t := (x24.tmod 4) == 0) (by kernel_rfl) (fun hb101 => ?_) (fun hb101 => ?_)
    ·
     have hp102 := hp88.1 hb101; clear hp88
     refine rgH ?_; intro hQ103Q hQ103
     refine s1 hF100 30 (.slice aox7 x7.length capx7) ?_; intro a104 hF105; clear hF100
     refine s1 hF105 31 (.int .u8 x8) ?_; intro a106 hF107; clear hF105
     refine s1 hF107 32 (.int .u8 (w8 (97 - x8))) ?_; intro a108 hF109; clear hF107
     refine sn hF109 hM82 (fun b => .slice (some ⟨b, 0, none⟩) 1 1) [.int .u8 (w8 (97 - x8))] 5 (nog rfl _) rfl (by kernel_rfl) (by kernel_rfl) ?_; intro b110 a111 wd113 hF112 hM114; clear hF109 hM82
     have hc115 := hp102.1; have hp116 := hp102.2; clear hp102
     refine ap hF112 hM114 1 (T := (tyInt .u8)) (xs := x7) (ys := [w8 (97 - x8)]) (ao := aox7) (cap := capx7) (ao2 := (some ⟨b110, 0, none⟩)) (cap2 := 1) (t := 22) (e := 5) (bytes := 1) (nog rfl _) rfl (by kernel_rfl) rfl (by kernel_rfl) (by kernel_rfl) (by kernel_rfl) rfl (Src.row hM114 0 rfl (RepAll.one (T := (tyInt .u8)) (x := (w8 (97 - x8))) rfl)) hc115 ?_; intro ao117 cap118 a122 wd119 hnil120 hF123 hM121; clear hF112 hM114
     have hM124 : Mem w.heap.size [] w Z [.row b110 [.int .u8 (w8 (97 - x8))] 5, .own (tyInt .u8) 5 ao117 cap118 (x7 ++ [w8 (97 - x8)])] Z wd119 := hM121; clear hM121
     refine s1 hF123 7 (.slice ao117 (x7 ++ [w8 (97 - x8)]).length cap118) ?_; intro a125 hF126; clear hF123
     refine nlH (hQ103 _ _ ?_); clear hQ103 hQ103Q
     refine thn ?_
     refine sqH ?_; intro hQ127Q hQ127
     refine s1 hF126 35 (.slice ao117 (x7 ++ [w8 (97 - x8)]).length cap118) ?_; intro a128 hF129; clear hF126
     refine s1 hF129 36 (str u0) ?_; intro a130 hF131; clear hF129
     refine s1 hF131 37 (.int .i64 x24) ?_; intro a132 hF133; clear hF131
     have hc134 := hp116.1; have hp135 := hp116.2; clear hp116
     obtain ⟨c136, hq137⟩ : ∃ q, u0[x24.toNat]? = some q := ⟨_, List.getElem?_eq_getElem (by omega)⟩; have hp138 := hp135 c136 hq137
     refine st hF133 (.int .u8 (c136.toNat : Int)) (nog rfl _) rfl (by kernel_rfl) (stridx_run hF133 (k := .i64) rfl (by kernel_rfl) (by kernel_rfl) (by kernel_rfl) hc134.1 hq137) ?_; intro a139 hF140; clear hF133
     refine sn hF140 hM124 (fun b => .slice (some ⟨b, 0, none⟩) 1 1) [.int .u8 (c136.toNat : Int)] 5 (nog rfl _) rfl (by kernel_rfl) (by kernel_rfl) ?_; intro b141 a142 wd144 hF143 hM145; clear hF140 hM124
     have hc146 := hp138.1; have hp147 := hp138.2; clear hp138
     refine ap hF143 hM145 2 (T := (tyInt .u8)) (xs := x7 ++ [w8 (97 - x8)]) (ys := [(c136.toNat : Int)]) (ao := ao117) (cap := cap118) (ao2 := (some ⟨b141, 0, none⟩)) (cap2 := 1) (t := 22) (e := 5) (bytes := 1) (nog rfl _) rfl (by kernel_rfl) rfl (by kernel_rfl) (by kernel_rfl) (by kernel_rfl) rfl (Src.row hM145 0 rfl (RepAll.one (T := (tyInt .u8)) (x := (c136.toNat : Int)) rfl)) hc146 ?_; intro ao148 cap149 a153 wd150 hnil151 hF154 hM152; clear hF143 hM145
     have hM155 : Mem w.heap.size [] w Z [.row b141 [.int .u8 (c136.toNat : Int)] 5, .row b110 [.int .u8 (w8 (97 - x8))] 5, .own (tyInt .u8) 5 ao148 cap149 ((x7 ++ [w8 (97 - x8)]) ++ [(c136.toNat : Int)])] Z wd150 := hM152; clear hM152
     refine s1 hF154 7 (.slice ao148 ((x7 ++ [w8 (97 - x8)]) ++ [(c136.toNat : Int)]).length cap149) ?_; intro a156 hF157; clear hF154
     refine nlH (hQ127 _ _ ?_); clear hQ127 hQ127Q
     have hF158 : Fr 47 [] [⟨0, [], str u0⟩, ⟨7, [], .slice ao148 ((x7 ++ [w8 (97 - x8)]) ++ [(c136.toNat : Int)]).length cap149⟩, ⟨9, [], .int .i64 x24⟩, ⟨23, [], .int .i64 (u0.length : Int)⟩, ⟨24, [], .int .i64 x24⟩] a156 := hF157.reg; clear hF157
     refine rgH ?_; intro hQ159Q hQ159
     refine s1 hF158 41 (str u0) ?_; intro a160 hF161; clear hF158
     refine s1 hF161 42 (.int .i64 x24) ?_; intro a162 hF163; clear hF161
     have hc164 := hp147.1; have hp165 := hp147.2; clear hp147
     obtain ⟨c166, hq167⟩ : ∃ q, u0[x24.toNat]? = some q := ⟨_, List.getElem?_eq_getElem (by omega)⟩; have hp168 := hp165 c166 hq167
     refine st hF163 (.int .u8 (c166.toNat : Int)) (nog rfl _) rfl (by kernel_rfl) (stridx_run hF163 (k := .i64) rfl (by kernel_rfl) (by kernel_rfl) (by kernel_rfl) hc164.1 hq167) ?_; intro a169 hF170; clear hF163
     refine s1 hF170 8 (.int .u8 (c166.toNat : Int)) ?_; intro a171 hF172; clear hF170
     refine nlH (hQ159 _ _ ?_); clear hQ159 hQ159Q
     refine ibn ?_
     refine thn ?_
     refine rgH ?_; intro hQ173Q hQ173
     refine s1 hF172 44 (.int .i64 (w64 (x24 + 1))) ?_; intro a174 hF175; clear hF172
     refine s1 hF175 24 (.int .i64 (w64 (x24 + 1))) ?_; intro a176 hF177; clear hF175
     refine nlH (hQ173 _ _ ?_); clear hQ173 hQ173Q
     refine rd ?_
     exact ⟨⟨(x7 ++ [w8 (97 - x8)]) ++ [(c136.toNat : Int)], (c166.toNat : Int), w64 (x24 + 1), ao148, cap149⟩, hp168.1, hp168.2, (hF177.reg).anyβ _ (by kernel_rfl), hM155.keep (List.Sublist.cons _ (List.Sublist.cons _ (List.Sublist.cons_cons _ (List.Sublist.slnil))))⟩
    ·
     have hp178 := hp88.2 hb101; clear hp88
     refine wp_skip ?_
     refine thn ?_
     refine sqH ?_; intro hQ179Q hQ179
     refine s1 hF100 35 (.slice aox7 x7.length capx7) ?_; intro a180 hF181; clear hF100
     refine s1 hF181 36 (str u0) ?_; intro a182 hF183; clear hF181
     refine s1 hF183 37 (.int .i64 x24) ?_; intro a184 hF185; clear hF183
     have hc186 := hp178.1; have hp187 := hp178.2; clear hp178
     obtain ⟨c188, hq189⟩ : ∃ q, u0[x24.toNat]? = some q := ⟨_, List.getElem?_eq_getElem (by omega)⟩; have hp190 := hp187 c188 hq189
     refine st hF185 (.int .u8 (c188.toNat : Int)) (nog rfl _) rfl (by kernel_rfl) (stridx_run hF185 (k := .i64) rfl (by kernel_rfl) (by kernel_rfl) (by kernel_rfl) hc186.1 hq189) ?_; intro a191 hF192; clear hF185
     refine sn hF192 hM82 (fun b => .slice (some ⟨b, 0, none⟩) 1 1) [.int .u8 (c188.toNat : Int)] 5 (nog rfl _) rfl (by kernel_rfl) (by kernel_rfl) ?_; intro b193 a194 wd196 hF195 hM197; clear hF192 hM82
     have hc198 := hp190.1; have hp199 := hp190.2; clear hp190
     refine ap hF195 hM197 1 (T := (tyInt .u8)) (xs := x7) (ys := [(c188.toNat : Int)]) (ao := aox7) (cap := capx7) (ao2 := (some ⟨b193, 0, none⟩)) (cap2 := 1) (t := 22) (e := 5) (bytes := 1) (nog rfl _) rfl (by kernel_rfl) rfl (by kernel_rfl) (by kernel_rfl) (by kernel_rfl) rfl (Src.row hM197 0 rfl (RepAll.one (T := (tyInt .u8)) (x := (c188.toNat : Int)) rfl)) hc198 ?_; intro ao200 cap201 a205 wd202 hnil203 hF206 hM204; clear hF195 hM197
     have hM207 : Mem w.heap.size [] w Z [.row b193 [.int .u8 (c188.toNat : Int)] 5, .own (tyInt .u8) 5 ao200 cap201 (x7 ++ [(c188.toNat : Int)])] Z wd202 := hM204; clear hM204
     refine s1 hF206 7 (.slice ao200 (x7 ++ [(c188.toNat : Int)]).length cap201) ?_; intro a208 hF209; clear hF206
     refine nlH (hQ179 _ _ ?_); clear hQ179 hQ179Q
     refine rgH ?_; intro hQ210Q hQ210
     refine s1 hF209 41 (str u0) ?_; intro a211 hF212; clear hF209
     refine s1 hF212 42 (.int .i64 x24) ?_; intro a213 hF214; clear hF212
     have hc215 := hp199.1; have hp216 := hp199.2; clear hp199
     obtain ⟨c217, hq218⟩ : ∃ q, u0[x24.toNat]? = some q := ⟨_, List.getElem?_eq_getElem (by omega)⟩; have hp219 := hp216 c217 hq218
     refine st hF214 (.int .u8 (c217.toNat : Int)) (nog rfl _) rfl (by kernel_rfl) (stridx_run hF214 (k := .i64) rfl (by kernel_rfl) (by kernel_rfl) (by kernel_rfl) hc215.1 hq218) ?_; intro a220 hF221; clear hF214
     refine s1 hF221 8 (.int .u8 (c217.toNat : Int)) ?_; intro a222 hF223; clear hF221
     refine nlH (hQ210 _ _ ?_); clear hQ210 hQ210Q
     refine ibn ?_
     refine thn ?_
     have hF224 : Fr 47 [] [⟨0, [], str u0⟩, ⟨7, [], .slice ao200 (x7 ++ [(c188.toNat : Int)]).length cap201⟩, ⟨8, [], .int .u8 (c217.toNat : Int)⟩, ⟨23, [], .int .i64 (u0.length : Int)⟩, ⟨24, [], .int .i64 x24⟩] a222 := hF223.reg; clear hF223
     refine rgH ?_; intro hQ225Q hQ225
     refine s1 hF224 44 (.int .i64 (w64 (x24 + 1))) ?_; intro a226 hF227; clear hF224
     refine s1 hF227 24 (.int .i64 (w64 (x24 + 1))) ?_; intro a228 hF229; clear hF227
     refine nlH (hQ225 _ _ ?_); clear hQ225 hQ225Q
     refine rd ?_
     exact ⟨⟨x7 ++ [(c188.toNat : Int)], (c217.toNat : Int), w64 (x24 + 1), ao200, cap201⟩, hp219.1, hp219.2, (hF229.reg).anyβ _ (by kernel_rfl), hM207.keep (List.Sublist.cons _ (List.Sublist.cons_cons _ (List.Sublist.slnil)))⟩
   ·
    have hp230 := hp83.2 hb87; clear hp83
    refine wp_exit ?_
    refine thx ?_
    refine thx ?_
    refine ibx ?_
    refine thn ?_
    refine sqH ?_; intro hQ231Q hQ231
    refine s1 hF86 45 (.slice aox7 x7.length capx7) ?_; intro a232 hF233; clear hF86
    refine st hF233 (str (bstr x7)) (nog rfl _) rfl (by kernel_rfl) ((by obtain ⟨Z9, hle9, hon9, hs9⟩ := hM82.lend 0 rfl; exact bstr_op hF233 (g := []) (e := 5) (ao := aox7) (cap := capx7) (xs := x7) rfl (by kernel_rfl) (by kernel_rfl) (by kernel_rfl) (by kernel_rfl)  hs9 hon9 rfl)) ?_; intro a234 hF235; clear hF233
    refine s1 hF235 4 (str (bstr x7)) ?_; intro a236 hF237; clear hF235
    refine s1 hF237 5 (.int .i64 0) ?_; intro a238 hF239; clear hF237
    refine nlH (hQ231 _ _ ?_); clear hQ231 hQ231Q
    refine wp_ret ?_
    refine rt (fn := Tryz.f57) (v := .tuple #[str (bstr x7), .int .i64 0]) hF239 (re2 hF239 (fn := Tryz.f57) rfl (by kernel_rfl) (by kernel_rfl)) ?_
    exact ⟨(bstr x7, 0), rfl, hp230, hM82.below⟩

set_option maxRecDepth 100000 in
set_option maxHeartbeats 0 in
theorem bbytes_walk (u0 : List UInt8)  (Z : Fz) (w : World)  (hZ : Z.on w) {K : ((List Int) × Int) → Prop} (hp : bbytes_vc u0 K) : Calls Tryz.prog 37 #[str u0] w fun e w' => ∃ (r : (List Int) × Int) (ao1001 : Option Addr) (cap1002 : Nat) (Z' : Fz), e = .returned (.tuple #[.slice ao1001 r.1.length cap1002, .int .i64 r.2]) ∧ K r ∧ Mem w.heap.size [] w Z [.own (tyInt .u8) 5 ao1001 cap1002 r.1] Z' w' := by
 refine enter0 Tryz.func37 rfl rfl (by kernel_rfl) ?_; intro a0 hF0; have hM0 := Mem.start w Z hZ; have hle0 := Fz.le.refl Z
 refine sqH ?_; intro hQ1Q hQ1
 refine s1 hF0 2 (.slice none 0 0) ?_; intro a2 hF3; clear hF0
 refine s1 hF3 3 (.int .i64 0) ?_; intro a4 hF5; clear hF3
 refine nlH (hQ1 _ _ ?_); clear hQ1 hQ1Q
 refine wp_seq ?_
 refine sqH ?_; intro hQ6Q hQ6
 refine s1 hF5 6 (str u0) ?_; intro a7 hF8; clear hF5
 refine fcl hF8 hM0 (.int .i64 (bcheckS u0)) 31 #[str u0] (nog rfl _) rfl (by kernel_rfl) (fun _ => by kernel_rfl) (bcheck_fun u0 _ _ hM0.fz) ?_; intro a9 wd11 hF10 hM12; clear hF8 hM0
 refine s1 hF10 4 (.int .i64 (bcheckS u0)) ?_; intro a13 hF14; clear hF10
 refine nlH (hQ6 _ _ ?_); clear hQ6 hQ6Q
 refine sqH ?_; intro hQ15Q hQ15
 refine s1 hF14 8 (.int .i64 (bcheckS u0)) ?_; intro a16 hF17; clear hF14
 refine s1 hF17 9 (.bool ((bcheckS u0) != 0)) ?_; intro a18 hF19; clear hF17
 refine nlH (hQ15 _ _ ?_); clear hQ15 hQ15Q
 refine cd hF19 (t := (bcheckS u0) != 0) (by kernel_rfl) (fun hb20 => ?_) (fun hb20 => ?_)
 ·
  have hp21 := hp.1 hb20; clear hp
  refine sqH ?_; intro hQ22Q hQ22
  refine s1 hF19 10 (.int .i64 (bcheckS u0)) ?_; intro a23 hF24; clear hF19
  refine s1 hF24 2 (.slice none 0 0) ?_; intro a25 hF26; clear hF24
  refine s1 hF26 3 (.int .i64 (bcheckS u0)) ?_; intro a27 hF28; clear hF26
  refine nlH (hQ22 _ _ ?_); clear hQ22 hQ22Q
  refine wp_ret ?_
  refine thr ?_
  have hM29 : Mem w.heap.size [] w Z [.own (tyInt .u8) 5 none 0 ([] : List Int)] Z wd11 := hM12.addNil (tyInt .u8) 5 (by decide); clear hM12
  refine rt (fn := Tryz.f37) (v := .tuple #[.slice none ([] : List Int).length 0, .int .i64 (bcheckS u0)]) hF28 (re2 hF28 (fn := Tryz.f37) rfl (by kernel_rfl) (by kernel_rfl)) ?_
  exact ⟨(([] : List Int), (bcheckS u0)), none, 0, Z, rfl, hp21, hM29.keep (List.Sublist.cons_cons _ (List.Sublist.slnil))⟩
 ·
  have hp30 := hp.2 hb20; clear hp
  refine wp_skip ?_
  refine thn ?_
  refine wp_seq ?_
  refine sqH ?_; intro hQ31Q hQ31
  refine s1 hF19 11 (str u0) ?_; intro a32 hF33; clear hF19
  refine s1 hF33 12 (.int .i64 (u0.length : Int)) ?_; intro a34 hF35; clear hF33
  refine s1 hF35 13 (.int .i64 ((u0.length : Int).tmod 8)) ?_; intro a36 hF37; clear hF35
  refine s1 hF37 14 (.bool (((u0.length : Int).tmod 8) != 0)) ?_; intro a38 hF39; clear hF37
  refine nlH (hQ31 _ _ ?_); clear hQ31 hQ31Q
  refine cd hF39 (t := ((u0.length : Int).tmod 8) != 0) (by kernel_rfl) (fun hb40 => ?_) (fun hb40 => ?_)
  ·
   have hp41 := hp30.1 hb40; clear hp30
   refine sqH ?_; intro hQ42Q hQ42
   refine s1 hF39 2 (.slice none 0 0) ?_; intro a43 hF44; clear hF39
   refine s1 hF44 3 (.int .i64 4) ?_; intro a45 hF46; clear hF44
   refine nlH (hQ42 _ _ ?_); clear hQ42 hQ42Q
   refine wp_ret ?_
   refine thr ?_
   have hM47 : Mem w.heap.size [] w Z [.own (tyInt .u8) 5 none 0 ([] : List Int)] Z wd11 := hM12.addNil (tyInt .u8) 5 (by decide); clear hM12
   refine rt (fn := Tryz.f37) (v := .tuple #[.slice none ([] : List Int).length 0, .int .i64 4]) hF46 (re2 hF46 (fn := Tryz.f37) rfl (by kernel_rfl) (by kernel_rfl)) ?_
   exact ⟨(([] : List Int), 4), none, 0, Z, rfl, hp41, hM47.keep (List.Sublist.cons_cons _ (List.Sublist.slnil))⟩
  ·
   have hp48 := hp30.2 hb40; clear hp30
   refine wp_skip ?_
   refine thn ?_
   refine sqH ?_; intro hQ49Q hQ49
   refine s1 hF39 5 (.slice none 0 0) ?_; intro a50 hF51; clear hF39
   refine nlH (hQ49 _ _ ?_); clear hQ49 hQ49Q
   refine wp_seq ?_
   refine wp_block ?_
   have hF52 : Fr 28 [] [⟨0, [], str u0⟩, ⟨5, [], .slice none 0 0⟩] a50 := hF51.reg; clear hF51
   have hM54 : Mem w.heap.size [] w Z [.own (tyInt .u8) 5 none 0 ([] : List Int)] Z wd11 := hM12.addNil (tyInt .u8) 5 (by decide); clear hM12
   have hF55 : Fr 28 [] [⟨0, [], str u0⟩, ⟨5, [], .slice none ([] : List Int).length 0⟩] a50 := hF52.reg; clear hF52
   obtain ⟨inv53, mu53, hI58, hr57⟩ := hp48
   refine lp (ι := (List UInt8) × (List Int) × (Option Addr) × Nat) (fun (s : (List UInt8) × (List Int) × (Option Addr) × Nat) => [⟨0, [], str s.1⟩, ⟨5, [], .slice s.2.2.1 s.2.1.length s.2.2.2⟩]) (fun (s : (List UInt8) × (List Int) × (Option Addr) × Nat) => [.own (tyInt .u8) 5 s.2.2.1 s.2.2.2 s.2.1]) (fun (s : (List UInt8) × (List Int) × (Option Addr) × Nat) => Z) (fun (s : (List UInt8) × (List Int) × (Option Addr) × Nat) => inv53 s.1 s.2.1) (fun (s : (List UInt8) × (List Int) × (Option Addr) × Nat) => mu53 s.1 s.2.1) ⟨u0, ([] : List Int), none, 0⟩ hI58 (by exact hF55.reg) (by exact hM54) ?_
   rintro ⟨x0, x5, aox5, capx5⟩ hI56 a60 wd61 hF62 hM63
   have hF64 : Fr 28 [] [⟨0, [], str x0⟩, ⟨5, [], .slice aox5 x5.length capx5⟩] a60 := hF62; clear hF62 hF55
   have hM65 : Mem w.heap.size [] w Z [.own (tyInt .u8) 5 aox5 capx5 x5] Z wd61 := hM63; clear hM63 hM54
   have hp66 := hr57 x0 x5 hI56
   refine wp_seq ?_
   refine sqH ?_; intro hQ67Q hQ67
   refine s1 hF64 15 (str x0) ?_; intro a68 hF69; clear hF64
   refine s1 hF69 16 (.int .i64 (x0.length : Int)) ?_; intro a70 hF71; clear hF69
   refine s1 hF71 17 (.bool (decide ((x0.length : Int) > 0))) ?_; intro a72 hF73; clear hF71
   refine nlH (hQ67 _ _ ?_); clear hQ67 hQ67Q
   refine cd hF73 (t := decide ((x0.length : Int) > 0)) (by kernel_rfl) (fun hb74 => ?_) (fun hb74 => ?_)
   ·
    have hp75 := hp66.1 hb74; clear hp66
    refine wp_skip ?_
    refine thn ?_
    refine wp_block ?_
    refine sqH ?_; intro hQ76Q hQ76
    refine s1 hF73 18 (.slice aox5 x5.length capx5) ?_; intro a77 hF78; clear hF73
    refine s1 hF78 19 (str x0) ?_; intro a79 hF80; clear hF78
    have hc81 := hp75.1; have hp82 := hp75.2; clear hp75
    refine st hF80 (str (x0.take (8 : Int).toNat)) (nog rfl _) rfl (by kernel_rfl) (strslH_run hF80 (g := []) (k := .i64) rfl (by kernel_rfl) (by kernel_rfl) (by kernel_rfl) hc81 rfl) ?_; intro a83 hF84; clear hF80
    have hc85 := hp82.1; have hp86 := hp82.2; clear hp82
    refine fcl hF84 hM65 (.int .u64 (breadS (x0.take (8 : Int).toNat))) 67 #[str (x0.take (8 : Int).toNat)] (nog rfl _) rfl (by kernel_rfl) (fun _ => by kernel_rfl) (bread_fun (x0.take (8 : Int).toNat) hc85 _ _ hM65.fz) ?_; intro a87 wd89 hF88 hM90; clear hF84 hM65
    refine s1 hF88 22 (.int .u8 (w8 (breadS (x0.take (8 : Int).toNat)))) ?_; intro a91 hF92; clear hF88
    refine sn hF92 hM90 (fun b => .slice (some ⟨b, 0, none⟩) 1 1) [.int .u8 (w8 (breadS (x0.take (8 : Int).toNat)))] 5 (nog rfl _) rfl (by kernel_rfl) (by kernel_rfl) ?_; intro b93 a94 wd96 hF95 hM97; clear hF92 hM90
    have hc98 := hp86.1; have hp99 := hp86.2; clear hp86
    refine ap hF95 hM97 1 (T := (tyInt .u8)) (xs := x5) (ys := [w8 (breadS (x0.take (8 : Int).toNat))]) (ao := aox5) (cap := capx5) (ao2 := (some ⟨b93, 0, none⟩)) (cap2 := 1) (t := 22) (e := 5) (bytes := 1) (nog rfl _) rfl (by kernel_rfl) rfl (by kernel_rfl) (by kernel_rfl) (by kernel_rfl) rfl (Src.row hM97 0 rfl (RepAll.one (T := (tyInt .u8)) (x := (w8 (breadS (x0.take (8 : Int).toNat)))) rfl)) hc98 ?_; intro ao100 cap101 a105 wd102 hnil103 hF106 hM104; clear hF95 hM97
    have hM107 : Mem w.heap.size [] w Z [.row b93 [.int .u8 (w8 (breadS (x0.take (8 : Int).toNat)))] 5, .own (tyInt .u8) 5 ao100 cap101 (x5 ++ [w8 (breadS (x0.take (8 : Int).toNat))])] Z wd102 := hM104; clear hM104
    refine s1 hF106 5 (.slice ao100 (x5 ++ [w8 (breadS (x0.take (8 : Int).toNat))]).length cap101) ?_; intro a108 hF109; clear hF106
    refine nlH (hQ76 _ _ ?_); clear hQ76 hQ76Q
    refine rgH ?_; intro hQ110Q hQ110
    refine s1 hF109 25 (str x0) ?_; intro a111 hF112; clear hF109
    have hc113 := hp99.1; have hp114 := hp99.2; clear hp99
    refine st hF112 (str (x0.drop (8 : Int).toNat)) (nog rfl _) rfl (by kernel_rfl) (strslL_run hF112 (g := []) (k := .i64) rfl (by kernel_rfl) (by kernel_rfl) (by kernel_rfl) hc113 rfl) ?_; intro a115 hF116; clear hF112
    refine s1 hF116 0 (str (x0.drop (8 : Int).toNat)) ?_; intro a117 hF118; clear hF116
    refine nlH (hQ110 _ _ ?_); clear hQ110 hQ110Q
    refine ibn ?_
    refine rd ?_
    exact ⟨⟨x0.drop (8 : Int).toNat, x5 ++ [w8 (breadS (x0.take (8 : Int).toNat))], ao100, cap101⟩, hp114.1, hp114.2, (hF118.reg).anyβ _ (by kernel_rfl), hM107.keep (List.Sublist.cons _ (List.Sublist.cons_cons _ (List.Sublist.slnil)))⟩
   ·
    have hp119 := hp66.2 hb74; clear hp66
    refine wp_exit ?_
    refine thx ?_
    refine thx ?_
    refine ibx ?_
    refine thn ?_
    refine sqH ?_; intro hQ120Q hQ120
    refine s1 hF73 27 (.slice aox5 x5.length capx5) ?_; intro a121 hF122; clear hF73
    refine s1 hF122 2 (.slice aox5 x5.length capx5) ?_; intro a123 hF124; clear hF122
    refine s1 hF124 3 (.int .i64 0) ?_; intro a125 hF126; clear hF124
    refine nlH (hQ120 _ _ ?_); clear hQ120 hQ120Q
    refine wp_ret ?_
    refine rt (fn := Tryz.f37) (v := .tuple #[.slice aox5 x5.length capx5, .int .i64 0]) hF126 (re2 hF126 (fn := Tryz.f37) rfl (by kernel_rfl) (by kernel_rfl)) ?_
    exact ⟨(x5, 0), aox5, capx5, Z, rfl, hp119, hM65.keep (List.Sublist.cons_cons _ (List.Sublist.slnil))⟩

set_option maxRecDepth 100000 in
set_option maxHeartbeats 0 in
theorem beq_walk (u0 : List Int) (u1 : List Int) (ao1 : Option Addr) (cap2 : Nat) (ao4 : Option Addr) (cap5 : Nat) (Z : Fz) (w : World) (hs3 : SlR (tyInt .u8) Z ao1 cap2 u0) (hs6 : SlR (tyInt .u8) Z ao4 cap5 u1) (hZ : Z.on w) {K : Bool → Prop} (hp : beq_vc u0 u1 K) : Calls Tryz.prog 52 #[.slice ao1 u0.length cap2, .slice ao4 u1.length cap5] w fun e w' => ∃ r : Bool, e = .returned (.bool r) ∧ K r ∧ Below w.heap.size w w' := by
 refine enter0 Tryz.func52 rfl rfl (by kernel_rfl) ?_; intro a0 hF0; have hM0 := Mem.start w Z hZ; have hle0 := Fz.le.refl Z
 have hp7 := hp (hs3.small); clear hp
 have hp8 := hp7 (hs6.small); clear hp7
 refine sqH ?_; intro hQ9Q hQ9
 refine s1 hF0 4 (.bool false) ?_; intro a10 hF11; clear hF0
 refine nlH (hQ9 _ _ ?_); clear hQ9 hQ9Q
 refine wp_seq ?_
 refine sqH ?_; intro hQ12Q hQ12
 refine s1 hF11 6 (.slice ao1 u0.length cap2) ?_; intro a13 hF14; clear hF11
 refine s1 hF14 7 (.int .i64 (u0.length : Int)) ?_; intro a15 hF16; clear hF14
 refine s1 hF16 8 (.slice ao4 u1.length cap5) ?_; intro a17 hF18; clear hF16
 refine s1 hF18 9 (.int .i64 (u1.length : Int)) ?_; intro a19 hF20; clear hF18
 refine s1 hF20 10 (.bool ((u0.length : Int) != (u1.length : Int))) ?_; intro a21 hF22; clear hF20
 refine nlH (hQ12 _ _ ?_); clear hQ12 hQ12Q
 refine cd hF22 (t := (u0.length : Int) != (u1.length : Int)) (by kernel_rfl) (fun hb23 => ?_) (fun hb23 => ?_)
 ·
  have hp24 := hp8.1 hb23; clear hp8
  refine sqH ?_; intro hQ25Q hQ25
  refine s1 hF22 4 (.bool false) ?_; intro a26 hF27; clear hF22
  refine nlH (hQ25 _ _ ?_); clear hQ25 hQ25Q
  refine wp_ret ?_
  refine thr ?_
  refine rt (fn := Tryz.f52) (v := .bool false) hF27 (re1 hF27 (fn := Tryz.f52) rfl (by kernel_rfl)) ?_
  exact ⟨false, rfl, hp24, hM0.below⟩
 ·
  have hp28 := hp8.2 hb23; clear hp8
  refine wp_skip ?_
  refine thn ?_
  refine wp_seq ?_
  refine sqH ?_; intro hQ29Q hQ29
  refine s1 hF22 11 (.slice ao1 u0.length cap2) ?_; intro a30 hF31; clear hF22
  refine s1 hF31 12 (.int .i64 (u0.length : Int)) ?_; intro a32 hF33; clear hF31
  refine s1 hF33 13 (.int .i64 0) ?_; intro a34 hF35; clear hF33
  refine nlH (hQ29 _ _ ?_); clear hQ29 hQ29Q
  refine wp_block ?_
  have hF36 : Fr 26 [] [⟨0, [], .slice ao1 u0.length cap2⟩, ⟨1, [], .slice ao4 u1.length cap5⟩, ⟨12, [], .int .i64 (u0.length : Int)⟩, ⟨13, [], .int .i64 0⟩] a34 := hF35.reg; clear hF35
  have hF38 : Fr 26 [] [⟨0, [], .slice ao1 u0.length cap2⟩, ⟨1, [], .slice ao4 u1.length cap5⟩, ⟨12, [], .int .i64 (u0.length : Int)⟩, ⟨13, [], .int .i64 0⟩] a34 := hF36.reg; clear hF36
  obtain ⟨inv37, mu37, hI41, hr40⟩ := hp28
  refine lp (ι := Int) (fun (s : Int) => [⟨0, [], .slice ao1 u0.length cap2⟩, ⟨1, [], .slice ao4 u1.length cap5⟩, ⟨12, [], .int .i64 (u0.length : Int)⟩, ⟨13, [], .int .i64 s⟩]) (fun (s : Int) => []) (fun (s : Int) => Z) (fun (s : Int) => inv37 s) (fun (s : Int) => mu37 s) 0 hI41 (by exact hF38.reg) (by exact hM0) ?_
  rintro x13 hI39 a43 wd44 hF45 hM46
  have hF47 : Fr 26 [] [⟨0, [], .slice ao1 u0.length cap2⟩, ⟨1, [], .slice ao4 u1.length cap5⟩, ⟨12, [], .int .i64 (u0.length : Int)⟩, ⟨13, [], .int .i64 x13⟩] a43 := hF45; clear hF45 hF38
  have hM48 : Mem w.heap.size [] w Z [] Z wd44 := hM46; clear hM46 hM0
  have hp49 := hr40 x13 hI39
  refine sqH ?_; intro hQ50Q hQ50
  refine s1 hF47 14 (.bool (decide (x13 < (u0.length : Int)))) ?_; intro a51 hF52; clear hF47
  refine nlH (hQ50 _ _ ?_); clear hQ50 hQ50Q
  refine wp_seq ?_
  refine cd hF52 (t := decide (x13 < (u0.length : Int))) (by kernel_rfl) (fun hb53 => ?_) (fun hb53 => ?_)
  ·
   have hp54 := hp49.1 hb53; clear hp49
   refine wp_skip ?_
   refine thn ?_
   refine wp_seq ?_
   refine wp_block ?_
   refine sqH ?_; intro hQ55Q hQ55
   refine s1 hF52 15 (.int .i64 x13) ?_; intro a56 hF57; clear hF52
   refine s1 hF57 5 (.int .i64 x13) ?_; intro a58 hF59; clear hF57
   refine nlH (hQ55 _ _ ?_); clear hQ55 hQ55Q
   have hF60 : Fr 26 [] [⟨0, [], .slice ao1 u0.length cap2⟩, ⟨1, [], .slice ao4 u1.length cap5⟩, ⟨5, [], .int .i64 x13⟩, ⟨12, [], .int .i64 (u0.length : Int)⟩, ⟨13, [], .int .i64 x13⟩] a58 := hF59.reg; clear hF59
   refine sqQH mixed (by kernel_rfl) hM48 ?_; intro hQ61Q hQ61
   refine q1 hF60 16 (.slice ao1 u0.length cap2) ?_; intro a63 hF64; clear hF60
   refine q1 hF64 17 (.int .i64 x13) ?_; intro a66 hF67; clear hF64
   have hc69 := hp54.1; have hp70 := hp54.2; clear hp54
   refine qix hF67 (T := (tyInt .u8)) (xs := u0) hs3 x13 hc69 (k := .i64) (e := 5) (bytes := 1) (nog rfl _) rfl (by kernel_rfl) rfl (by kernel_rfl) (by kernel_rfl) (by kernel_rfl) ?_; intro b71 off72 cs73 q74 a78 hq75 hP76 hT77 hF79; clear hF67
   have hp80 := hp70 q74 hq75; clear hp70
   obtain rfl : cs73 = ([.int .u8 q74] : List Value) := hT77
   refine qst hF79 (.int .u8 q74) (nog rfl _) rfl (by kernel_rfl) (fun v81 hC => lz hF79 hC.fz hP76 0 (g := []) rfl (by kernel_rfl) (by kernel_rfl) (by kernel_rfl) rfl) ?_; intro a82 hF83; clear hF79
   refine q1 hF83 20 (.slice ao4 u1.length cap5) ?_; intro a85 hF86; clear hF83
   refine q1 hF86 21 (.int .i64 x13) ?_; intro a88 hF89; clear hF86
   have hc91 := hp80.1; have hp92 := hp80.2; clear hp80
   refine qix hF89 (T := (tyInt .u8)) (xs := u1) hs6 x13 hc91 (k := .i64) (e := 5) (bytes := 1) (nog rfl _) rfl (by kernel_rfl) rfl (by kernel_rfl) (by kernel_rfl) (by kernel_rfl) ?_; intro b93 off94 cs95 q96 a100 hq97 hP98 hT99 hF101; clear hF89
   have hp102 := hp92 q96 hq97; clear hp92
   obtain rfl : cs95 = ([.int .u8 q96] : List Value) := hT99
   refine qst hF101 (.int .u8 q96) (nog rfl _) rfl (by kernel_rfl) (fun v103 hC => lz hF101 hC.fz hP98 0 (g := []) rfl (by kernel_rfl) (by kernel_rfl) (by kernel_rfl) rfl) ?_; intro a104 hF105; clear hF101
   refine q1 hF105 24 (.bool (q74 != q96)) ?_; intro a107 hF108; clear hF105
   refine qnl (hQ61 _ ?_); clear hQ61 hQ61Q; intro wd109 hM110; clear hM48
   refine cd hF108 (t := q74 != q96) (by kernel_rfl) (fun hb111 => ?_) (fun hb111 => ?_)
   ·
    have hp112 := hp102.1 hb111; clear hp102
    refine sqH ?_; intro hQ113Q hQ113
    refine s1 hF108 4 (.bool false) ?_; intro a114 hF115; clear hF108
    refine nlH (hQ113 _ _ ?_); clear hQ113 hQ113Q
    refine wp_ret ?_
    refine ibr ?_
    refine thr ?_
    refine thr ?_
    refine ibr ?_
    refine thr ?_
    refine rt (fn := Tryz.f52) (v := .bool false) hF115 (re1 hF115 (fn := Tryz.f52) rfl (by kernel_rfl)) ?_
    exact ⟨false, rfl, hp112, hM110.below⟩
   ·
    have hp116 := hp102.2 hb111; clear hp102
    refine wp_skip ?_
    refine ibn ?_
    refine thn ?_
    refine rgH ?_; intro hQ117Q hQ117
    refine s1 hF108 25 (.int .i64 (w64 (x13 + 1))) ?_; intro a118 hF119; clear hF108
    refine s1 hF119 13 (.int .i64 (w64 (x13 + 1))) ?_; intro a120 hF121; clear hF119
    refine nlH (hQ117 _ _ ?_); clear hQ117 hQ117Q
    refine rd ?_
    exact ⟨w64 (x13 + 1), hp116.1, hp116.2, (hF121.reg).anyβ _ (by kernel_rfl), hM110.keep (List.Sublist.slnil)⟩
  ·
   have hp122 := hp49.2 hb53; clear hp49
   refine wp_exit ?_
   refine thx ?_
   refine thx ?_
   refine ibx ?_
   refine thn ?_
   refine sqH ?_; intro hQ123Q hQ123
   refine s1 hF52 4 (.bool true) ?_; intro a124 hF125; clear hF52
   refine nlH (hQ123 _ _ ?_); clear hQ123 hQ123Q
   refine wp_ret ?_
   refine rt (fn := Tryz.f52) (v := .bool true) hF125 (re1 hF125 (fn := Tryz.f52) rfl (by kernel_rfl)) ?_
   exact ⟨true, rfl, hp122, hM48.below⟩

set_option maxRecDepth 100000 in
set_option maxHeartbeats 0 in
theorem hasprefix0_walk (u0 : List UInt8) (u1 : List UInt8)  (Z : Fz) (w : World)  (hZ : Z.on w) {K : Bool → Prop} (hp : hasprefix0_vc u0 u1 K) : Calls Tryz.prog 77 #[str u0, str u1] w fun e w' => ∃ r : Bool, e = .returned (.bool r) ∧ K r ∧ Below w.heap.size w w' := by
 refine enter0 Tryz.func77 rfl rfl (by kernel_rfl) ?_; intro a0 hF0; have hM0 := Mem.start w Z hZ; have hle0 := Fz.le.refl Z
 refine sqH ?_; intro hQ1Q hQ1
 refine s1 hF0 4 (.bool false) ?_; intro a2 hF3; clear hF0
 refine nlH (hQ1 _ _ ?_); clear hQ1 hQ1Q
 refine sqH ?_; intro hQ4Q hQ4
 refine s1 hF3 5 (str u0) ?_; intro a5 hF6; clear hF3
 refine s1 hF6 6 (.int .i64 (u0.length : Int)) ?_; intro a7 hF8; clear hF6
 refine s1 hF8 7 (str u1) ?_; intro a9 hF10; clear hF8
 refine s1 hF10 8 (.int .i64 (u1.length : Int)) ?_; intro a11 hF12; clear hF10
 refine s1 hF12 9 (.bool (decide ((u0.length : Int) ≥ (u1.length : Int)))) ?_; intro a13 hF14; clear hF12
 refine s1 hF14 10 (.bool (decide ((u0.length : Int) ≥ (u1.length : Int)))) ?_; intro a15 hF16; clear hF14
 have hF17 := hF16.atom ((decide ((u0.length : Int) ≥ (u1.length : Int))) == true) (by kernel_rfl); clear hF16
 refine gp hF17 11 0 [] (decide ((u0.length : Int) ≥ (u1.length : Int))) (str u0) rfl rfl ?_; intro a18 hF19; clear hF17
 refine gp hF19 12 0 [] (decide ((u0.length : Int) ≥ (u1.length : Int))) (str u1) rfl rfl ?_; intro a20 hF21; clear hF19
 refine gp hF21 13 0 [] (decide ((u0.length : Int) ≥ (u1.length : Int))) (.int .i64 (u1.length : Int)) rfl rfl ?_; intro a22 hF23; clear hF21
 rcases Bool.eq_false_or_eq_true (decide ((u0.length : Int) ≥ (u1.length : Int))) with hb24 | hb24
 ·
  have hp25 := hp.1 hb24; clear hp
  have hF26 := hF23.reval (d := 10) (c := []) (v := .bool (decide ((u0.length : Int) ≥ (u1.length : Int)))) (by kernel_rfl) (.bool true) (by rw [hb24]); clear hF23
  have hF27 := hF26.setc (d := 11) (c := [0]) (v := str u0) (by kernel_rfl) (v' := str u0) (by rw [hb24]; kernel_rfl); clear hF26
  have hF28 := hF27.setc (d := 12) (c := [0]) (v := str u1) (by kernel_rfl) (v' := str u1) (by rw [hb24]; kernel_rfl); clear hF27
  have hF29 := hF28.setc (d := 13) (c := [0]) (v := .int .i64 (u1.length : Int)) (by kernel_rfl) (v' := .int .i64 (u1.length : Int)) (by rw [hb24]; kernel_rfl); clear hF28
  have hc30 := hp25.1; have hp31 := hp25.2; clear hp25
  refine st hF29 (str (u0.take (u1.length : Int).toNat)) (by rw [wanted_of hF29 (b := true) rfl rfl (by kernel_rfl) (by kernel_rfl)]; rfl) rfl (by kernel_rfl) (strslH_run hF29 (g := []) (k := .i64) rfl (by kernel_rfl) (by kernel_rfl) (by kernel_rfl) hc30 rfl) ?_; intro a32 hF33; clear hF29
  refine st hF33 (str u1) (by rw [wanted_of hF33 (b := true) rfl rfl (by kernel_rfl) (by kernel_rfl)]; rfl) rfl (by kernel_rfl) (p0 hF33 (by kernel_rfl)) ?_; intro a34 hF35; clear hF33
  refine st hF35 (.bool ((u0.take (u1.length : Int).toNat) == u1)) (by rw [wanted_of hF35 (b := true) rfl rfl (by kernel_rfl) (by kernel_rfl)]; rfl) rfl (by kernel_rfl) (strcmp_run hF35 (g := []) (op := .eql) rfl (by kernel_rfl) (by kernel_rfl) (by decide) rfl) ?_; intro a36 hF37; clear hF35
  refine s1 hF37 17 (.bool ((u0.take (u1.length : Int).toNat) == u1)) ?_; intro a38 hF39; clear hF37
  refine s1 hF39 4 (.bool ((u0.take (u1.length : Int).toNat) == u1)) ?_; intro a40 hF41; clear hF39
  refine nlH (hQ4 _ _ ?_); clear hQ4 hQ4Q
  refine wp_ret ?_
  refine rt (fn := Tryz.f77) (v := .bool ((u0.take (u1.length : Int).toNat) == u1)) hF41 (re1 hF41 (fn := Tryz.f77) rfl (by kernel_rfl)) ?_
  exact ⟨(u0.take (u1.length : Int).toNat) == u1, rfl, hp31, hM0.below⟩
 ·
  have hp42 := hp.2 hb24; clear hp
  have hF43 := hF23.reval (d := 10) (c := []) (v := .bool (decide ((u0.length : Int) ≥ (u1.length : Int)))) (by kernel_rfl) (.bool false) (by rw [hb24]); clear hF23
  have hF44 := hF43.setc (d := 11) (c := [0]) (v := str u0) (by kernel_rfl) (v' := undef) (by rw [hb24]; kernel_rfl); clear hF43
  have hF45 := hF44.setc (d := 12) (c := [0]) (v := str u1) (by kernel_rfl) (v' := undef) (by rw [hb24]; kernel_rfl); clear hF44
  have hF46 := hF45.setc (d := 13) (c := [0]) (v := .int .i64 (u1.length : Int)) (by kernel_rfl) (v' := undef) (by rw [hb24]; kernel_rfl); clear hF45
  refine sk hF46 (b := false) rfl rfl (by kernel_rfl) (by kernel_rfl) rfl rfl (by kernel_rfl) ?_; intro a47 hF48; clear hF46
  refine sk hF48 (b := false) rfl rfl (by kernel_rfl) (by kernel_rfl) rfl rfl (by kernel_rfl) ?_; intro a49 hF50; clear hF48
  refine sk hF50 (b := false) rfl rfl (by kernel_rfl) (by kernel_rfl) rfl rfl (by kernel_rfl) ?_; intro a51 hF52; clear hF50
  refine s1 hF52 17 (.bool false) ?_; intro a53 hF54; clear hF52
  refine s1 hF54 4 (.bool false) ?_; intro a55 hF56; clear hF54
  refine nlH (hQ4 _ _ ?_); clear hQ4 hQ4Q
  refine wp_ret ?_
  refine rt (fn := Tryz.f77) (v := .bool false) hF56 (re1 hF56 (fn := Tryz.f77) rfl (by kernel_rfl)) ?_
  exact ⟨false, rfl, hp42, hM0.below⟩
theorem hasprefix0_fun (u0 : List UInt8) (u1 : List UInt8)  (Z : Fz) (w : World)  (hZ : Z.on w) : Calls Tryz.prog 77 #[str u0, str u1] w fun e w' => e = .returned (.bool (hasprefix0 u0 u1)) ∧ Below w.heap.size w w' :=
  (hasprefix0_walk u0 u1  Z w  hZ (hasprefix0_ok u0 u1)).mono fun _ _ ⟨r, he, hk, hb⟩ => ⟨by subst hk; exact he, hb⟩

set_option maxRecDepth 100000 in
set_option maxHeartbeats 0 in
theorem hasprefix_walk (u0 : List UInt8) (u1 : List UInt8)  (Z : Fz) (w : World)  (hZ : Z.on w) {K : Bool → Prop} (hp : hasprefix_vc u0 u1 K) : Calls Tryz.prog 43 #[str u0, str u1] w fun e w' => ∃ r : Bool, e = .returned (.bool r) ∧ K r ∧ Below w.heap.size w w' := by
 refine enter0 Tryz.func43 rfl rfl (by kernel_rfl) ?_; intro a0 hF0; have hM0 := Mem.start w Z hZ; have hle0 := Fz.le.refl Z
 refine sqH ?_; intro hQ1Q hQ1
 refine s1 hF0 4 (.bool false) ?_; intro a2 hF3; clear hF0
 refine nlH (hQ1 _ _ ?_); clear hQ1 hQ1Q
 refine sqH ?_; intro hQ4Q hQ4
 refine s1 hF3 5 (str u0) ?_; intro a5 hF6; clear hF3
 refine s1 hF6 6 (str u1) ?_; intro a7 hF8; clear hF6
 refine fcl hF8 hM0 (.bool (hasprefix0 u0 u1)) 77 #[str u0, str u1] (nog rfl _) rfl (by kernel_rfl) (fun _ => by kernel_rfl) (hasprefix0_fun u0 u1 _ _ hM0.fz) ?_; intro a9 wd11 hF10 hM12; clear hF8 hM0
 refine s1 hF10 4 (.bool (hasprefix0 u0 u1)) ?_; intro a13 hF14; clear hF10
 refine nlH (hQ4 _ _ ?_); clear hQ4 hQ4Q
 refine wp_ret ?_
 refine rt (fn := Tryz.f43) (v := .bool (hasprefix0 u0 u1)) hF14 (re1 hF14 (fn := Tryz.f43) rfl (by kernel_rfl)) ?_
 exact ⟨(hasprefix0 u0 u1), rfl, hp, hM12.below⟩
theorem hasprefix_fun (u0 : List UInt8) (u1 : List UInt8)  (Z : Fz) (w : World)  (hZ : Z.on w) : Calls Tryz.prog 43 #[str u0, str u1] w fun e w' => e = .returned (.bool (hasprefix u0 u1)) ∧ Below w.heap.size w w' :=
  (hasprefix_walk u0 u1  Z w  hZ (hasprefix_ok u0 u1)).mono fun _ _ ⟨r, he, hk, hb⟩ => ⟨by subst hk; exact he, hb⟩

set_option maxRecDepth 100000 in
set_option maxHeartbeats 0 in
theorem fname_walk (u0 : Frame) (ao1 : Option Addr) (cap2 : Nat) (Z : Fz) (w : World) (hs3 : SlR (tyInt .u8) Z ao1 cap2 u0.Data) (hZ : Z.on w) {K : (List UInt8) → Prop} (hp : fname_vc u0 K) : Calls Tryz.prog 53 #[.agg #[.int .i64 u0.ID, .bool u0.Long, .bool u0.Fast, .bool u0.Remote, .int .i64 u0.Size, .slice ao1 u0.Data.length cap2]] w fun e w' => ∃ r : (List UInt8), e = .returned (str r) ∧ K r ∧ Below w.heap.size w w' := by
 refine enter0 Tryz.func53 rfl rfl (by kernel_rfl) ?_; intro a0 hF0; have hM0 := Mem.start w Z hZ; have hle0 := Fz.le.refl Z
 have hp4 := hp (hs3.small); clear hp
 refine sqH ?_; intro hQ5Q hQ5
 refine sn hF0 hM0 (fun b => .pointer (some ⟨b, 0, none⟩)) [.int .i64 u0.ID, .bool u0.Long, .bool u0.Fast, .bool u0.Remote, .int .i64 u0.Size, .slice ao1 u0.Data.length cap2] 24 (nog rfl _) rfl (by kernel_rfl) (by kernel_rfl) ?_; intro b6 a7 wd9 hF8 hM10; clear hF0 hM0
 refine s1 hF8 2 (str []) ?_; intro a11 hF12; clear hF8
 refine nlH (hQ5 _ _ ?_); clear hQ5 hQ5Q
 refine wp_seq ?_
 refine sqH ?_; intro hQ13Q hQ13
 refine s1 hF12 3 (.pointer (some ⟨b6, 1, none⟩)) ?_; intro a14 hF15; clear hF12
 refine l1 hF15 hM10 4 0 1 (.bool u0.Long) rfl rfl ?_; intro a16 hF17; clear hF15
 refine s1 hF17 5 (.bool (!u0.Long)) ?_; intro a18 hF19; clear hF17
 refine nlH (hQ13 _ _ ?_); clear hQ13 hQ13Q
 refine cd hF19 (t := !u0.Long) (by kernel_rfl) (fun hb20 => ?_) (fun hb20 => ?_)
 ·
  have hp21 := hp4.1 hb20; clear hp4
  have hF22 : Fr 30 [] [⟨1, [], .pointer (some ⟨b6, 0, none⟩)⟩] a18 := hF19.reg; clear hF19
  refine sqQH mixed (by kernel_rfl) hM10 ?_; intro hQ23Q hQ23
  refine q1 hF22 6 (.pointer (some ⟨b6, 0, none⟩)) ?_; intro a25 hF26; clear hF22
  refine qst hF26 (.int .i64 u0.ID) (nog rfl _) rfl (by kernel_rfl) (fun v27 hC => ld hF26 hC 0 (g := []) (b := b6) (off := 0) (cs := [.int .i64 u0.ID, .bool u0.Long, .bool u0.Fast, .bool u0.Remote, .int .i64 u0.Size, .slice ao1 u0.Data.length cap2]) (ty := 24) rfl (by kernel_rfl) (by kernel_rfl) (by kernel_rfl) (by kernel_rfl) rfl) ?_; intro a28 hF29; clear hF26
  refine q1 hF29 8 (.int .u64 (wu64 u0.ID)) ?_; intro a31 hF32; clear hF29
  have hc34 := hp21.1; have hp35 := hp21.2; clear hp21
  refine qcl hF32 (str (bwriteS (wu64 u0.ID) 11)) 71 #[.int .u64 (wu64 u0.ID), .int .i64 11] (nog rfl _) rfl (by kernel_rfl) (fun _ => by kernel_rfl) (qfc fun w hC => bwrite_fun (wu64 u0.ID) 11 hc34 _ _ hC.fz) ?_; intro a36 hF37; clear hF32
  refine q1 hF37 10 (.pointer (some ⟨b6, 3, none⟩)) ?_; intro a39 hF40; clear hF37
  refine qst hF40 (.bool u0.Remote) (nog rfl _) rfl (by kernel_rfl) (fun v41 hC => ld hF40 hC 0 (g := []) (b := b6) (off := 3) (cs := [.int .i64 u0.ID, .bool u0.Long, .bool u0.Fast, .bool u0.Remote, .int .i64 u0.Size, .slice ao1 u0.Data.length cap2]) (ty := 24) rfl (by kernel_rfl) (by kernel_rfl) (by kernel_rfl) (by kernel_rfl) rfl) ?_; intro a42 hF43; clear hF40
  refine qcl hF43 (str (fbit u0.Remote)) 87 #[.bool u0.Remote] (nog rfl _) rfl (by kernel_rfl) (fun _ => by kernel_rfl) (qfc fun w hC => fbit_fun u0.Remote _ _ hC.fz) ?_; intro a45 hF46; clear hF43
  have hc48 := hp35.1; have hp49 := hp35.2; clear hp35
  refine qst hF46 (str ((bwriteS (wu64 u0.ID) 11) ++ (fbit u0.Remote))) (nog rfl _) rfl (by kernel_rfl) (fun v47 hC => stradd_run hF46 (g := []) rfl (by kernel_rfl) (by kernel_rfl) hc48 rfl) ?_; intro a50 hF51; clear hF46
  have hc53 := hp49.1; have hp54 := hp49.2; clear hp49
  refine qst hF51 (str (((bwriteS (wu64 u0.ID) 11) ++ (fbit u0.Remote)) ++ ([48] : List UInt8))) (nog rfl _) rfl (by kernel_rfl) (fun v52 hC => stradd_run hF51 (g := []) rfl (by kernel_rfl) (by kernel_rfl) hc53 rfl) ?_; intro a55 hF56; clear hF51
  refine q1 hF56 2 (str (((bwriteS (wu64 u0.ID) 11) ++ (fbit u0.Remote)) ++ ([48] : List UInt8))) ?_; intro a58 hF59; clear hF56
  refine qnl (hQ23 _ ?_); clear hQ23 hQ23Q; intro wd60 hM61; clear hM10
  refine wp_ret ?_
  refine thr ?_
  refine rt (fn := Tryz.f53) (v := str (((bwriteS (wu64 u0.ID) 11) ++ (fbit u0.Remote)) ++ ([48] : List UInt8))) hF59 (re1 hF59 (fn := Tryz.f53) rfl (by kernel_rfl)) ?_
  exact ⟨((bwriteS (wu64 u0.ID) 11) ++ (fbit u0.Remote)) ++ ([48] : List UInt8), rfl, hp54, hM61.below⟩
 ·
  have hp62 := hp4.2 hb20; clear hp4
  refine wp_skip ?_
  refine thn ?_
  have hF63 : Fr 30 [] [⟨1, [], .pointer (some ⟨b6, 0, none⟩)⟩] a18 := hF19.reg; clear hF19
  refine sqQH mixed (by kernel_rfl) hM10 ?_; intro hQ64Q hQ64
  refine q1 hF63 15 (.pointer (some ⟨b6, 0, none⟩)) ?_; intro a66 hF67; clear hF63
  refine qst hF67 (.int .i64 u0.ID) (nog rfl _) rfl (by kernel_rfl) (fun v68 hC => ld hF67 hC 0 (g := []) (b := b6) (off := 0) (cs := [.int .i64 u0.ID, .bool u0.Long, .bool u0.Fast, .bool u0.Remote, .int .i64 u0.Size, .slice ao1 u0.Data.length cap2]) (ty := 24) rfl (by kernel_rfl) (by kernel_rfl) (by kernel_rfl) (by kernel_rfl) rfl) ?_; intro a69 hF70; clear hF67
  refine q1 hF70 17 (.int .i64 (bShr .i64 u0.ID 18)) ?_; intro a72 hF73; clear hF70
  refine q1 hF73 18 (.int .u64 (wu64 (bShr .i64 u0.ID 18))) ?_; intro a75 hF76; clear hF73
  have hc78 := hp62.1; have hp79 := hp62.2; clear hp62
  refine qcl hF76 (str (bwriteS (wu64 (bShr .i64 u0.ID 18)) 11)) 71 #[.int .u64 (wu64 (bShr .i64 u0.ID 18)), .int .i64 11] (nog rfl _) rfl (by kernel_rfl) (fun _ => by kernel_rfl) (qfc fun w hC => bwrite_fun (wu64 (bShr .i64 u0.ID 18)) 11 hc78 _ _ hC.fz) ?_; intro a80 hF81; clear hF76
  have hc83 := hp79.1; have hp84 := hp79.2; clear hp79
  refine qst hF81 (str ((bwriteS (wu64 (bShr .i64 u0.ID 18)) 11) ++ ([49, 49] : List UInt8))) (nog rfl _) rfl (by kernel_rfl) (fun v82 hC => stradd_run hF81 (g := []) rfl (by kernel_rfl) (by kernel_rfl) hc83 rfl) ?_; intro a85 hF86; clear hF81
  refine q1 hF86 21 (.pointer (some ⟨b6, 0, none⟩)) ?_; intro a88 hF89; clear hF86
  refine qst hF89 (.int .i64 u0.ID) (nog rfl _) rfl (by kernel_rfl) (fun v90 hC => ld hF89 hC 0 (g := []) (b := b6) (off := 0) (cs := [.int .i64 u0.ID, .bool u0.Long, .bool u0.Fast, .bool u0.Remote, .int .i64 u0.Size, .slice ao1 u0.Data.length cap2]) (ty := 24) rfl (by kernel_rfl) (by kernel_rfl) (by kernel_rfl) (by kernel_rfl) rfl) ?_; intro a91 hF92; clear hF89
  refine q1 hF92 23 (.int .u64 (wu64 u0.ID)) ?_; intro a94 hF95; clear hF92
  have hc97 := hp84.1; have hp98 := hp84.2; clear hp84
  refine qcl hF95 (str (bwriteS (wu64 u0.ID) 18)) 71 #[.int .u64 (wu64 u0.ID), .int .i64 18] (nog rfl _) rfl (by kernel_rfl) (fun _ => by kernel_rfl) (qfc fun w hC => bwrite_fun (wu64 u0.ID) 18 hc97 _ _ hC.fz) ?_; intro a99 hF100; clear hF95
  have hc102 := hp98.1; have hp103 := hp98.2; clear hp98
  refine qst hF100 (str (((bwriteS (wu64 (bShr .i64 u0.ID 18)) 11) ++ ([49, 49] : List UInt8)) ++ (bwriteS (wu64 u0.ID) 18))) (nog rfl _) rfl (by kernel_rfl) (fun v101 hC => stradd_run hF100 (g := []) rfl (by kernel_rfl) (by kernel_rfl) hc102 rfl) ?_; intro a104 hF105; clear hF100
  refine q1 hF105 26 (.pointer (some ⟨b6, 3, none⟩)) ?_; intro a107 hF108; clear hF105
  refine qst hF108 (.bool u0.Remote) (nog rfl _) rfl (by kernel_rfl) (fun v109 hC => ld hF108 hC 0 (g := []) (b := b6) (off := 3) (cs := [.int .i64 u0.ID, .bool u0.Long, .bool u0.Fast, .bool u0.Remote, .int .i64 u0.Size, .slice ao1 u0.Data.length cap2]) (ty := 24) rfl (by kernel_rfl) (by kernel_rfl) (by kernel_rfl) (by kernel_rfl) rfl) ?_; intro a110 hF111; clear hF108
  refine qcl hF111 (str (fbit u0.Remote)) 87 #[.bool u0.Remote] (nog rfl _) rfl (by kernel_rfl) (fun _ => by kernel_rfl) (qfc fun w hC => fbit_fun u0.Remote _ _ hC.fz) ?_; intro a113 hF114; clear hF111
  have hc116 := hp103.1; have hp117 := hp103.2; clear hp103
  refine qst hF114 (str ((((bwriteS (wu64 (bShr .i64 u0.ID 18)) 11) ++ ([49, 49] : List UInt8)) ++ (bwriteS (wu64 u0.ID) 18)) ++ (fbit u0.Remote))) (nog rfl _) rfl (by kernel_rfl) (fun v115 hC => stradd_run hF114 (g := []) rfl (by kernel_rfl) (by kernel_rfl) hc116 rfl) ?_; intro a118 hF119; clear hF114
  refine q1 hF119 2 (str ((((bwriteS (wu64 (bShr .i64 u0.ID 18)) 11) ++ ([49, 49] : List UInt8)) ++ (bwriteS (wu64 u0.ID) 18)) ++ (fbit u0.Remote))) ?_; intro a121 hF122; clear hF119
  refine qnl (hQ64 _ ?_); clear hQ64 hQ64Q; intro wd123 hM124; clear hM10
  refine wp_ret ?_
  refine rt (fn := Tryz.f53) (v := str ((((bwriteS (wu64 (bShr .i64 u0.ID 18)) 11) ++ ([49, 49] : List UInt8)) ++ (bwriteS (wu64 u0.ID) 18)) ++ (fbit u0.Remote))) hF122 (re1 hF122 (fn := Tryz.f53) rfl (by kernel_rfl)) ?_
  exact ⟨(((bwriteS (wu64 (bShr .i64 u0.ID 18)) 11) ++ ([49, 49] : List UInt8)) ++ (bwriteS (wu64 u0.ID) 18)) ++ (fbit u0.Remote), rfl, hp117, hM124.below⟩

set_option maxRecDepth 100000 in
set_option maxHeartbeats 0 in
theorem fcheckfr_walk (u0 : Frame) (ao1 : Option Addr) (cap2 : Nat) (Z : Fz) (w : World) (hs3 : SlR (tyInt .u8) Z ao1 cap2 u0.Data) (hZ : Z.on w) {K : Int → Prop} (hp : fcheckfr_vc u0 K) : Calls Tryz.prog 18 #[.agg #[.int .i64 u0.ID, .bool u0.Long, .bool u0.Fast, .bool u0.Remote, .int .i64 u0.Size, .slice ao1 u0.Data.length cap2]] w fun e w' => ∃ r : Int, e = .returned (.int .i64 r) ∧ K r ∧ Below w.heap.size w w' := by
 refine enter0 Tryz.func18 rfl rfl (by kernel_rfl) ?_; intro a0 hF0; have hM0 := Mem.start w Z hZ; have hle0 := Fz.le.refl Z
 have hp4 := hp (hs3.small); clear hp
 refine sqH ?_; intro hQ5Q hQ5
 refine sn hF0 hM0 (fun b => .pointer (some ⟨b, 0, none⟩)) [.int .i64 u0.ID, .bool u0.Long, .bool u0.Fast, .bool u0.Remote, .int .i64 u0.Size, .slice ao1 u0.Data.length cap2] 24 (nog rfl _) rfl (by kernel_rfl) (by kernel_rfl) ?_; intro b6 a7 wd9 hF8 hM10; clear hF0 hM0
 refine s1 hF8 2 (.int .i64 0) ?_; intro a11 hF12; clear hF8
 refine nlH (hQ5 _ _ ?_); clear hQ5 hQ5Q
 refine wp_seq ?_
 refine wp_block ?_
 refine sqH ?_; intro hQ13Q hQ13
 refine s1 hF12 4 (.pointer (some ⟨b6, 0, none⟩)) ?_; intro a14 hF15; clear hF12
 refine l1 hF15 hM10 5 0 0 (.int .i64 u0.ID) rfl rfl ?_; intro a16 hF17; clear hF15
 refine s1 hF17 6 (.bool (decide (u0.ID < 0))) ?_; intro a18 hF19; clear hF17
 refine s1 hF19 7 (.bool (decide (u0.ID < 0))) ?_; intro a20 hF21; clear hF19
 have hF22 := hF21.atom ((decide (u0.ID < 0)) == false) (by kernel_rfl); clear hF21
 refine gp hF22 8 0 [] (decide (u0.ID < 0)) (.pointer (some ⟨b6, 1, none⟩)) rfl rfl ?_; intro a23 hF24; clear hF22
 refine gd hF24 (.bool u0.Long) (m := 0) (cj := []) (bj := decide (u0.ID < 0)) rfl rfl (by kernel_rfl) rfl (by kernel_rfl) (by kernel_rfl) (by kernel_rfl) (fun hg => ld hF24 hM10 0 (g := [0]) (b := b6) (off := 1) (cs := [.int .i64 u0.ID, .bool u0.Long, .bool u0.Fast, .bool u0.Remote, .int .i64 u0.Size, .slice ao1 u0.Data.length cap2]) (ty := 24) rfl (by kernel_rfl) (by kernel_rfl) (by kernel_rfl) (by kernel_rfl) hg) ?_; intro a25 hF26; clear hF24
 refine gp hF26 10 0 [] (decide (u0.ID < 0)) (.bool (!u0.Long)) rfl rfl ?_; intro a27 hF28; clear hF26
 refine gp hF28 11 0 [] (decide (u0.ID < 0)) (.bool (!u0.Long)) rfl rfl ?_; intro a29 hF30; clear hF28
 have hF31 := hF30.atom ((!u0.Long) == true) (by kernel_rfl); clear hF30
 refine gp hF31 12 1 [0] (!u0.Long) (.pointer (some ⟨b6, 0, none⟩)) rfl rfl ?_; intro a32 hF33; clear hF31
 refine gd hF33 (.int .i64 u0.ID) (m := 1) (cj := [0]) (bj := !u0.Long) rfl rfl (by kernel_rfl) rfl (by kernel_rfl) (by kernel_rfl) (by kernel_rfl) (fun hg => ld hF33 hM10 0 (g := [1, 0]) (b := b6) (off := 0) (cs := [.int .i64 u0.ID, .bool u0.Long, .bool u0.Fast, .bool u0.Remote, .int .i64 u0.Size, .slice ao1 u0.Data.length cap2]) (ty := 24) rfl (by kernel_rfl) (by kernel_rfl) (by kernel_rfl) (by kernel_rfl) hg) ?_; intro a34 hF35; clear hF33
 refine gp hF35 14 1 [0] (!u0.Long) (.bool (decide (u0.ID > 2047))) rfl rfl ?_; intro a36 hF37; clear hF35
 refine gd hF37 (.bool ((!u0.Long) && (decide (u0.ID > 2047)))) (m := 0) (cj := []) (bj := decide (u0.ID < 0)) rfl rfl (by kernel_rfl) rfl (by kernel_rfl) (by kernel_rfl) (by kernel_rfl) (fun hg => pk_and hF37 (g := [0]) (m := 1) (b := !u0.Long) (v := decide (u0.ID > 2047)) rfl (by kernel_rfl) (by kernel_rfl) (by kernel_rfl) hg) ?_; intro a38 hF39; clear hF37
 refine st hF39 (.bool ((decide (u0.ID < 0)) || ((!u0.Long) && (decide (u0.ID > 2047))))) (nog rfl _) rfl (by kernel_rfl) (pk_or hF39 (g := []) (m := 0) (b := decide (u0.ID < 0)) (v := (!u0.Long) && (decide (u0.ID > 2047))) rfl (by kernel_rfl) (by kernel_rfl) (by kernel_rfl) rfl) ?_; intro a40 hF41; clear hF39
 refine s1 hF41 17 (.bool ((decide (u0.ID < 0)) || ((!u0.Long) && (decide (u0.ID > 2047))))) ?_; intro a42 hF43; clear hF41
 have hF44 := hF43.atom (((decide (u0.ID < 0)) || ((!u0.Long) && (decide (u0.ID > 2047)))) == false) (by kernel_rfl); clear hF43
 refine gp hF44 18 2 [] ((decide (u0.ID < 0)) || ((!u0.Long) && (decide (u0.ID > 2047)))) (.pointer (some ⟨b6, 0, none⟩)) rfl rfl ?_; intro a45 hF46; clear hF44
 refine gd hF46 (.int .i64 u0.ID) (m := 2) (cj := []) (bj := (decide (u0.ID < 0)) || ((!u0.Long) && (decide (u0.ID > 2047)))) rfl rfl (by kernel_rfl) rfl (by kernel_rfl) (by kernel_rfl) (by kernel_rfl) (fun hg => ld hF46 hM10 0 (g := [2]) (b := b6) (off := 0) (cs := [.int .i64 u0.ID, .bool u0.Long, .bool u0.Fast, .bool u0.Remote, .int .i64 u0.Size, .slice ao1 u0.Data.length cap2]) (ty := 24) rfl (by kernel_rfl) (by kernel_rfl) (by kernel_rfl) (by kernel_rfl) hg) ?_; intro a47 hF48; clear hF46
 refine gp hF48 20 2 [] ((decide (u0.ID < 0)) || ((!u0.Long) && (decide (u0.ID > 2047)))) (.bool (decide (u0.ID > 536870911))) rfl rfl ?_; intro a49 hF50; clear hF48
 refine st hF50 (.bool (((decide (u0.ID < 0)) || ((!u0.Long) && (decide (u0.ID > 2047)))) || (decide (u0.ID > 536870911)))) (nog rfl _) rfl (by kernel_rfl) (pk_or hF50 (g := []) (m := 2) (b := (decide (u0.ID < 0)) || ((!u0.Long) && (decide (u0.ID > 2047)))) (v := decide (u0.ID > 536870911)) rfl (by kernel_rfl) (by kernel_rfl) (by kernel_rfl) rfl) ?_; intro a51 hF52; clear hF50
 refine s1 hF52 3 (.bool (((decide (u0.ID < 0)) || ((!u0.Long) && (decide (u0.ID > 2047)))) || (decide (u0.ID > 536870911)))) ?_; intro a53 hF54; clear hF52
 refine nlH (hQ13 _ _ ?_); clear hQ13 hQ13Q
 refine cd hF54 (t := ((decide (u0.ID < 0)) || ((!u0.Long) && (decide (u0.ID > 2047)))) || (decide (u0.ID > 536870911))) (by kernel_rfl) (fun hb55 => ?_) (fun hb55 => ?_)
 ·
  have hp56 := hp4.1 hb55; clear hp4
  have hF57 : Fr 77 [] [] a53 := hF54.reg; clear hF54
  refine sqH ?_; intro hQ58Q hQ58
  refine s1 hF57 2 (.int .i64 3) ?_; intro a59 hF60; clear hF57
  refine nlH (hQ58 _ _ ?_); clear hQ58 hQ58Q
  refine wp_ret ?_
  refine ibr ?_
  refine thr ?_
  refine rt (fn := Tryz.f18) (v := .int .i64 3) hF60 (re1 hF60 (fn := Tryz.f18) rfl (by kernel_rfl)) ?_
  exact ⟨3, rfl, hp56, hM10.below⟩
 ·
  have hp61 := hp4.2 hb55; clear hp4
  have hF62 : Fr 77 [] [⟨1, [], .pointer (some ⟨b6, 0, none⟩)⟩] a53 := hF54.reg; clear hF54
  refine sqH ?_; intro hQ63Q hQ63
  refine s1 hF62 23 (.pointer (some ⟨b6, 3, none⟩)) ?_; intro a64 hF65; clear hF62
  refine l1 hF65 hM10 24 0 3 (.bool u0.Remote) rfl rfl ?_; intro a66 hF67; clear hF65
  refine s1 hF67 25 (.bool u0.Remote) ?_; intro a68 hF69; clear hF67
  have hF70 := hF69.atom (u0.Remote == true) (by kernel_rfl); clear hF69
  refine gp hF70 26 0 [] (u0.Remote) (.pointer (some ⟨b6, 2, none⟩)) rfl rfl ?_; intro a71 hF72; clear hF70
  refine gd hF72 (.bool u0.Fast) (m := 0) (cj := []) (bj := u0.Remote) rfl rfl (by kernel_rfl) rfl (by kernel_rfl) (by kernel_rfl) (by kernel_rfl) (fun hg => ld hF72 hM10 0 (g := [0]) (b := b6) (off := 2) (cs := [.int .i64 u0.ID, .bool u0.Long, .bool u0.Fast, .bool u0.Remote, .int .i64 u0.Size, .slice ao1 u0.Data.length cap2]) (ty := 24) rfl (by kernel_rfl) (by kernel_rfl) (by kernel_rfl) (by kernel_rfl) hg) ?_; intro a73 hF74; clear hF72
  refine gp hF74 28 0 [] (u0.Remote) (.bool u0.Fast) rfl rfl ?_; intro a75 hF76; clear hF74
  have hF77 := hF76.atom (u0.Fast == false) (by kernel_rfl); clear hF76
  refine gp hF77 29 1 [0] (u0.Fast) (.pointer (some ⟨b6, 5, none⟩)) rfl rfl ?_; intro a78 hF79; clear hF77
  refine gd hF79 (.slice ao1 u0.Data.length cap2) (m := 1) (cj := [0]) (bj := u0.Fast) rfl rfl (by kernel_rfl) rfl (by kernel_rfl) (by kernel_rfl) (by kernel_rfl) (fun hg => ld hF79 hM10 0 (g := [1, 0]) (b := b6) (off := 5) (cs := [.int .i64 u0.ID, .bool u0.Long, .bool u0.Fast, .bool u0.Remote, .int .i64 u0.Size, .slice ao1 u0.Data.length cap2]) (ty := 24) rfl (by kernel_rfl) (by kernel_rfl) (by kernel_rfl) (by kernel_rfl) hg) ?_; intro a80 hF81; clear hF79
  refine gp hF81 31 1 [0] (u0.Fast) (.int .i64 (u0.Data.length : Int)) rfl rfl ?_; intro a82 hF83; clear hF81
  refine gp hF83 32 1 [0] (u0.Fast) (.bool (decide ((u0.Data.length : Int) > 0))) rfl rfl ?_; intro a84 hF85; clear hF83
  refine gd hF85 (.bool (u0.Fast || (decide ((u0.Data.length : Int) > 0)))) (m := 0) (cj := []) (bj := u0.Remote) rfl rfl (by kernel_rfl) rfl (by kernel_rfl) (by kernel_rfl) (by kernel_rfl) (fun hg => pk_or hF85 (g := [0]) (m := 1) (b := u0.Fast) (v := decide ((u0.Data.length : Int) > 0)) rfl (by kernel_rfl) (by kernel_rfl) (by kernel_rfl) hg) ?_; intro a86 hF87; clear hF85
  refine st hF87 (.bool (u0.Remote && (u0.Fast || (decide ((u0.Data.length : Int) > 0))))) (nog rfl _) rfl (by kernel_rfl) (pk_and hF87 (g := []) (m := 0) (b := u0.Remote) (v := u0.Fast || (decide ((u0.Data.length : Int) > 0))) rfl (by kernel_rfl) (by kernel_rfl) (by kernel_rfl) rfl) ?_; intro a88 hF89; clear hF87
  refine s1 hF89 22 (.bool (u0.Remote && (u0.Fast || (decide ((u0.Data.length : Int) > 0))))) ?_; intro a90 hF91; clear hF89
  refine nlH (hQ63 _ _ ?_); clear hQ63 hQ63Q
  refine cd hF91 (t := u0.Remote && (u0.Fast || (decide ((u0.Data.length : Int) > 0)))) (by kernel_rfl) (fun hb92 => ?_) (fun hb92 => ?_)
  ·
   have hp93 := hp61.1 hb92; clear hp61
   have hF94 : Fr 77 [] [] a90 := hF91.reg; clear hF91
   refine sqH ?_; intro hQ95Q hQ95
   refine s1 hF94 2 (.int .i64 4) ?_; intro a96 hF97; clear hF94
   refine nlH (hQ95 _ _ ?_); clear hQ95 hQ95Q
   refine wp_ret ?_
   refine ibr ?_
   refine thr ?_
   refine rt (fn := Tryz.f18) (v := .int .i64 4) hF97 (re1 hF97 (fn := Tryz.f18) rfl (by kernel_rfl)) ?_
   exact ⟨4, rfl, hp93, hM10.below⟩
  ·
   have hp98 := hp61.2 hb92; clear hp61
   have hF99 : Fr 77 [] [⟨1, [], .pointer (some ⟨b6, 0, none⟩)⟩] a90 := hF91.reg; clear hF91
   refine sqH ?_; intro hQ100Q hQ100
   refine s1 hF99 36 (.pointer (some ⟨b6, 4, none⟩)) ?_; intro a101 hF102; clear hF99
   refine l1 hF102 hM10 37 0 4 (.int .i64 u0.Size) rfl rfl ?_; intro a103 hF104; clear hF102
   refine s1 hF104 38 (.bool (decide (u0.Size < 0))) ?_; intro a105 hF106; clear hF104
   refine s1 hF106 39 (.bool (decide (u0.Size < 0))) ?_; intro a107 hF108; clear hF106
   have hF109 := hF108.atom ((decide (u0.Size < 0)) == false) (by kernel_rfl); clear hF108
   refine gp hF109 40 0 [] (decide (u0.Size < 0)) (.pointer (some ⟨b6, 4, none⟩)) rfl rfl ?_; intro a110 hF111; clear hF109
   refine gd hF111 (.int .i64 u0.Size) (m := 0) (cj := []) (bj := decide (u0.Size < 0)) rfl rfl (by kernel_rfl) rfl (by kernel_rfl) (by kernel_rfl) (by kernel_rfl) (fun hg => ld hF111 hM10 0 (g := [0]) (b := b6) (off := 4) (cs := [.int .i64 u0.ID, .bool u0.Long, .bool u0.Fast, .bool u0.Remote, .int .i64 u0.Size, .slice ao1 u0.Data.length cap2]) (ty := 24) rfl (by kernel_rfl) (by kernel_rfl) (by kernel_rfl) (by kernel_rfl) hg) ?_; intro a112 hF113; clear hF111
   refine gp hF113 42 0 [] (decide (u0.Size < 0)) (.bool (decide (u0.Size > 8))) rfl rfl ?_; intro a114 hF115; clear hF113
   refine st hF115 (.bool ((decide (u0.Size < 0)) || (decide (u0.Size > 8)))) (nog rfl _) rfl (by kernel_rfl) (pk_or hF115 (g := []) (m := 0) (b := decide (u0.Size < 0)) (v := decide (u0.Size > 8)) rfl (by kernel_rfl) (by kernel_rfl) (by kernel_rfl) rfl) ?_; intro a116 hF117; clear hF115
   refine s1 hF117 44 (.bool ((decide (u0.Size < 0)) || (decide (u0.Size > 8)))) ?_; intro a118 hF119; clear hF117
   have hF120 := hF119.atom (((decide (u0.Size < 0)) || (decide (u0.Size > 8))) == false) (by kernel_rfl); clear hF119
   refine gp hF120 45 1 [] ((decide (u0.Size < 0)) || (decide (u0.Size > 8))) (.pointer (some ⟨b6, 3, none⟩)) rfl rfl ?_; intro a121 hF122; clear hF120
   refine gd hF122 (.bool u0.Remote) (m := 1) (cj := []) (bj := (decide (u0.Size < 0)) || (decide (u0.Size > 8))) rfl rfl (by kernel_rfl) rfl (by kernel_rfl) (by kernel_rfl) (by kernel_rfl) (fun hg => ld hF122 hM10 0 (g := [1]) (b := b6) (off := 3) (cs := [.int .i64 u0.ID, .bool u0.Long, .bool u0.Fast, .bool u0.Remote, .int .i64 u0.Size, .slice ao1 u0.Data.length cap2]) (ty := 24) rfl (by kernel_rfl) (by kernel_rfl) (by kernel_rfl) (by kernel_rfl) hg) ?_; intro a123 hF124; clear hF122
   refine gp hF124 47 1 [] ((decide (u0.Size < 0)) || (decide (u0.Size > 8))) (.bool (!u0.Remote)) rfl rfl ?_; intro a125 hF126; clear hF124
   refine gp hF126 48 1 [] ((decide (u0.Size < 0)) || (decide (u0.Size > 8))) (.bool (!u0.Remote)) rfl rfl ?_; intro a127 hF128; clear hF126
   have hF129 := hF128.atom ((!u0.Remote) == true) (by kernel_rfl); clear hF128
   refine gp hF129 49 2 [1] (!u0.Remote) (.pointer (some ⟨b6, 4, none⟩)) rfl rfl ?_; intro a130 hF131; clear hF129
   refine gd hF131 (.int .i64 u0.Size) (m := 2) (cj := [1]) (bj := !u0.Remote) rfl rfl (by kernel_rfl) rfl (by kernel_rfl) (by kernel_rfl) (by kernel_rfl) (fun hg => ld hF131 hM10 0 (g := [2, 1]) (b := b6) (off := 4) (cs := [.int .i64 u0.ID, .bool u0.Long, .bool u0.Fast, .bool u0.Remote, .int .i64 u0.Size, .slice ao1 u0.Data.length cap2]) (ty := 24) rfl (by kernel_rfl) (by kernel_rfl) (by kernel_rfl) (by kernel_rfl) hg) ?_; intro a132 hF133; clear hF131
   refine gp hF133 51 2 [1] (!u0.Remote) (.bool (u0.Size != 0)) rfl rfl ?_; intro a134 hF135; clear hF133
   refine gd hF135 (.bool ((!u0.Remote) && (u0.Size != 0))) (m := 1) (cj := []) (bj := (decide (u0.Size < 0)) || (decide (u0.Size > 8))) rfl rfl (by kernel_rfl) rfl (by kernel_rfl) (by kernel_rfl) (by kernel_rfl) (fun hg => pk_and hF135 (g := [1]) (m := 2) (b := !u0.Remote) (v := u0.Size != 0) rfl (by kernel_rfl) (by kernel_rfl) (by kernel_rfl) hg) ?_; intro a136 hF137; clear hF135
   refine st hF137 (.bool (((decide (u0.Size < 0)) || (decide (u0.Size > 8))) || ((!u0.Remote) && (u0.Size != 0)))) (nog rfl _) rfl (by kernel_rfl) (pk_or hF137 (g := []) (m := 1) (b := (decide (u0.Size < 0)) || (decide (u0.Size > 8))) (v := (!u0.Remote) && (u0.Size != 0)) rfl (by kernel_rfl) (by kernel_rfl) (by kernel_rfl) rfl) ?_; intro a138 hF139; clear hF137
   refine s1 hF139 35 (.bool (((decide (u0.Size < 0)) || (decide (u0.Size > 8))) || ((!u0.Remote) && (u0.Size != 0)))) ?_; intro a140 hF141; clear hF139
   refine nlH (hQ100 _ _ ?_); clear hQ100 hQ100Q
   refine cd hF141 (t := ((decide (u0.Size < 0)) || (decide (u0.Size > 8))) || ((!u0.Remote) && (u0.Size != 0))) (by kernel_rfl) (fun hb142 => ?_) (fun hb142 => ?_)
   ·
    have hp143 := hp98.1 hb142; clear hp98
    have hF144 : Fr 77 [] [] a140 := hF141.reg; clear hF141
    refine sqH ?_; intro hQ145Q hQ145
    refine s1 hF144 2 (.int .i64 3) ?_; intro a146 hF147; clear hF144
    refine nlH (hQ145 _ _ ?_); clear hQ145 hQ145Q
    refine wp_ret ?_
    refine ibr ?_
    refine thr ?_
    refine rt (fn := Tryz.f18) (v := .int .i64 3) hF147 (re1 hF147 (fn := Tryz.f18) rfl (by kernel_rfl)) ?_
    exact ⟨3, rfl, hp143, hM10.below⟩
   ·
    have hp148 := hp98.2 hb142; clear hp98
    have hF149 : Fr 77 [] [⟨1, [], .pointer (some ⟨b6, 0, none⟩)⟩] a140 := hF141.reg; clear hF141
    refine sqH ?_; intro hQ150Q hQ150
    refine s1 hF149 55 (.pointer (some ⟨b6, 5, none⟩)) ?_; intro a151 hF152; clear hF149
    refine l1 hF152 hM10 56 0 5 (.slice ao1 u0.Data.length cap2) rfl rfl ?_; intro a153 hF154; clear hF152
    refine s1 hF154 57 (.int .i64 (u0.Data.length : Int)) ?_; intro a155 hF156; clear hF154
    refine s1 hF156 58 (.bool (decide ((u0.Data.length : Int) > 64))) ?_; intro a157 hF158; clear hF156
    refine s1 hF158 59 (.bool (decide ((u0.Data.length : Int) > 64))) ?_; intro a159 hF160; clear hF158
    have hF161 := hF160.atom ((decide ((u0.Data.length : Int) > 64)) == false) (by kernel_rfl); clear hF160
    refine gp hF161 60 0 [] (decide ((u0.Data.length : Int) > 64)) (.pointer (some ⟨b6, 2, none⟩)) rfl rfl ?_; intro a162 hF163; clear hF161
    refine gd hF163 (.bool u0.Fast) (m := 0) (cj := []) (bj := decide ((u0.Data.length : Int) > 64)) rfl rfl (by kernel_rfl) rfl (by kernel_rfl) (by kernel_rfl) (by kernel_rfl) (fun hg => ld hF163 hM10 0 (g := [0]) (b := b6) (off := 2) (cs := [.int .i64 u0.ID, .bool u0.Long, .bool u0.Fast, .bool u0.Remote, .int .i64 u0.Size, .slice ao1 u0.Data.length cap2]) (ty := 24) rfl (by kernel_rfl) (by kernel_rfl) (by kernel_rfl) (by kernel_rfl) hg) ?_; intro a164 hF165; clear hF163
    refine gp hF165 62 0 [] (decide ((u0.Data.length : Int) > 64)) (.bool (!u0.Fast)) rfl rfl ?_; intro a166 hF167; clear hF165
    refine gp hF167 63 0 [] (decide ((u0.Data.length : Int) > 64)) (.bool (!u0.Fast)) rfl rfl ?_; intro a168 hF169; clear hF167
    have hF170 := hF169.atom ((!u0.Fast) == true) (by kernel_rfl); clear hF169
    refine gp hF170 64 1 [0] (!u0.Fast) (.pointer (some ⟨b6, 5, none⟩)) rfl rfl ?_; intro a171 hF172; clear hF170
    refine gd hF172 (.slice ao1 u0.Data.length cap2) (m := 1) (cj := [0]) (bj := !u0.Fast) rfl rfl (by kernel_rfl) rfl (by kernel_rfl) (by kernel_rfl) (by kernel_rfl) (fun hg => ld hF172 hM10 0 (g := [1, 0]) (b := b6) (off := 5) (cs := [.int .i64 u0.ID, .bool u0.Long, .bool u0.Fast, .bool u0.Remote, .int .i64 u0.Size, .slice ao1 u0.Data.length cap2]) (ty := 24) rfl (by kernel_rfl) (by kernel_rfl) (by kernel_rfl) (by kernel_rfl) hg) ?_; intro a173 hF174; clear hF172
    refine gp hF174 66 1 [0] (!u0.Fast) (.int .i64 (u0.Data.length : Int)) rfl rfl ?_; intro a175 hF176; clear hF174
    refine gp hF176 67 1 [0] (!u0.Fast) (.bool (decide ((u0.Data.length : Int) > 8))) rfl rfl ?_; intro a177 hF178; clear hF176
    refine gd hF178 (.bool ((!u0.Fast) && (decide ((u0.Data.length : Int) > 8)))) (m := 0) (cj := []) (bj := decide ((u0.Data.length : Int) > 64)) rfl rfl (by kernel_rfl) rfl (by kernel_rfl) (by kernel_rfl) (by kernel_rfl) (fun hg => pk_and hF178 (g := [0]) (m := 1) (b := !u0.Fast) (v := decide ((u0.Data.length : Int) > 8)) rfl (by kernel_rfl) (by kernel_rfl) (by kernel_rfl) hg) ?_; intro a179 hF180; clear hF178
    refine st hF180 (.bool ((decide ((u0.Data.length : Int) > 64)) || ((!u0.Fast) && (decide ((u0.Data.length : Int) > 8))))) (nog rfl _) rfl (by kernel_rfl) (pk_or hF180 (g := []) (m := 0) (b := decide ((u0.Data.length : Int) > 64)) (v := (!u0.Fast) && (decide ((u0.Data.length : Int) > 8))) rfl (by kernel_rfl) (by kernel_rfl) (by kernel_rfl) rfl) ?_; intro a181 hF182; clear hF180
    refine s1 hF182 54 (.bool ((decide ((u0.Data.length : Int) > 64)) || ((!u0.Fast) && (decide ((u0.Data.length : Int) > 8))))) ?_; intro a183 hF184; clear hF182
    refine nlH (hQ150 _ _ ?_); clear hQ150 hQ150Q
    refine cd hF184 (t := (decide ((u0.Data.length : Int) > 64)) || ((!u0.Fast) && (decide ((u0.Data.length : Int) > 8)))) (by kernel_rfl) (fun hb185 => ?_) (fun hb185 => ?_)
    ·
     have hp186 := hp148.1 hb185; clear hp148
     have hF187 : Fr 77 [] [] a183 := hF184.reg; clear hF184
     refine sqH ?_; intro hQ188Q hQ188
     refine s1 hF187 2 (.int .i64 2) ?_; intro a189 hF190; clear hF187
     refine nlH (hQ188 _ _ ?_); clear hQ188 hQ188Q
     refine wp_ret ?_
     refine ibr ?_
     refine thr ?_
     refine rt (fn := Tryz.f18) (v := .int .i64 2) hF190 (re1 hF190 (fn := Tryz.f18) rfl (by kernel_rfl)) ?_
     exact ⟨2, rfl, hp186, hM10.below⟩
    ·
     have hp191 := hp148.2 hb185; clear hp148
     have hF192 : Fr 77 [] [⟨1, [], .pointer (some ⟨b6, 0, none⟩)⟩] a183 := hF184.reg; clear hF184
     refine wp_seq (any_invE mixed [[], [], [1], [2], [0, 3], [4], [4, 5]] 7 (fun S a w1 => ∃ (ao197 : Option Addr) (cap198 : Nat) (ud70 : Value) (ud71 : Value) (ud72 : Value) (ud73 : Value) (ud74 : Value) (ud75 : Value) (ud76 : Value) (rh0 : Res) (rh1 : Res) (Z221 : Fz), Fz.le Z Z221 ∧ Fr 77 [] [⟨1, [], .pointer (some ⟨b6, 0, none⟩)⟩, ⟨70, [], ud70⟩, ⟨71, [], ud71⟩, ⟨72, [], ud72⟩, ⟨73, [], ud73⟩, ⟨74, [], ud74⟩, ⟨75, [], ud75⟩, ⟨76, [], ud76⟩] a ∧ Mem w.heap.size [] w Z [rh0, rh1] Z221 w1 ∧ (S 6 = true → ud70 = .bool (!(scontainsS fsizes (u0.Data.length : Int)))) ∧ (S 0 = true → ud71 = .slice ao197 fsizes.length cap198) ∧ (S 1 = true → ud72 = .pointer (some ⟨b6, 5, none⟩)) ∧ (S 2 = true → ud73 = .slice ao1 u0.Data.length cap2) ∧ (S 3 = true → ud74 = .int .i64 (u0.Data.length : Int)) ∧ (S 4 = true → ud75 = .bool (scontainsS fsizes (u0.Data.length : Int))) ∧ (S 5 = true → ud76 = .bool (!(scontainsS fsizes (u0.Data.length : Int)))) ∧ (rh0 = .row b6 [.int .i64 u0.ID, .bool u0.Long, .bool u0.Fast, .bool u0.Remote, .int .i64 u0.Size, .slice ao1 u0.Data.length cap2] 24) ∧ (S 0 = false → rh1 = .nil) ∧ (S 0 = true → S 4 = false → rh1 = .own (tyInt .i64) 3 ao197 cap198 fsizes) ∧ (S 4 = true → rh1 = .nil) ∧ (S 4 = true → SlR (tyInt .i64) Z221 ao197 cap198 fsizes)) ?h0 ?hs ?hE)
     case h0 =>
      have hF223 := hF192.any 70
      have hF224 := hF223.any 71
      have hF225 := hF224.any 72
      have hF226 := hF225.any 73
      have hF227 := hF226.any 74
      have hF228 := hF227.any 75
      have hF229 := hF228.any 76
      have hM230 := hM10.nilRes
      have hM231 := (hM230.perm ((pk 1 rfl).trans (lpr.cons _))).drew
      exact ⟨none, 0, a183.tmps.getD 70 undef, a183.tmps.getD 71 undef, a183.tmps.getD 72 undef, a183.tmps.getD 73 undef, a183.tmps.getD 74 undef, a183.tmps.getD 75 undef, a183.tmps.getD 76 undef, .row b6 [.int .i64 u0.ID, .bool u0.Long, .bool u0.Fast, .bool u0.Remote, .int .i64 u0.Size, .slice ao1 u0.Data.length cap2] 24, .nil, Z, Fz.le.refl _, hF229.reg, hM231, ff, ff, ff, ff, ff, ff, ff, rfl, kf, ff, ff, ff⟩
     case hs =>
      intro S hcl i o hil hi hSi hpre a w1 hI; refine Go.Sy.hid ?_; intro G hG; obtain ⟨ao197, cap198, ud70, ud71, ud72, ud73, ud74, ud75, ud76, rh0, rh1, Z221, hle222, hFx, hMx, cu70, cu71, cu72, cu73, cu74, cu75, cu76, cr0_0, cr1_0, cr1_1, cr1_2, hI⟩ := hI; have cf0 := hI; clear hI
      have hcase : i = 0 ∨ i = 1 ∨ i = 2 ∨ i = 3 ∨ i = 4 ∨ i = 5 ∨ i = 6 := by clear hi; omega
      rcases hcase with rfl | rfl | rfl | rfl | rfl | rfl | rfl
      ·
       obtain rfl := oj hi
       have hx0 := hSi
       have hx4 := ngF hcl 4 0 hx0
       have hx5 := ngF hcl 5 4 hx4
       have hx6 := ngF hcl 6 4 hx4
       obtain rfl := cr0_0
       obtain rfl := cr1_0 hx0
       refine hG (any_step ?_); clear hG G; intro A J hJ
       have hle0 := Fz.le.trans hle0 hle222
       have hzst := Fz.le.refl Z221
       have hs232 := hs3.mono hle222
       have hM233 := hMx.keep (List.Sublist.cons_cons _ (List.Sublist.cons _ (List.Sublist.slnil))); clear hMx
       refine cl hFx 35 #[] (nog rfl _) rfl (by kernel_rfl) (by kernel_rfl) ?_
       refine (fsizes_fun  _ _ hM233.fz).mono ?_; rintro _ wd234 ⟨ao238, cap239, Z240, rfl, hm⟩; refine ⟨_, rfl, ?_⟩; intro a235 hF236; have hM237 := hM233.callZ hm; have hle241 := hm.ext.le; clear hm hM233 hFx
       replace hzst := hzst.mono hle241
       replace hs232 := hs232.mono hle241
       replace hle0 := Fz.le.trans hle0 hle241
       have hM242 : Mem w.heap.size [] w Z [.own (tyInt .i64) 3 ao238 cap239 fsizes, .row b6 [.int .i64 u0.ID, .bool u0.Long, .bool u0.Fast, .bool u0.Remote, .int .i64 u0.Size, .slice ao1 u0.Data.length cap2] 24] Z240 wd234 := hM237; clear hM237
       refine nl (qnI (hJ _ _ ?_)); clear hJ J
       exact ⟨ao238, cap239, ud70, .slice ao238 fsizes.length cap239, ud72, ud73, ud74, ud75, ud76, .row b6 [.int .i64 u0.ID, .bool u0.Long, .bool u0.Fast, .bool u0.Remote, .int .i64 u0.Size, .slice ao1 u0.Data.length cap2] 24, .own (tyInt .i64) 3 ao238 cap239 fsizes, Z240, hle222.trans hzst, hF236.reg, hM242.perm ((pk 1 rfl).trans (lpr.cons _)), (nt hx6), kf, cu72, cu73, cu74, (nt hx4), (nt hx5), rfl, nu, kf2, (nt hx4), (nt hx4)⟩
      ·
       obtain rfl := oj hi
       have hx1 := hSi
       have hx2 := ngF hcl 2 1 hx1
       have hx3 := ngF hcl 3 2 hx2
       have hx4 := ngF hcl 4 3 hx3
       have hx5 := ngF hcl 5 4 hx4
       have hx6 := ngF hcl 6 4 hx4
       obtain rfl := cr0_0
       refine hG (any_step ?_); clear hG G; intro A J hJ
       have hle0 := Fz.le.trans hle0 hle222
       have hzst := Fz.le.refl Z221
       have hs244 := hs3.mono hle222
       refine s1 hFx 72 (.pointer (some ⟨b6, 5, none⟩)) ?_; intro a245 hF246; clear hFx
       refine nl (qnI (hJ _ _ ?_)); clear hJ J
       exact ⟨ao197, cap198, ud70, ud71, .pointer (some ⟨b6, 5, none⟩), ud73, ud74, ud75, ud76, .row b6 [.int .i64 u0.ID, .bool u0.Long, .bool u0.Fast, .bool u0.Remote, .int .i64 u0.Size, .slice ao1 u0.Data.length cap2] 24, rh1, Z221, hle222, hF246.reg, hMx.perm lpr, (nt hx6), cu71, kf, (nt hx2), (nt hx3), (nt hx4), (nt hx5), rfl, cr1_0, cr1_1, (nt hx4), (nt hx4)⟩
      ·
       obtain rfl := oj hi
       have hx1 := hpre 1 (by kernel_rfl)
       have hx2 := hSi
       have hx3 := ngF hcl 3 2 hx2
       have hx4 := ngF hcl 4 3 hx3
       have hx5 := ngF hcl 5 4 hx4
       have hx6 := ngF hcl 6 4 hx4
       obtain rfl := cu72 hx1
       obtain rfl := cr0_0
       refine hG (any_step ?_); clear hG G; intro A J hJ
       have hle0 := Fz.le.trans hle0 hle222
       have hzst := Fz.le.refl Z221
       have hs248 := hs3.mono hle222
       refine l1 hFx hMx 73 0 5 (.slice ao1 u0.Data.length cap2) rfl rfl ?_; intro a249 hF250; clear hFx
       refine nl (qnI (hJ _ _ ?_)); clear hJ J
       exact ⟨ao197, cap198, ud70, ud71, .pointer (some ⟨b6, 5, none⟩), .slice ao1 u0.Data.length cap2, ud74, ud75, ud76, .row b6 [.int .i64 u0.ID, .bool u0.Long, .bool u0.Fast, .bool u0.Remote, .int .i64 u0.Size, .slice ao1 u0.Data.length cap2] 24, rh1, Z221, hle222, hF250.reg, hMx.perm lpr, (nt hx6), cu71, kf, kf, (nt hx3), (nt hx4), (nt hx5), rfl, cr1_0, cr1_1, (nt hx4), (nt hx4)⟩
      ·
       obtain rfl := oj hi
       have hx2 := hpre 2 (by kernel_rfl)
       have hx1 := hcl 2 1 (by kernel_rfl) hx2
       have hx3 := hSi
       have hx4 := ngF hcl 4 3 hx3
       have hx5 := ngF hcl 5 4 hx4
       have hx6 := ngF hcl 6 4 hx4
       obtain rfl := cu72 hx1
       obtain rfl := cu73 hx2
       obtain rfl := cr0_0
       refine hG (any_step ?_); clear hG G; intro A J hJ
       have hle0 := Fz.le.trans hle0 hle222
       have hzst := Fz.le.refl Z221
       have hs252 := hs3.mono hle222
       refine s1 hFx 74 (.int .i64 (u0.Data.length : Int)) ?_; intro a253 hF254; clear hFx
       refine nl (qnI (hJ _ _ ?_)); clear hJ J
       exact ⟨ao197, cap198, ud70, ud71, .pointer (some ⟨b6, 5, none⟩), .slice ao1 u0.Data.length cap2, .int .i64 (u0.Data.length : Int), ud75, ud76, .row b6 [.int .i64 u0.ID, .bool u0.Long, .bool u0.Fast, .bool u0.Remote, .int .i64 u0.Size, .slice ao1 u0.Data.length cap2] 24, rh1, Z221, hle222, hF254.reg, hMx.perm lpr, (nt hx6), cu71, kf, kf, kf, (nt hx4), (nt hx5), rfl, cr1_0, cr1_1, (nt hx4), (nt hx4)⟩
      ·
       obtain rfl := oj hi
       have hx3 := hpre 3 (by kernel_rfl)
       have hx0 := hpre 0 (by kernel_rfl)
       have hx2 := hcl 3 2 (by kernel_rfl) hx3
       have hx1 := hcl 2 1 (by kernel_rfl) hx2
       have hx4 := hSi
       have hx5 := ngF hcl 5 4 hx4
       have hx6 := ngF hcl 6 4 hx4
       obtain rfl := cu71 hx0
       obtain rfl := cu72 hx1
       obtain rfl := cu73 hx2
       obtain rfl := cu74 hx3
       obtain rfl := cr0_0
       obtain rfl := cr1_1 hx0 hx4
       refine hG (any_step ?_); clear hG G; intro A J hJ
       have hle0 := Fz.le.trans hle0 hle222
       have hzst := Fz.le.refl Z221
       have hs256 := hs3.mono hle222
       obtain ⟨Z257, hle258, hM259, hs260⟩ := hMx.freeze 1 rfl
       replace hzst := hzst.mono hle258
       replace hs256 := hs256.mono hle258
       replace hle0 := Fz.le.trans hle0 hle258
       have hM261 : Mem w.heap.size [] w Z [.row b6 [.int .i64 u0.ID, .bool u0.Long, .bool u0.Fast, .bool u0.Remote, .int .i64 u0.Size, .slice ao1 u0.Data.length cap2] 24] Z257 w1 := hM259; clear hM259
       refine fcl hFx hM261 (.bool (scontainsS fsizes (u0.Data.length : Int))) 58 #[.slice ao197 fsizes.length cap198, .int .i64 (u0.Data.length : Int)] (nog rfl _) rfl (by kernel_rfl) (fun _ => by kernel_rfl) (scontains_fun fsizes (u0.Data.length : Int) ao197 cap198 _ _ hs260 hM261.fz) ?_; intro a262 wd264 hF263 hM265; clear hFx hM261
       refine nl (qnI (hJ _ _ ?_)); clear hJ J
       have hM266 := hM265.nilRes
       exact ⟨ao197, cap198, ud70, .slice ao197 fsizes.length cap198, .pointer (some ⟨b6, 5, none⟩), .slice ao1 u0.Data.length cap2, .int .i64 (u0.Data.length : Int), .bool (scontainsS fsizes (u0.Data.length : Int)), ud76, .row b6 [.int .i64 u0.ID, .bool u0.Long, .bool u0.Fast, .bool u0.Remote, .int .i64 u0.Size, .slice ao1 u0.Data.length cap2] 24, .nil, Z257, hle222.trans hzst, hF263.reg, hM266.perm ((pk 1 rfl).trans (lpr.cons _)), (nt hx6), kf, kf, kf, kf, kf, (nt hx5), rfl, (tn hx0), (fun _ => nu), kf, (fun _ => hs260)⟩
      ·
       obtain rfl := oj hi
       have hx4 := hpre 4 (by kernel_rfl)
       have hx3 := hcl 4 3 (by kernel_rfl) hx4
       have hx0 := hcl 4 0 (by kernel_rfl) hx4
       have hx2 := hcl 3 2 (by kernel_rfl) hx3
       have hx1 := hcl 2 1 (by kernel_rfl) hx2
       have hx5 := hSi
       have hx6 := ngF hcl 6 5 hx5
       obtain rfl := cu71 hx0
       obtain rfl := cu72 hx1
       obtain rfl := cu73 hx2
       obtain rfl := cu74 hx3
       obtain rfl := cu75 hx4
       obtain rfl := cr0_0
       obtain rfl := cr1_2 hx4
       refine hG (any_step ?_); clear hG G; intro A J hJ
       have hle0 := Fz.le.trans hle0 hle222
       have hzst := Fz.le.refl Z221
       have hs268 := hs3.mono hle222
       have hs269 := cf0 hx4
       have hM270 := hMx.keep (List.Sublist.cons_cons _ (List.Sublist.cons _ (List.Sublist.slnil))); clear hMx
       refine s1 hFx 76 (.bool (!(scontainsS fsizes (u0.Data.length : Int)))) ?_; intro a271 hF272; clear hFx
       refine nl (qnI (hJ _ _ ?_)); clear hJ J
       have hM273 := hM270.nilRes
       exact ⟨ao197, cap198, ud70, .slice ao197 fsizes.length cap198, .pointer (some ⟨b6, 5, none⟩), .slice ao1 u0.Data.length cap2, .int .i64 (u0.Data.length : Int), .bool (scontainsS fsizes (u0.Data.length : Int)), .bool (!(scontainsS fsizes (u0.Data.length : Int))), .row b6 [.int .i64 u0.ID, .bool u0.Long, .bool u0.Fast, .bool u0.Remote, .int .i64 u0.Size, .slice ao1 u0.Data.length cap2] 24, .nil, Z221, hle222, hF272.reg, hM273.perm ((pk 1 rfl).trans (lpr.cons _)), (nt hx6), kf, kf, kf, kf, kf, kf, rfl, (tn hx0), (fun _ => tn hx4), kf, (fun _ => hs269)⟩
      ·
       obtain rfl := oj hi
       have hx5 := hpre 5 (by kernel_rfl)
       have hx4 := hpre 4 (by kernel_rfl)
       have hx3 := hcl 4 3 (by kernel_rfl) hx4
       have hx0 := hcl 4 0 (by kernel_rfl) hx4
       have hx2 := hcl 3 2 (by kernel_rfl) hx3
       have hx1 := hcl 2 1 (by kernel_rfl) hx2
       have hx6 := hSi
       obtain rfl := cu71 hx0
       obtain rfl := cu72 hx1
       obtain rfl := cu73 hx2
       obtain rfl := cu74 hx3
       obtain rfl := cu75 hx4
       obtain rfl := cu76 hx5
       obtain rfl := cr0_0
       obtain rfl := cr1_2 hx4
       refine hG (any_step ?_); clear hG G; intro A J hJ
       have hle0 := Fz.le.trans hle0 hle222
       have hzst := Fz.le.refl Z221
       have hs275 := hs3.mono hle222
       have hs276 := cf0 hx4
       have hM277 := hMx.keep (List.Sublist.cons_cons _ (List.Sublist.cons _ (List.Sublist.slnil))); clear hMx
       refine s1 hFx 70 (.bool (!(scontainsS fsizes (u0.Data.length : Int)))) ?_; intro a278 hF279; clear hFx
       refine nl (qnI (hJ _ _ ?_)); clear hJ J
       have hM280 := hM277.nilRes
       exact ⟨ao197, cap198, .bool (!(scontainsS fsizes (u0.Data.length : Int))), .slice ao197 fsizes.length cap198, .pointer (some ⟨b6, 5, none⟩), .slice ao1 u0.Data.length cap2, .int .i64 (u0.Data.length : Int), .bool (scontainsS fsizes (u0.Data.length : Int)), .bool (!(scontainsS fsizes (u0.Data.length : Int))), .row b6 [.int .i64 u0.ID, .bool u0.Long, .bool u0.Fast, .bool u0.Remote, .int .i64 u0.Size, .slice ao1 u0.Data.length cap2] 24, .nil, Z221, hle222, hF279.reg, hM280.perm ((pk 1 rfl).trans (lpr.cons _)), kf, kf, kf, kf, kf, kf, kf, rfl, (tn hx0), (fun _ => tn hx4), kf, (fun _ => hs276)⟩
     case hE =>
      intro S hS a282 wd283 hI; refine Go.Sy.hid ?_; intro G hG; obtain ⟨ao197, cap198, ud70, ud71, ud72, ud73, ud74, ud75, ud76, rh0, rh1, Z221, hle222, hFx, hMx, cu70, cu71, cu72, cu73, cu74, cu75, cu76, cr0_0, cr1_0, cr1_1, cr1_2, hI⟩ := hI; have cf0 := hI; clear hI; refine hG ?_; clear hG G
      obtain rfl := cu70 (hS 6 (by decide))
      obtain rfl := cu71 (hS 0 (by decide))
      obtain rfl := cu72 (hS 1 (by decide))
      obtain rfl := cu73 (hS 2 (by decide))
      obtain rfl := cu74 (hS 3 (by decide))
      obtain rfl := cu75 (hS 4 (by decide))
      obtain rfl := cu76 (hS 5 (by decide))
      obtain rfl := cr0_0
      obtain rfl := cr1_2 (hS 4 (by decide))
      have hle0 := Fz.le.trans hle0 hle222
      have hs284 := hs3.mono hle222
      have hs285 := cf0 (hS 4 (by decide))
      have hMx := hMx.keep (List.Sublist.cons_cons _ (List.Sublist.cons _ (List.Sublist.slnil)))
      refine thn ?_
      refine cd hFx (t := !(scontainsS fsizes (u0.Data.length : Int))) (by kernel_rfl) (fun hb286 => ?_) (fun hb286 => ?_)
      ·
       have hp287 := hp191.1 hb286; clear hp191
       have hF288 : Fr 77 [] [] a282 := hFx.reg; clear hFx
       refine sqH ?_; intro hQ289Q hQ289
       refine s1 hF288 2 (.int .i64 4) ?_; intro a290 hF291; clear hF288
       refine nlH (hQ289 _ _ ?_); clear hQ289 hQ289Q
       refine wp_ret ?_
       refine ibr ?_
       refine thr ?_
       refine rt (fn := Tryz.f18) (v := .int .i64 4) hF291 (re1 hF291 (fn := Tryz.f18) rfl (by kernel_rfl)) ?_
       exact ⟨4, rfl, hp287, hMx.below⟩
      ·
       have hp292 := hp191.2 hb286; clear hp191
       refine wp_skip ?_
       refine ibn ?_
       refine thn ?_
       have hF293 : Fr 77 [] [] a282 := hFx.reg; clear hFx
       refine sqH ?_; intro hQ294Q hQ294
       refine s1 hF293 2 (.int .i64 0) ?_; intro a295 hF296; clear hF293
       refine nlH (hQ294 _ _ ?_); clear hQ294 hQ294Q
       refine wp_ret ?_
       refine rt (fn := Tryz.f18) (v := .int .i64 0) hF296 (re1 hF296 (fn := Tryz.f18) rfl (by kernel_rfl)) ?_
       exact ⟨0, rfl, hp292, hMx.below⟩
theorem fcheckfr_fun (u0 : Frame) (ao1 : Option Addr) (cap2 : Nat) (Z : Fz) (w : World) (hs3 : SlR (tyInt .u8) Z ao1 cap2 u0.Data) (hZ : Z.on w) : Calls Tryz.prog 18 #[.agg #[.int .i64 u0.ID, .bool u0.Long, .bool u0.Fast, .bool u0.Remote, .int .i64 u0.Size, .slice ao1 u0.Data.length cap2]] w fun e w' => e = .returned (.int .i64 (fcheckfr u0)) ∧ Below w.heap.size w w' :=
  (fcheckfr_walk u0 ao1 cap2 Z w hs3 hZ (fcheckfr_ok u0)).mono fun _ _ ⟨r, he, hk, hb⟩ => ⟨by subst hk; exact he, hb⟩

set_option maxRecDepth 100000 in
set_option maxHeartbeats 0 in
theorem fcount_walk (u0 : Int)  (Z : Fz) (w : World)  (hZ : Z.on w) {K : (List UInt8) → Prop} (hp : fcount_vc u0 K) : Calls Tryz.prog 55 #[.int .i64 u0] w fun e w' => ∃ r : (List UInt8), e = .returned (str r) ∧ K r ∧ Below w.heap.size w w' := by
 refine enter0 Tryz.func55 rfl rfl (by kernel_rfl) ?_; intro a0 hF0; have hM0 := Mem.start w Z hZ; have hle0 := Fz.le.refl Z
 refine sqH ?_; intro hQ1Q hQ1
 refine s1 hF0 2 (str []) ?_; intro a2 hF3; clear hF0
 refine nlH (hQ1 _ _ ?_); clear hQ1 hQ1Q
 refine sqH ?_; intro hQ4Q hQ4
 refine s1 hF3 5 (.int .i64 u0) ?_; intro a5 hF6; clear hF3
 refine s1 hF6 6 (.int .i64 (u0.tmod 8)) ?_; intro a7 hF8; clear hF6
 refine s1 hF8 7 (.int .i64 u0) ?_; intro a9 hF10; clear hF8
 refine s1 hF10 8 (.int .i64 (u0.tmod 8)) ?_; intro a11 hF12; clear hF10
 refine s1 hF12 9 (.int .i64 (bShr .i64 (u0.tmod 8) 1)) ?_; intro a13 hF14; clear hF12
 refine s1 hF14 10 (.int .i64 (bXor .i64 (u0.tmod 8) (bShr .i64 (u0.tmod 8) 1))) ?_; intro a15 hF16; clear hF14
 refine s1 hF16 3 (.int .i64 (bXor .i64 (u0.tmod 8) (bShr .i64 (u0.tmod 8) 1))) ?_; intro a17 hF18; clear hF16
 refine nlH (hQ4 _ _ ?_); clear hQ4 hQ4Q
 refine sqH ?_; intro hQ19Q hQ19
 refine s1 hF18 11 (.int .i64 (bXor .i64 (u0.tmod 8) (bShr .i64 (u0.tmod 8) 1))) ?_; intro a20 hF21; clear hF18
 refine s1 hF21 12 (.int .u64 (wu64 (bXor .i64 (u0.tmod 8) (bShr .i64 (u0.tmod 8) 1)))) ?_; intro a22 hF23; clear hF21
 have hc24 := hp.1; have hp25 := hp.2; clear hp
 refine fcl hF23 hM0 (str (bwriteS (wu64 (bXor .i64 (u0.tmod 8) (bShr .i64 (u0.tmod 8) 1))) 3)) 71 #[.int .u64 (wu64 (bXor .i64 (u0.tmod 8) (bShr .i64 (u0.tmod 8) 1))), .int .i64 3] (nog rfl _) rfl (by kernel_rfl) (fun _ => by kernel_rfl) (bwrite_fun (wu64 (bXor .i64 (u0.tmod 8) (bShr .i64 (u0.tmod 8) 1))) 3 hc24 _ _ hM0.fz) ?_; intro a26 wd28 hF27 hM29; clear hF23 hM0
 refine s1 hF27 4 (str (bwriteS (wu64 (bXor .i64 (u0.tmod 8) (bShr .i64 (u0.tmod 8) 1))) 3)) ?_; intro a30 hF31; clear hF27
 refine nlH (hQ19 _ _ ?_); clear hQ19 hQ19Q
 refine sqH ?_; intro hQ32Q hQ32
 refine s1 hF31 14 (str (bwriteS (wu64 (bXor .i64 (u0.tmod 8) (bShr .i64 (u0.tmod 8) 1))) 3)) ?_; intro a33 hF34; clear hF31
 refine s1 hF34 15 (str (bwriteS (wu64 (bXor .i64 (u0.tmod 8) (bShr .i64 (u0.tmod 8) 1))) 3)) ?_; intro a35 hF36; clear hF34
 have hc37 := hp25.1; have hp38 := hp25.2; clear hp25
 refine fcl hF36 hM29 (.int .i64 (count1S (bwriteS (wu64 (bXor .i64 (u0.tmod 8) (bShr .i64 (u0.tmod 8) 1))) 3) ([49] : List UInt8))) 42 #[str (bwriteS (wu64 (bXor .i64 (u0.tmod 8) (bShr .i64 (u0.tmod 8) 1))) 3), str ([49] : List UInt8)] (nog rfl _) rfl (by kernel_rfl) (fun _ => by kernel_rfl) (count1_fun (bwriteS (wu64 (bXor .i64 (u0.tmod 8) (bShr .i64 (u0.tmod 8) 1))) 3) ([49] : List UInt8) hc37 _ _ hM29.fz) ?_; intro a39 wd41 hF40 hM42; clear hF36 hM29
 refine s1 hF40 17 (.int .i64 ((count1S (bwriteS (wu64 (bXor .i64 (u0.tmod 8) (bShr .i64 (u0.tmod 8) 1))) 3) ([49] : List UInt8)).tmod 2)) ?_; intro a43 hF44; clear hF40
 refine s1 hF44 18 (.bool (((count1S (bwriteS (wu64 (bXor .i64 (u0.tmod 8) (bShr .i64 (u0.tmod 8) 1))) 3) ([49] : List UInt8)).tmod 2) == 1)) ?_; intro a45 hF46; clear hF44
 refine fcl hF46 hM42 (str (fbit (((count1S (bwriteS (wu64 (bXor .i64 (u0.tmod 8) (bShr .i64 (u0.tmod 8) 1))) 3) ([49] : List UInt8)).tmod 2) == 1))) 87 #[.bool (((count1S (bwriteS (wu64 (bXor .i64 (u0.tmod 8) (bShr .i64 (u0.tmod 8) 1))) 3) ([49] : List UInt8)).tmod 2) == 1)] (nog rfl _) rfl (by kernel_rfl) (fun _ => by kernel_rfl) (fbit_fun (((count1S (bwriteS (wu64 (bXor .i64 (u0.tmod 8) (bShr .i64 (u0.tmod 8) 1))) 3) ([49] : List UInt8)).tmod 2) == 1) _ _ hM42.fz) ?_; intro a47 wd49 hF48 hM50; clear hF46 hM42
 have hc51 := hp38.1; have hp52 := hp38.2; clear hp38
 refine st hF48 (str ((bwriteS (wu64 (bXor .i64 (u0.tmod 8) (bShr .i64 (u0.tmod 8) 1))) 3) ++ (fbit (((count1S (bwriteS (wu64 (bXor .i64 (u0.tmod 8) (bShr .i64 (u0.tmod 8) 1))) 3) ([49] : List UInt8)).tmod 2) == 1)))) (nog rfl _) rfl (by kernel_rfl) (stradd_run hF48 (g := []) rfl (by kernel_rfl) (by kernel_rfl) hc51 rfl) ?_; intro a53 hF54; clear hF48
 refine s1 hF54 2 (str ((bwriteS (wu64 (bXor .i64 (u0.tmod 8) (bShr .i64 (u0.tmod 8) 1))) 3) ++ (fbit (((count1S (bwriteS (wu64 (bXor .i64 (u0.tmod 8) (bShr .i64 (u0.tmod 8) 1))) 3) ([49] : List UInt8)).tmod 2) == 1)))) ?_; intro a55 hF56; clear hF54
 refine nlH (hQ32 _ _ ?_); clear hQ32 hQ32Q
 refine wp_ret ?_
 refine rt (fn := Tryz.f55) (v := str ((bwriteS (wu64 (bXor .i64 (u0.tmod 8) (bShr .i64 (u0.tmod 8) 1))) 3) ++ (fbit (((count1S (bwriteS (wu64 (bXor .i64 (u0.tmod 8) (bShr .i64 (u0.tmod 8) 1))) 3) ([49] : List UInt8)).tmod 2) == 1)))) hF56 (re1 hF56 (fn := Tryz.f55) rfl (by kernel_rfl)) ?_
 exact ⟨(bwriteS (wu64 (bXor .i64 (u0.tmod 8) (bShr .i64 (u0.tmod 8) 1))) 3) ++ (fbit (((count1S (bwriteS (wu64 (bXor .i64 (u0.tmod 8) (bShr .i64 (u0.tmod 8) 1))) 3) ([49] : List UInt8)).tmod 2) == 1)), rfl, hp52, hM50.below⟩

end Go.Proofs.YtmbdcehmeiiaoaaGreatDoor
