/- Texts put together (pure ones, or walks made by program). -/
import Derived.Test.YtdndfbamhnchfaaGreatDoorMR0
import Derived.Test.YtdndfbamhnchfaaGreatDoorMR1
import Derived.Test.YtdndfbamhnchfaaGreatDoorMR2
import Derived.Test.YtdndfbamhnchfaaGreatDoorRows
import Derived.Shelf.Lay
import Derived.Ground.NamesProg
import Derived.Shelf.Sort.Plain
import Derived.Shelf.Slices.In.SortNone
set_option linter.unusedVariables false
set_option linter.unusedSimpArgs false
set_option maxRecDepth 100000
set_option maxHeartbeats 0
namespace Go.Proofs.YtdndfbamhnchfaaGreatDoor
open Go.Sy Go.RowKit
abbrev e46Z (X : Signal) : List Value := [str X.Name, i6 X.Start, i6 X.Size, .bool X.Back, .bool X.Signed, i6 X.Mul, i6 X.Div, i6 X.Add, i6 X.Key]
theorem mixed : Tryz.prog.follows .mixedOrders = true := by kernel_rfl
theorem rdSignal : Rd Tryz.prog 46 tySignal okSignal := by
 refine ⟨fun enc w fuel cs x h hw => ?_⟩
 have hu : Tryz.prog.underlying 46 = some (.struct _) := Tryz.underlying46
 have hl := rd_len hu h (m := 9) (by kernel_rfl)
 obtain ⟨j, n, o⟩ := rd_field hu h hw 0 rfl (rd_str (P := Tryz.prog) (t := 9) (by kernel_rfl)) (m := 1) (by kernel_rfl) (off := 0) rfl
 have p : (cs.drop 0).take 1 = [str j] := n
 obtain ⟨i, q, r⟩ := rd_field hu h hw 1 rfl (rd_int (P := Tryz.prog) (t := 3) (k := .i64) (by kernel_rfl)) (m := 1) (by kernel_rfl) (off := 1) rfl
 have s : (cs.drop 1).take 1 = [i6 i] := q
 obtain ⟨g, u, v⟩ := rd_field hu h hw 2 rfl (rd_int (P := Tryz.prog) (t := 3) (k := .i64) (by kernel_rfl)) (m := 1) (by kernel_rfl) (off := 2) rfl
 have y : (cs.drop 2).take 1 = [i6 g] := u
 obtain ⟨f, A, B⟩ := rd_field hu h hw 3 rfl (rd_bool (P := Tryz.prog) (t := 4) (by kernel_rfl)) (m := 1) (by kernel_rfl) (off := 3) rfl
 have C : (cs.drop 3).take 1 = [.bool f] := A
 obtain ⟨e, D, E⟩ := rd_field hu h hw 4 rfl (rd_bool (P := Tryz.prog) (t := 4) (by kernel_rfl)) (m := 1) (by kernel_rfl) (off := 4) rfl
 have F : (cs.drop 4).take 1 = [.bool e] := D
 obtain ⟨d, G, H⟩ := rd_field hu h hw 5 rfl (rd_int (P := Tryz.prog) (t := 3) (k := .i64) (by kernel_rfl)) (m := 1) (by kernel_rfl) (off := 5) rfl
 have I : (cs.drop 5).take 1 = [i6 d] := G
 obtain ⟨c, J, K⟩ := rd_field hu h hw 6 rfl (rd_int (P := Tryz.prog) (t := 3) (k := .i64) (by kernel_rfl)) (m := 1) (by kernel_rfl) (off := 6) rfl
 have L : (cs.drop 6).take 1 = [i6 c] := J
 obtain ⟨b, M, N⟩ := rd_field hu h hw 7 rfl (rd_int (P := Tryz.prog) (t := 3) (k := .i64) (by kernel_rfl)) (m := 1) (by kernel_rfl) (off := 7) rfl
 have O : (cs.drop 7).take 1 = [i6 b] := M
 obtain ⟨a, Q, R⟩ := rd_field hu h hw 8 rfl (rd_int (P := Tryz.prog) (t := 3) (k := .i64) (by kernel_rfl)) (m := 1) (by kernel_rfl) (off := 8) rfl
 have S : (cs.drop 8).take 1 = [i6 a] := Q
 have z : cs.drop 9 = [] := List.drop_eq_nil_of_le (by omega)
 have T : cs.drop 8 = [i6 a] := by rw [show cs.drop 8 = (cs.drop 8).take 1 ++ cs.drop 9 from cut_at cs 8 1, S, z]; rfl
 have U : cs.drop 7 = [i6 b, i6 a] := by rw [show cs.drop 7 = (cs.drop 7).take 1 ++ cs.drop 8 from cut_at cs 7 1, O, T]; rfl
 have V : cs.drop 6 = [i6 c, i6 b, i6 a] := by rw [show cs.drop 6 = (cs.drop 6).take 1 ++ cs.drop 7 from cut_at cs 6 1, L, U]; rfl
 have W : cs.drop 5 = [i6 d, i6 c, i6 b, i6 a] := by rw [show cs.drop 5 = (cs.drop 5).take 1 ++ cs.drop 6 from cut_at cs 5 1, I, V]; rfl
 have X : cs.drop 4 = [.bool e, i6 d, i6 c, i6 b, i6 a] := by rw [show cs.drop 4 = (cs.drop 4).take 1 ++ cs.drop 5 from cut_at cs 4 1, F, W]; rfl
 have Y : cs.drop 3 = [.bool f, .bool e, i6 d, i6 c, i6 b, i6 a] := by rw [show cs.drop 3 = (cs.drop 3).take 1 ++ cs.drop 4 from cut_at cs 3 1, C, X]; rfl
 have Z : cs.drop 2 = [i6 g, .bool f, .bool e, i6 d, i6 c, i6 b, i6 a] := by rw [show cs.drop 2 = (cs.drop 2).take 1 ++ cs.drop 3 from cut_at cs 2 1, y, Y]; rfl
 have g1 : cs.drop 1 = [i6 i, i6 g, .bool f, .bool e, i6 d, i6 c, i6 b, i6 a] := by rw [show cs.drop 1 = (cs.drop 1).take 1 ++ cs.drop 2 from cut_at cs 1 1, s, Z]; rfl
 have l : cs.drop 0 = [str j, i6 i, i6 g, .bool f, .bool e, i6 d, i6 c, i6 b, i6 a] := by rw [show cs.drop 0 = (cs.drop 0).take 1 ++ cs.drop 1 from cut_at cs 0 1, p, g1]; rfl
 refine ⟨⟨j, i, g, f, e, d, c, b, a⟩, ?_, o, r, v, B, E, H, K, N, R⟩
 rw [List.drop_zero] at l
 exact l
theorem rdMessage : Rd Tryz.prog 24 tyMessage okMessage := by
 refine ⟨fun enc w fuel cs x h hw => ?_⟩
 have hu : Tryz.prog.underlying 24 = some (.struct _) := Tryz.underlying24
 have hl := rd_len hu h (m := 6) (by kernel_rfl)
 obtain ⟨j, o, p⟩ := rd_field hu h hw 0 rfl (rd_int (P := Tryz.prog) (t := 3) (k := .i64) (by kernel_rfl)) (m := 1) (by kernel_rfl) (off := 0) rfl
 have q : (cs.drop 0).take 1 = [i6 j] := o
 obtain ⟨i, r, s⟩ := rd_field hu h hw 1 rfl (rd_bool (P := Tryz.prog) (t := 4) (by kernel_rfl)) (m := 1) (by kernel_rfl) (off := 1) rfl
 have u : (cs.drop 1).take 1 = [.bool i] := r
 obtain ⟨g, v, y⟩ := rd_field hu h hw 2 rfl (rd_str (P := Tryz.prog) (t := 9) (by kernel_rfl)) (m := 1) (by kernel_rfl) (off := 2) rfl
 have A : (cs.drop 2).take 1 = [str g] := v
 obtain ⟨f, B, C⟩ := rd_field hu h hw 3 rfl (rd_int (P := Tryz.prog) (t := 3) (k := .i64) (by kernel_rfl)) (m := 1) (by kernel_rfl) (off := 3) rfl
 have D : (cs.drop 3).take 1 = [i6 f] := B
 obtain ⟨d, E, F⟩ := rd_field hu h hw 4 rfl (rd_int (P := Tryz.prog) (t := 3) (k := .i64) (by kernel_rfl)) (m := 1) (by kernel_rfl) (off := 4) rfl
 have G : (cs.drop 4).take 1 = [i6 d] := E
 obtain ⟨a, l, H⟩ := rd_field hu h hw 5 rfl (rd_slice (P := Tryz.prog) (t := 22) (e := 46) (bytes := 72) (by kernel_rfl) rdSignal) (m := 1) (by kernel_rfl) (off := 5) rfl
 obtain ⟨b, c, l, I⟩ := l
 have J : (cs.drop 5).take 1 = [.slice b a.length c] := l
 have z : cs.drop 6 = [] := List.drop_eq_nil_of_le (by omega)
 have K : cs.drop 5 = [.slice b a.length c] := by rw [show cs.drop 5 = (cs.drop 5).take 1 ++ cs.drop 6 from cut_at cs 5 1, J, z]; rfl
 have L : cs.drop 4 = [i6 d, .slice b a.length c] := by rw [show cs.drop 4 = (cs.drop 4).take 1 ++ cs.drop 5 from cut_at cs 4 1, G, K]; rfl
 have M : cs.drop 3 = [i6 f, i6 d, .slice b a.length c] := by rw [show cs.drop 3 = (cs.drop 3).take 1 ++ cs.drop 4 from cut_at cs 3 1, D, L]; rfl
 have N : cs.drop 2 = [str g, i6 f, i6 d, .slice b a.length c] := by rw [show cs.drop 2 = (cs.drop 2).take 1 ++ cs.drop 3 from cut_at cs 2 1, A, M]; rfl
 have O : cs.drop 1 = [.bool i, str g, i6 f, i6 d, .slice b a.length c] := by rw [show cs.drop 1 = (cs.drop 1).take 1 ++ cs.drop 2 from cut_at cs 1 1, u, N]; rfl
 have n : cs.drop 0 = [i6 j, .bool i, str g, i6 f, i6 d, .slice b a.length c] := by rw [show cs.drop 0 = (cs.drop 0).take 1 ++ cs.drop 1 from cut_at cs 0 1, q, O]; rfl
 refine ⟨⟨j, i, g, f, d, a⟩, ?_, p, s, y, C, F, H⟩
 rw [List.drop_zero] at n
 exact ⟨b, c, n, I⟩
theorem rdFrame : Rd Tryz.prog 27 tyFrame okFrame := by
 refine ⟨fun enc w fuel cs x h hw => ?_⟩
 have hu : Tryz.prog.underlying 27 = some (.struct _) := Tryz.underlying27
 have hl := rd_len hu h (m := 6) (by kernel_rfl)
 obtain ⟨j, o, p⟩ := rd_field hu h hw 0 rfl (rd_int (P := Tryz.prog) (t := 3) (k := .i64) (by kernel_rfl)) (m := 1) (by kernel_rfl) (off := 0) rfl
 have q : (cs.drop 0).take 1 = [i6 j] := o
 obtain ⟨i, r, s⟩ := rd_field hu h hw 1 rfl (rd_bool (P := Tryz.prog) (t := 4) (by kernel_rfl)) (m := 1) (by kernel_rfl) (off := 1) rfl
 have u : (cs.drop 1).take 1 = [.bool i] := r
 obtain ⟨g, v, y⟩ := rd_field hu h hw 2 rfl (rd_bool (P := Tryz.prog) (t := 4) (by kernel_rfl)) (m := 1) (by kernel_rfl) (off := 2) rfl
 have A : (cs.drop 2).take 1 = [.bool g] := v
 obtain ⟨f, B, C⟩ := rd_field hu h hw 3 rfl (rd_bool (P := Tryz.prog) (t := 4) (by kernel_rfl)) (m := 1) (by kernel_rfl) (off := 3) rfl
 have D : (cs.drop 3).take 1 = [.bool f] := B
 obtain ⟨d, E, F⟩ := rd_field hu h hw 4 rfl (rd_int (P := Tryz.prog) (t := 3) (k := .i64) (by kernel_rfl)) (m := 1) (by kernel_rfl) (off := 4) rfl
 have G : (cs.drop 4).take 1 = [i6 d] := E
 obtain ⟨a, l, H⟩ := rd_field hu h hw 5 rfl (rd_slice (P := Tryz.prog) (t := 25) (e := 5) (bytes := 1) (by kernel_rfl) (rd_int (P := Tryz.prog) (t := 5) (k := .u8) (by kernel_rfl))) (m := 1) (by kernel_rfl) (off := 5) rfl
 obtain ⟨b, c, l, I⟩ := l
 have J : (cs.drop 5).take 1 = [.slice b a.length c] := l
 have z : cs.drop 6 = [] := List.drop_eq_nil_of_le (by omega)
 have K : cs.drop 5 = [.slice b a.length c] := by rw [show cs.drop 5 = (cs.drop 5).take 1 ++ cs.drop 6 from cut_at cs 5 1, J, z]; rfl
 have L : cs.drop 4 = [i6 d, .slice b a.length c] := by rw [show cs.drop 4 = (cs.drop 4).take 1 ++ cs.drop 5 from cut_at cs 4 1, G, K]; rfl
 have M : cs.drop 3 = [.bool f, i6 d, .slice b a.length c] := by rw [show cs.drop 3 = (cs.drop 3).take 1 ++ cs.drop 4 from cut_at cs 3 1, D, L]; rfl
 have N : cs.drop 2 = [.bool g, .bool f, i6 d, .slice b a.length c] := by rw [show cs.drop 2 = (cs.drop 2).take 1 ++ cs.drop 3 from cut_at cs 2 1, A, M]; rfl
 have O : cs.drop 1 = [.bool i, .bool g, .bool f, i6 d, .slice b a.length c] := by rw [show cs.drop 1 = (cs.drop 1).take 1 ++ cs.drop 2 from cut_at cs 1 1, u, N]; rfl
 have n : cs.drop 0 = [i6 j, .bool i, .bool g, .bool f, i6 d, .slice b a.length c] := by rw [show cs.drop 0 = (cs.drop 0).take 1 ++ cs.drop 1 from cut_at cs 0 1, q, O]; rfl
 refine ⟨⟨j, i, g, f, d, a⟩, ?_, p, s, y, C, F, H⟩
 rw [List.drop_zero] at n
 exact ⟨b, c, n, I⟩
theorem sname_walk (u0 : List UInt8)  (Z : Fz) (w : World)  (hZ : Z.on w) {K : Bool → Prop} (hp : sname_vc u0 K) : Calls Tryz.prog 57 #[str u0] w fun e w' => ∃ r : Bool, e = .returned (.bool r) ∧ K r ∧ Below w.heap.size w w' := by
 refine enter0 Tryz.func57 rfl rfl (by kernel_rfl) ?_; intro a0 n; have d := Mem.start w Z hZ
 refine sqB n d [] [] [] ?_; intro a2 o
 refine s_ (sqB o d [] [57] [(12, .bool ((u0 == ([] : List UInt8)) || (decide ((u0.length : Int) > 16))))] ?_); intro af f
 refine c_ f hp (fun _ J => ?_) fun _ M => ?_
 ·
  refine sqB f d [] [] [(2, .bool false)] ?_; intro ag L
  exact r_ (h_ (ra1 L (.bool false) ⟨false, rfl, J, d.below⟩))
 refine k_ (s_ (sqB f d [] [] [(14, i6 (u0.length : Int)), (15, i6 0)] ?_)); intro p u
 apply b_
 have v : Fr 50 [] [⟨0, [], str u0⟩, ⟨14, [], i6 (u0.length : Int)⟩, ⟨15, [], i6 0⟩] p := u.reg
 obtain ⟨N, O, P, Q⟩ := M
 refine lp (ι := Int) (fun s => [⟨0, [], str u0⟩, ⟨14, [], i6 (u0.length : Int)⟩, ⟨15, [], i6 s⟩]) (fun s => []) (fun s => Z) (fun s => N s) (fun s => O s) 0 P (by exact v.reg) (by exact d) ?_
 rintro b R S T y z
 have i := Q b R
 refine sqB y z [] [] [(16, .bool (decide (b < (u0.length : Int))))] ?_; intro ah g
 refine s_ (c_ g i (fun _ U => ?_) fun _ ac => ?_)
 ·
  refine k_ (s_ (b_ (sqB g z [] [] [(3, i6 b)] ?_))); intro ai B
  refine sqH ?_; intro V C
  refine bt B z 2 [] [] [(18, str u0), (19, i6 b)] ?_; intro aj D
  obtain ⟨W, X⟩ := U
  obtain ⟨a, E⟩ : ∃ q, u0[b.toNat]? = some q := ⟨_, List.getElem?_eq_getElem (by omega)⟩; have j := X a E
  refine si D .i64 W.1 E ?_; intro ak F
  refine s1 F 4 (y8 (a.toNat : Int)) ?_; intro al G
  apply C
  refine sqB G z [] [] [(5, .bool (((decide ((a.toNat : Int) ≥ 97)) && (decide ((a.toNat : Int) ≤ 122))) || ((decide ((a.toNat : Int) ≥ 65)) && (decide ((a.toNat : Int) ≤ 90)))))] ?_; intro am H
  refine sqB H z [] [] [(48, .bool ((!(((decide ((a.toNat : Int) ≥ 97)) && (decide ((a.toNat : Int) ≤ 122))) || ((decide ((a.toNat : Int) ≥ 65)) && (decide ((a.toNat : Int) ≤ 90))))) && (((b == 0) || (decide ((a.toNat : Int) < 48))) || (decide ((a.toNat : Int) > 57)))))] ?_; intro an h
  refine c_ h j (fun _ Y => ?_) fun _ I => ?_
  ·
   refine sqB h z [] [] [(2, .bool false)] ?_; intro ao aa
   exact r_ (i_ (h_ (h_ (i_ (h_ (ra1 aa (.bool false) ⟨false, rfl, Y, z.below⟩))))))
  refine l_ (j_ (t_ (rgB h z [] [] [(15, i6 (w64 (b + 1)))] ?_))); intro ap ab
  exact d_ ⟨w64 (b + 1), I.1, I.2, (ab.reg).anyβ _ (by kernel_rfl), z.kp⟩
 refine x_ (y_ (y_ (z_ (t_ (sqB g z [] [] [(2, .bool true)] ?_))))); intro aq ad
 exact r_ (ra1 ad (.bool true) ⟨true, rfl, ac, z.below⟩)
theorem sgcd_walk (u0 : Int) (u1 : Int)  (Z : Fz) (w : World)  (hZ : Z.on w) {K : Int → Prop} (hp : sgcd_vc u0 u1 K) : Calls Tryz.prog 61 #[i6 u0, i6 u1] w fun e w' => ∃ r : Int, e = .returned (i6 r) ∧ K r ∧ Below w.heap.size w w' := by
 refine enter0 Tryz.func61 rfl rfl (by kernel_rfl) ?_; intro T k; have h := Mem.start w Z hZ
 refine sqB k h [] [] [] ?_; intro l m
 refine s_ (b_ ?_)
 have n : Fr 15 [] [⟨0, [], i6 u0⟩, ⟨1, [], i6 u1⟩] l := m.reg
 obtain ⟨D, E, F, G⟩ := hp
 refine lp (ι := Int × Int) (fun s => [⟨0, [], i6 s.1⟩, ⟨1, [], i6 s.2⟩]) (fun s => []) (fun s => Z) (fun s => D s.1 s.2) (fun s => E s.1 s.2) ⟨u0, u1⟩ F (by exact n.reg) (by exact h) ?_
 rintro ⟨a, b⟩ H I J p q
 have f := G a b H
 refine s_ (sqB p q [] [] [(6, .bool (b != 0))] ?_); intro L d
 refine c_ d f (fun _ M => ?_) fun _ R => ?_
 ·
  refine k_ (b_ ?_)
  have v : Fr 15 [] [⟨0, [], i6 a⟩, ⟨1, [], i6 b⟩] L := d.reg
  refine qrgH mixed (by kernel_rfl) q ?_; intro N x
  refine q1 v 7 (i6 b) ?_; intro V y
  refine q1 y 8 (i6 a) ?_; intro W z
  refine q1 z 9 (i6 b) ?_; intro X j
  obtain ⟨O, A⟩ := M
  refine qu_ j (i6 (a.tmod b)) (fun v36 hC => rem_run j (g := []) rfl (by kernel_rfl) (by kernel_rfl) O rfl) ?_; intro Y B
  refine q1 B 0 (i6 b) ?_; intro aa C
  refine q1 C 1 (i6 (a.tmod b)) ?_; intro ab P
  refine qnl (x _ ?_); intro ac Q
  exact j_ (d_ ⟨⟨b, a.tmod b⟩, A.1, A.2, (P.reg).anyβ _ (by kernel_rfl), Q.kp⟩)
 refine x_ (y_ (y_ (z_ (t_ (sqB d q [] [] [(4, i6 (max a (w64 (0 - a))))] ?_))))); intro ad S
 exact r_ (ra1 S (i6 (max a (w64 (0 - a)))) ⟨max a (w64 (0 - a)), rfl, R, q.below⟩)
theorem imax_walk (u0 : List Int) (ao1 : Option Addr) (cap2 : Nat) (Z : Fz) (w : World) (hs3 : SlR t6 Z ao1 cap2 u0) (hZ : Z.on w) {K : Int → Prop} (hp : imax_vc u0 K) : Calls Tryz.prog 86 #[.slice ao1 u0.length cap2] w fun e w' => ∃ r : Int, e = .returned (i6 r) ∧ K r ∧ Below w.heap.size w w' := by
 refine enter0 Tryz.func86 rfl rfl (by kernel_rfl) ?_; intro a0 o; have f := Mem.start w Z hZ
 have i := hp (hs3.small)
 refine sqB o f [] [] [] ?_; intro a6 p
 refine s_ (sqB p f [] [] [(7, .bool (decide ((u0.length : Int) < 1)))] ?_); intro au l
 refine c_ l i (fun _ P => ?_) fun _ Q => ?_
 ·
  exact False.elim P
 refine k_ (sqH ?_); intro R q
 refine s1 l 9 (.slice ao1 u0.length cap2) ?_; intro av u
 obtain ⟨S, v⟩ := Q
 refine ix_ u hs3 (0 : Int) S .i64 3 8 ?_; intro aw ax U d ay V W X x
 have Y := v d V
 obtain rfl : U = ([i6 d] : List Value) := X
 refine z1 x f 11 W 0 (i6 d) rfl ?_; intro az y
 refine s1 y 3 (i6 d) ?_; intro aA z
 apply q
 refine s_ (sqB z f [] [] [(4, i6 1)] ?_); intro A B
 apply b_
 have C : Fr 25 [] [⟨0, [], .slice ao1 u0.length cap2⟩, ⟨3, [], i6 d⟩, ⟨4, [], i6 1⟩] A := B.reg
 obtain ⟨aa, ab, ac, ad⟩ := Y
 refine lp (ι := Int × Int) (fun s => [⟨0, [], .slice ao1 u0.length cap2⟩, ⟨3, [], i6 s.1⟩, ⟨4, [], i6 s.2⟩]) (fun s => []) (fun s => Z) (fun s => aa s.1 s.2) (fun s => ab s.1 s.2) ⟨d, 1⟩ ac (by exact C.reg) (by exact f) ?_
 rintro ⟨a, b⟩ ae af ag E F
 have j := ad a b ae
 refine s_ (sqB E F [] [] [(15, .bool (decide (b < (u0.length : Int))))] ?_); intro aB g
 refine c_ g j (fun _ ah => ?_) fun _ ap => ?_
 ·
  refine k_ (s_ (b_ (rgH ?_))); intro ai H
  refine bt g F 3 [] [] [(18, i6 a), (19, .slice ao1 u0.length cap2), (20, i6 b)] ?_; intro aC I
  obtain ⟨aj, J⟩ := ah
  refine ix_ I hs3 b aj .i64 3 8 ?_; intro aD aE ak h aF al am an L
  have M := J h al
  obtain rfl : ak = ([i6 h] : List Value) := an
  refine z1 L F 22 am 0 (i6 h) rfl ?_; intro aG N
  refine bt N F 2 [] [] [(3, i6 (max a h))] ?_; intro aH O
  apply H
  refine j_ (t_ (rgB O F [] [] [(4, i6 (w64 (b + 1)))] ?_)); intro aI ao
  exact d_ ⟨⟨max a h, w64 (b + 1)⟩, M.1, M.2, (ao.reg).anyβ _ (by kernel_rfl), F.kp⟩
 refine x_ (y_ (y_ (z_ (t_ (sqB g F [] [] [(2, i6 a)] ?_))))); intro aJ aq
 exact r_ (ra1 aq (i6 a) ⟨a, rfl, ap, F.below⟩)
theorem imin_walk (u0 : List Int) (ao1 : Option Addr) (cap2 : Nat) (Z : Fz) (w : World) (hs3 : SlR t6 Z ao1 cap2 u0) (hZ : Z.on w) {K : Int → Prop} (hp : imin_vc u0 K) : Calls Tryz.prog 87 #[.slice ao1 u0.length cap2] w fun e w' => ∃ r : Int, e = .returned (i6 r) ∧ K r ∧ Below w.heap.size w w' := by
 refine enter0 Tryz.func87 rfl rfl (by kernel_rfl) ?_; intro a0 o; have f := Mem.start w Z hZ
 have i := hp (hs3.small)
 refine sqB o f [] [] [] ?_; intro a6 p
 refine s_ (sqB p f [] [] [(7, .bool (decide ((u0.length : Int) < 1)))] ?_); intro au l
 refine c_ l i (fun _ P => ?_) fun _ Q => ?_
 ·
  exact False.elim P
 refine k_ (sqH ?_); intro R q
 refine s1 l 9 (.slice ao1 u0.length cap2) ?_; intro av u
 obtain ⟨S, v⟩ := Q
 refine ix_ u hs3 (0 : Int) S .i64 3 8 ?_; intro aw ax U d ay V W X x
 have Y := v d V
 obtain rfl : U = ([i6 d] : List Value) := X
 refine z1 x f 11 W 0 (i6 d) rfl ?_; intro az y
 refine s1 y 3 (i6 d) ?_; intro aA z
 apply q
 refine s_ (sqB z f [] [] [(4, i6 1)] ?_); intro A B
 apply b_
 have C : Fr 25 [] [⟨0, [], .slice ao1 u0.length cap2⟩, ⟨3, [], i6 d⟩, ⟨4, [], i6 1⟩] A := B.reg
 obtain ⟨aa, ab, ac, ad⟩ := Y
 refine lp (ι := Int × Int) (fun s => [⟨0, [], .slice ao1 u0.length cap2⟩, ⟨3, [], i6 s.1⟩, ⟨4, [], i6 s.2⟩]) (fun s => []) (fun s => Z) (fun s => aa s.1 s.2) (fun s => ab s.1 s.2) ⟨d, 1⟩ ac (by exact C.reg) (by exact f) ?_
 rintro ⟨a, b⟩ ae af ag E F
 have j := ad a b ae
 refine s_ (sqB E F [] [] [(15, .bool (decide (b < (u0.length : Int))))] ?_); intro aB g
 refine c_ g j (fun _ ah => ?_) fun _ ap => ?_
 ·
  refine k_ (s_ (b_ (rgH ?_))); intro ai H
  refine bt g F 3 [] [] [(18, i6 a), (19, .slice ao1 u0.length cap2), (20, i6 b)] ?_; intro aC I
  obtain ⟨aj, J⟩ := ah
  refine ix_ I hs3 b aj .i64 3 8 ?_; intro aD aE ak h aF al am an L
  have M := J h al
  obtain rfl : ak = ([i6 h] : List Value) := an
  refine z1 L F 22 am 0 (i6 h) rfl ?_; intro aG N
  refine bt N F 2 [] [] [(3, i6 (min a h))] ?_; intro aH O
  apply H
  refine j_ (t_ (rgB O F [] [] [(4, i6 (w64 (b + 1)))] ?_)); intro aI ao
  exact d_ ⟨⟨min a h, w64 (b + 1)⟩, M.1, M.2, (ao.reg).anyβ _ (by kernel_rfl), F.kp⟩
 refine x_ (y_ (y_ (z_ (t_ (sqB g F [] [] [(2, i6 a)] ?_))))); intro aJ aq
 exact r_ (ra1 aq (i6 a) ⟨a, rfl, ap, F.below⟩)
theorem bclone_walk (u0 : List Int) (ao1 : Option Addr) (cap2 : Nat) (Z : Fz) (w : World) (hs3 : SlR t8 Z ao1 cap2 u0) (hZ : Z.on w) {K : (List Int) → Prop} (hp : bclone_vc u0 K) : Calls Tryz.prog 55 #[.slice ao1 u0.length cap2] w fun e w' => ∃ (r : (List Int)) (ao1001 : Option Addr) (cap1002 : Nat) (Z' : Fz), e = .returned (.slice ao1001 r.length cap1002) ∧ K r ∧ Mem w.heap.size [] w Z [.own t8 5 ao1001 cap1002 r] Z' w' := by
 refine enter0 Tryz.func55 rfl rfl (by kernel_rfl) ?_; intro N l; have a := Mem.start w Z hZ
 have m := hp (hs3.small)
 refine sqB l a [] [] [] ?_; intro P n
 refine s_ (sqH ?_); intro A o
 refine s1 n 3 (.slice ao1 u0.length cap2) ?_; intro Q h
 obtain ⟨i, p⟩ : ∃ b, ao1.isNone = b := ⟨_, rfl⟩; have d := m i (by rw [← p]; exact hs3.isNone)
 refine u_ h (.bool i) (re_ (r := .ok (.value (.bool ao1.isNone)) w) (by cases ao1 <;> exact p0 h (by kernel_rfl)) (by rw [p])) ?_; intro R c
 apply o
 refine c_ c d (fun _ B => ?_) fun _ E => ?_
 ·
  refine sqB c a [] [] [(2, .slice none 0 0)] ?_; intro S C
  refine r_ (h_ ?_)
  have D : Mem w.heap.size [] w Z [.own t8 5 none 0 ([] : List Int)] Z w := a.addNil t8 5 (by decide)
  exact ra1 C (.slice none ([] : List Int).length 0) ⟨([] : List Int), none, 0, Z, rfl, B, D.kp⟩
 refine k_ (sqH ?_); intro F q
 refine nw c a (fun b => .slice (sm b) 0 0) [] 5 ?_; intro s U G u v
 refine s1 u 6 (.slice ao1 u0.length cap2) ?_; intro V x
 have k : Mem w.heap.size [] w Z [.own t8 5 (sm s) 0 ([] : List Int)] Z G := v.rowOwn (T := t8) (xs := ([] : List Int)) 0 rfl (by decide) (by show 0 ≤ lim; decide) (RepAll.nil _ _)
 obtain ⟨H, I⟩ := E
 refine ap x k 0 (T := t8) (xs := ([] : List Int)) (ys := u0) (ao := (sm s)) (cap := 0) (ao2 := ao1) (cap2 := cap2) (t := 25) (e := 5) (bytes := 1) (nog rfl _) rfl (by kernel_rfl) rfl (by kernel_rfl) (by kernel_rfl) (by kernel_rfl) rfl (Src.fz (by decide) k.fz hs3) H ?_; intro f g W J X y z
 have L : Mem w.heap.size [] w Z [.own t8 5 f g (([] : List Int) ++ u0)] Z J := z
 refine s1 y 2 (.slice f (([] : List Int) ++ u0).length g) ?_; intro Y M
 apply q
 exact r_ (ra1 M (.slice f (([] : List Int) ++ u0).length g) ⟨([] : List Int) ++ u0, f, g, Z, rfl, I, L.kp⟩)
theorem beq_walk (u0 : List Int) (u1 : List Int) (ao1 : Option Addr) (cap2 : Nat) (ao4 : Option Addr) (cap5 : Nat) (Z : Fz) (w : World) (hs3 : SlR t8 Z ao1 cap2 u0) (hs6 : SlR t8 Z ao4 cap5 u1) (hZ : Z.on w) {K : Bool → Prop} (hp : beq_vc u0 u1 K) : Calls Tryz.prog 32 #[.slice ao1 u0.length cap2, .slice ao4 u1.length cap5] w fun e w' => ∃ r : Bool, e = .returned (.bool r) ∧ K r ∧ Below w.heap.size w w' := by
 refine enter0 Tryz.func32 rfl rfl (by kernel_rfl) ?_; intro a0 y; have b := Mem.start w Z hZ
 have l := hp (hs3.small) (hs6.small)
 refine sqB y b [] [] [] ?_; intro aD A
 refine s_ (sqB A b [] [] [(10, .bool ((u0.length : Int) != (u1.length : Int)))] ?_); intro aE d
 refine c_ d l (fun _ W => ?_) fun _ Y => ?_
 ·
  refine sqB d b [] [] [(4, .bool false)] ?_; intro aF X
  exact r_ (h_ (ra1 X (.bool false) ⟨false, rfl, W, b.below⟩))
 refine k_ (s_ (sqB d b [] [] [(12, i6 (u0.length : Int)), (13, i6 0)] ?_)); intro B C
 apply b_
 have D : Fr 26 [] [⟨0, [], .slice ao1 u0.length cap2⟩, ⟨1, [], .slice ao4 u1.length cap5⟩, ⟨12, [], i6 (u0.length : Int)⟩, ⟨13, [], i6 0⟩] B := C.reg
 obtain ⟨aa, ab, ac, ad⟩ := Y
 refine lp (ι := Int) (fun s => [⟨0, [], .slice ao1 u0.length cap2⟩, ⟨1, [], .slice ao4 u1.length cap5⟩, ⟨12, [], i6 (u0.length : Int)⟩, ⟨13, [], i6 s⟩]) (fun s => []) (fun s => Z) (fun s => aa s) (fun s => ab s) 0 ac (by exact D.reg) (by exact b) ?_
 rintro a ae af ag F G
 have m := ad a ae
 refine sqB F G [] [] [(14, .bool (decide (a < (u0.length : Int))))] ?_; intro aG f
 refine s_ (c_ f m (fun _ ah => ?_) fun _ aA => ?_)
 ·
  refine k_ (s_ (b_ (sqB f G [] [] [(5, i6 a)] ?_))); intro ai I
  have J : Fr 26 [] [⟨0, [], .slice ao1 u0.length cap2⟩, ⟨1, [], .slice ao4 u1.length cap5⟩, ⟨5, [], i6 a⟩, ⟨12, [], i6 (u0.length : Int)⟩, ⟨13, [], i6 a⟩] ai := I.reg
  refine sqQH mixed (by kernel_rfl) G ?_; intro aj L
  refine q1 J 16 (.slice ao1 u0.length cap2) ?_; intro aH M
  refine q1 M 17 (i6 a) ?_; intro aI N
  obtain ⟨ak, O⟩ := ah
  refine qx_ N hs3 a ak .i64 5 1 ?_; intro aJ aK al h aL am an ao u
  have ap := O h am
  obtain rfl : al = ([y8 h] : List Value) := ao
  refine qz_ u an 0 (y8 h) rfl ?_; intro aM P
  refine q1 P 20 (.slice ao4 u1.length cap5) ?_; intro aN Q
  refine q1 Q 21 (i6 a) ?_; intro aO R
  obtain ⟨aq, S⟩ := ap
  refine qx_ R hs6 a aq .i64 5 1 ?_; intro aP aQ ar i aR au av aw v
  have n := S i au
  obtain rfl : ar = ([y8 i] : List Value) := aw
  refine qz_ v av 0 (y8 i) rfl ?_; intro aS U
  refine q1 U 24 (.bool (h != i)) ?_; intro aT j
  refine qnl (L _ ?_); intro aU o
  refine c_ j n (fun _ ax => ?_) fun _ V => ?_
  ·
   refine sqB j o [] [] [(4, .bool false)] ?_; intro aV ay
   exact r_ (i_ (h_ (h_ (i_ (h_ (ra1 ay (.bool false) ⟨false, rfl, ax, o.below⟩))))))
  refine l_ (j_ (t_ (rgB j o [] [] [(13, i6 (w64 (a + 1)))] ?_))); intro aW az
  exact d_ ⟨w64 (a + 1), V.1, V.2, (az.reg).anyβ _ (by kernel_rfl), o.kp⟩
 refine x_ (y_ (y_ (z_ (t_ (sqB f G [] [] [(4, .bool true)] ?_))))); intro aX aB
 exact r_ (ra1 aB (.bool true) ⟨true, rfl, aA, G.below⟩)
theorem sbounds_walk (u0 : Signal)  (Z : Fz) (w : World)  (hZ : Z.on w) {K : (Int × Int) → Prop} (hp : sbounds_vc u0 K) : Calls Tryz.prog 71 #[.agg #[str u0.Name, i6 u0.Start, i6 u0.Size, .bool u0.Back, .bool u0.Signed, i6 u0.Mul, i6 u0.Div, i6 u0.Add, i6 u0.Key]] w fun e w' => ∃ r : Int × Int, e = .returned (.tuple #[i6 r.1, i6 r.2]) ∧ K r ∧ Below w.heap.size w w' := by
 refine enter0 Tryz.func71 rfl rfl (by kernel_rfl) ?_; intro a0 n; have o := Mem.start w Z hZ
 refine sqH ?_; intro J p
 refine nw n o pb (e46Z u0) 46 ?_; intro a a3 ab q c
 refine bt q c 2 [] [] [] ?_; intro a9 s
 apply p
 refine s_ (sqB s c [0] [] [(5, .bool u0.Signed)] ?_); intro u d
 refine c_ d hp (fun _ L => ?_) fun _ T => ?_
 ·
  have v : Fr 19 [] [⟨1, [], pt a 0⟩] u := d.reg
  refine sqQH mixed (by kernel_rfl) c ?_; intro M x
  refine q1 v 6 (pt a 2) ?_; intro ac h
  refine ql_ h 0 2 (i6 u0.Size) rfl rfl ?_; intro ad y
  refine q1 y 8 (i6 (w64 (u0.Size - 1))) ?_; intro ae i
  obtain ⟨N, O⟩ := L
  refine qu_ i (i6 (bShl .i64 (-1) (w64 (u0.Size - 1)))) (fun v29 hC => shl_run i (g := []) (k' := .i64) rfl (by kernel_rfl) (by kernel_rfl) N rfl) ?_; intro af z
  refine q1 z 10 (pt a 2) ?_; intro ag j
  refine ql_ j 0 2 (i6 u0.Size) rfl rfl ?_; intro ah A
  refine q1 A 12 (i6 (w64 (u0.Size - 1))) ?_; intro ai k
  obtain ⟨P, Q⟩ := O
  refine qu_ k (i6 (bShl .i64 1 (w64 (u0.Size - 1)))) (fun v43 hC => shl_run k (g := []) (k' := .i64) rfl (by kernel_rfl) (by kernel_rfl) P rfl) ?_; intro aj B
  refine q1 B 14 (i6 (w64 ((bShl .i64 1 (w64 (u0.Size - 1))) - 1))) ?_; intro ak C
  refine q1 C 2 (i6 (bShl .i64 (-1) (w64 (u0.Size - 1)))) ?_; intro al D
  refine q1 D 3 (i6 (w64 ((bShl .i64 1 (w64 (u0.Size - 1))) - 1))) ?_; intro am R
  refine qnl (x _ ?_); intro an S
  exact r_ (h_ (ra2 R (.tuple #[i6 (bShl .i64 (-1) (w64 (u0.Size - 1))), i6 (w64 ((bShl .i64 1 (w64 (u0.Size - 1))) - 1))]) ⟨(bShl .i64 (-1) (w64 (u0.Size - 1)), w64 ((bShl .i64 1 (w64 (u0.Size - 1))) - 1)), rfl, Q, S.below⟩))
 apply k_
 have E : Fr 19 [] [⟨1, [], pt a 0⟩] u := d.reg
 refine sqQH mixed (by kernel_rfl) c ?_; intro U F
 refine q1 E 15 (pt a 2) ?_; intro ao l
 refine ql_ l 0 2 (i6 u0.Size) rfl rfl ?_; intro ap m
 obtain ⟨V, W⟩ := T
 refine qu_ m (i6 (bShl .i64 1 u0.Size)) (fun v68 hC => shl_run m (g := []) (k' := .i64) rfl (by kernel_rfl) (by kernel_rfl) V rfl) ?_; intro aq G
 refine q1 G 18 (i6 (w64 ((bShl .i64 1 u0.Size) - 1))) ?_; intro ar H
 refine q1 H 2 (i6 0) ?_; intro au I
 refine q1 I 3 (i6 (w64 ((bShl .i64 1 u0.Size) - 1))) ?_; intro av X
 refine qnl (F _ ?_); intro aw Y
 exact r_ (ra2 X (.tuple #[i6 0, i6 (w64 ((bShl .i64 1 u0.Size) - 1))]) ⟨(0, w64 ((bShl .i64 1 u0.Size) - 1)), rfl, W, Y.below⟩)
theorem irev_walk (u0 : List Int) (ao1 : Option Addr) (cap2 : Nat) (B : Nat) (w0 : World) (Z0 : Fz) (Rr : List Res) (Z : Fz) (w : World) (hM0 : Mem B [] w0 Z0 ((.own t6 3 ao1 cap2 u0) :: Rr) Z w) (hZ : Z.on w) {K : (List Int) → Prop} (hp : irev_vc u0 K) : Calls Tryz.prog 90 #[.slice ao1 u0.length cap2] w fun e w' => ∃ (r : (List Int)) (Z' : Fz), e = .returned (.tuple #[]) ∧ K r ∧ Fz.le Z Z' ∧ (r.length = u0.length) ∧ Mem B [] w0 Z0 ((.own t6 3 ao1 cap2 r) :: Rr) Z' w' := by
 refine enter0 Tryz.func90 rfl rfl (by kernel_rfl) ?_; intro a0 x; have ac := Fz.le.refl Z
 have ad := hp (hM0.ownSmall 0 rfl)
 refine sqB x hM0 [] [] [(2, i6 0), (3, i6 (w64 ((u0.length : Int) - 1)))] ?_; intro y z
 apply b_
 have A : Fr 28 [] [⟨0, [], .slice ao1 u0.length cap2⟩, ⟨2, [], i6 0⟩, ⟨3, [], i6 (w64 ((u0.length : Int) - 1))⟩] y := z.reg
 obtain ⟨ae, af, ag, ah⟩ := ad
 refine lp (ι := Int × Int × (List Int)) (fun s => [⟨0, [], .slice ao1 s.2.2.length cap2⟩, ⟨2, [], i6 s.1⟩, ⟨3, [], i6 s.2.1⟩]) (fun s => ((.own t6 3 ao1 cap2 s.2.2) :: Rr)) (fun s => Z) (fun s => ae s.1 s.2.1 s.2.2) (fun s => af s.1 s.2.1 s.2.2) ⟨0, w64 ((u0.length : Int) - 1), u0⟩ ag (by exact A.reg) (by exact hM0) ?_
 rintro ⟨a, c, b⟩ ai aj ak D E
 have m := ah a c b ai
 refine s_ (sqB D E [] [] [(9, .bool (decide (a < c)))] ?_); intro al i
 refine c_ i m (fun _ am => ?_) fun _ aO => ?_
 ·
  refine k_ (s_ (b_ ?_))
  have G : Fr 28 [] [⟨0, [], .slice ao1 b.length cap2⟩, ⟨2, [], i6 a⟩, ⟨3, [], i6 c⟩] al := i.reg
  refine rgT mixed E [2, 3] [(0, true), (1, true), (4, true), (5, true), (8, true), (9, true), (6, true), (7, true), (10, true), (11, true), (12, true), (13, false), (14, false), (15, false)] [13, 14, 15] [0] [.own t6 3 ao1 cap2 b] ?_
  intro an H aR j
  refine cS G 2 [] [] [(16, .slice ao1 b.length cap2), (17, i6 c)] ?_; intro aT I
  refine nS ?_
  refine cS I 6 [] [] [(14, .slice ao1 b.length cap2), (15, i6 a), (18, .slice ao1 b.length cap2), (19, i6 c), (22, .slice ao1 b.length cap2), (23, i6 a)] ?_; intro aU J
  obtain ⟨ao, L⟩ := am
  refine cixo rfl J j 0 (T := t6) (xs := b) c ao (k := .i64) (e := 3) (bytes := 8) (nog rfl _) rfl (by kernel_rfl) rfl (by kernel_rfl) (by kernel_rfl) rfl (by kernel_rfl) ?_; intro d aV ap M
  subst ap
  obtain ⟨f, aq, ar⟩ := gxq L (by first | omega | (simp only [List.length_set] at *; omega))
  refine clo1 rfl M 0 (T := t6) (xs := b) rfl c.toNat 0 aq [i6 f] (fun _ h => h) (i6 f) rfl (nog rfl _) rfl (by kernel_rfl) rfl (by kernel_rfl) (by kernel_rfl) ?_; intro aW N
  obtain ⟨au, O⟩ := ar
  refine cixo rfl N j 0 (T := t6) (xs := b) a au (k := .i64) (e := 3) (bytes := 8) (nog rfl _) rfl (by kernel_rfl) rfl (by kernel_rfl) (by kernel_rfl) rfl (by kernel_rfl) ?_; intro av aX aw P
  obtain rfl : d = av := by simpa using aw
  obtain ⟨g, ax, ay⟩ := gxq O (by first | omega | (simp only [List.length_set] at *; omega))
  refine clo1 rfl P 0 (T := t6) (xs := b) rfl a.toNat 0 ax [i6 g] (fun _ h => h) (i6 g) rfl (nog rfl _) rfl (by kernel_rfl) rfl (by kernel_rfl) (by kernel_rfl) ?_; intro aY Q
  obtain ⟨az, aA⟩ := ay
  refine cixo rfl Q j 0 (T := t6) (xs := b) a az (k := .i64) (e := 3) (bytes := 8) (nog rfl _) rfl (by kernel_rfl) rfl (by kernel_rfl) (by kernel_rfl) rfl (by kernel_rfl) ?_; intro aB aC aD n
  obtain rfl : d = aB := by simpa using aD
  refine eL rfl ?_; intro aE R
  refine so n j 0 (T := t6) (xs := b) a.toNat f (u := i6 f) (nog rfl _) rfl rfl (by kernel_rfl) rfl (by kernel_rfl) rfl (by kernel_rfl) (by first | omega | (simp only [List.length_set] at *; omega)) rfl ?_; intro aF S
  have U : Fr 28 [] [⟨0, [], .slice (sm d) (b.set a.toNat f).length cap2⟩, ⟨2, [], i6 a⟩, ⟨3, [], i6 c⟩, ⟨14, [], .slice (sm d) (b.set a.toNat f).length cap2⟩, ⟨15, [], i6 a⟩, ⟨16, [], .slice (sm d) (b.set a.toNat f).length cap2⟩, ⟨17, [], i6 c⟩, ⟨18, [], .slice (sm d) (b.set a.toNat f).length cap2⟩, ⟨19, [], i6 c⟩, ⟨20, [], .pointer (some ⟨d, c.toNat * 1, none⟩)⟩, ⟨21, [], i6 f⟩, ⟨22, [], .slice (sm d) (b.set a.toNat f).length cap2⟩, ⟨23, [], i6 a⟩, ⟨24, [], .pointer (some ⟨d, a.toNat * 1, none⟩)⟩, ⟨25, [], i6 g⟩, ⟨26, [], .pointer (some ⟨d, a.toNat * 1, none⟩)⟩] aC := by (try simp only [List.length_set] at n); (try simp only [List.length_set]); exact n.reg
  have q : Mem B [] w0 Z0 ((.own t6 3 (sm d) cap2 (b.set a.toNat f)) :: Rr) Z aF := S
  refine nl (qnI (R _ _ ?_))
  refine eL rfl ?_; intro aG V
  obtain ⟨aH, W⟩ := aA
  refine ixo U q 0 (T := t6) (xs := b.set a.toNat f) c aH (k := .i64) (e := 3) (bytes := 8) (nog rfl _) rfl (by kernel_rfl) rfl (by kernel_rfl) (by kernel_rfl) rfl (by kernel_rfl) ?_; intro aI aJ aK o
  obtain rfl : d = aI := by simpa using aK
  refine nl (qnI (V _ _ ?_))
  refine eL rfl ?_; intro aL X
  refine so o q 0 (T := t6) (xs := b.set a.toNat f) c.toNat g (u := i6 g) (nog rfl _) rfl rfl (by kernel_rfl) rfl (by kernel_rfl) rfl (by kernel_rfl) (by first | omega | (simp only [List.length_set] at *; omega)) rfl ?_; intro aM Y
  have aa : Fr 28 [] [⟨0, [], .slice (sm d) ((b.set a.toNat f).set c.toNat g).length cap2⟩, ⟨2, [], i6 a⟩, ⟨3, [], i6 c⟩, ⟨14, [], .slice (sm d) ((b.set a.toNat f).set c.toNat g).length cap2⟩, ⟨15, [], i6 a⟩, ⟨16, [], .slice (sm d) ((b.set a.toNat f).set c.toNat g).length cap2⟩, ⟨17, [], i6 c⟩, ⟨18, [], .slice (sm d) ((b.set a.toNat f).set c.toNat g).length cap2⟩, ⟨19, [], i6 c⟩, ⟨20, [], .pointer (some ⟨d, c.toNat * 1, none⟩)⟩, ⟨21, [], i6 f⟩, ⟨22, [], .slice (sm d) ((b.set a.toNat f).set c.toNat g).length cap2⟩, ⟨23, [], i6 a⟩, ⟨24, [], .pointer (some ⟨d, a.toNat * 1, none⟩)⟩, ⟨25, [], i6 g⟩, ⟨26, [], .pointer (some ⟨d, a.toNat * 1, none⟩)⟩, ⟨27, [], .pointer (some ⟨d, c.toNat * 1, none⟩)⟩] aJ := by (try simp only [List.length_set] at o); (try simp only [List.length_set]); exact o.reg
  have ab : Mem B [] w0 Z0 ((.own t6 3 (sm d) cap2 ((b.set a.toNat f).set c.toNat g)) :: Rr) Z aM := Y
  refine nl (qnI (X _ _ ?_))
  refine nS (H _ _ ?_)
  refine j_ (t_ (rgB aa ab [] [] [(2, i6 (w64 (a + 1))), (3, i6 (w64 (c - 1)))] ?_)); intro aZ aN
  exact d_ ⟨⟨w64 (a + 1), w64 (c - 1), (b.set a.toNat f).set c.toNat g⟩, W.1, W.2, (aN.reg).anyβ _ (by kernel_rfl), ab.kp⟩
 refine x_ (y_ (y_ (z_ ?_)))
 obtain ⟨aP, aQ⟩ := aO
 refine rN (fn := Tryz.f90) (v := .tuple #[]) i (re0 i (fn := Tryz.f90) rfl) ?_
 exact ⟨b, Z, rfl, aQ, ac, aP, E.kp⟩
end Go.Proofs.YtdndfbamhnchfaaGreatDoor
set_option linter.unusedVariables false
set_option linter.unusedSimpArgs false
set_option linter.defProp false
set_option maxRecDepth 100000
set_option maxHeartbeats 0
namespace Go.Proofs.YtdndfbamhnchfaaGreatDoor
open Go.Sy Go.RowKit
abbrev e46A (X : Signal) : List Value := [str X.Name, i6 X.Start, i6 X.Size, .bool X.Back, .bool X.Signed, i6 X.Mul, i6 X.Div, i6 X.Add, i6 X.Key]
theorem irev_fun (u0 : List Int) (ao1 : Option Addr) (cap2 : Nat) (B : Nat) (w0 : World) (Z0 : Fz) (Rr : List Res) (Z : Fz) (w : World) (hM0 : Mem B [] w0 Z0 ((.own t6 3 ao1 cap2 u0) :: Rr) Z w) (hZ : Z.on w) : Calls Tryz.prog 90 #[.slice ao1 u0.length cap2] w fun e w' => ∃ (Z' : Fz), e = .returned (.tuple #[]) ∧ Fz.le Z Z' ∧ ((irevS u0).length = u0.length) ∧ Mem B [] w0 Z0 ((.own t6 3 ao1 cap2 (irevS u0)) :: Rr) Z' w' :=
 (irev_walk u0 ao1 cap2 B w0 Z0 Rr Z w hM0 hZ (irev_ok u0)).mono fun _ _ ⟨r, h0, he, hk, f0, f1, hm⟩ => by subst hk; exact ⟨h0, he, f0, f1, hm⟩
def sgcd_fun (u0 : Int) (u1 : Int) (hpre : (-4611686018427387904 ≤ u0 ∧ u0 ≤ 4611686018427387904) ∧ -4611686018427387904 ≤ u1 ∧ u1 ≤ 4611686018427387904)  (Z : Fz) (w : World)  (hZ : Z.on w) := f_ (sgcd_walk u0 u1  Z w  hZ (sgcd_ok u0 u1 hpre))
def sbounds_fun (u0 : Signal) (hpre : 1 ≤ u0.Size ∧ u0.Size ≤ 40)  (Z : Fz) (w : World)  (hZ : Z.on w) := f_ (sbounds_walk u0  Z w  hZ (sbounds_ok u0 hpre))
def sname_fun (u0 : List UInt8)  (Z : Fz) (w : World)  (hZ : Z.on w) := f_ (sname_walk u0  Z w  hZ (sname_ok u0))
def imax_fun (u0 : List Int) (hpre : 0 < u0.length) (ao1 : Option Addr) (cap2 : Nat) (Z : Fz) (w : World) (hs3 : SlR t6 Z ao1 cap2 u0) (hZ : Z.on w) := f_ (imax_walk u0 ao1 cap2 Z w hs3 hZ (imax_ok u0 hpre))
def imin_fun (u0 : List Int) (hpre : 0 < u0.length) (ao1 : Option Addr) (cap2 : Nat) (Z : Fz) (w : World) (hs3 : SlR t6 Z ao1 cap2 u0) (hZ : Z.on w) := f_ (imin_walk u0 ao1 cap2 Z w hs3 hZ (imin_ok u0 hpre))
def bclone_fun (u0 : List Int) (hpre : u0.length ≤ 140737488355328) (ao1 : Option Addr) (cap2 : Nat) (Z : Fz) (w : World) (hs3 : SlR t8 Z ao1 cap2 u0) (hZ : Z.on w) := fc_ (bclone_walk u0 ao1 cap2 Z w hs3 hZ (bclone_ok u0 hpre))
def beq_fun (u0 : List Int) (u1 : List Int) (ao1 : Option Addr) (cap2 : Nat) (ao4 : Option Addr) (cap5 : Nat) (Z : Fz) (w : World) (hs3 : SlR t8 Z ao1 cap2 u0) (hs6 : SlR t8 Z ao4 cap5 u1) (hZ : Z.on w) := f_ (beq_walk u0 u1 ao1 cap2 ao4 cap5 Z w hs3 hs6 hZ (beq_ok u0 u1))
theorem splaces_walk (u0 : Signal)  (Z : Fz) (w : World)  (hZ : Z.on w) {K : (List Int) → Prop} (hp : splaces_vc u0 K) : Calls Tryz.prog 62 #[.agg #[str u0.Name, i6 u0.Start, i6 u0.Size, .bool u0.Back, .bool u0.Signed, i6 u0.Mul, i6 u0.Div, i6 u0.Add, i6 u0.Key]] w fun e w' => ∃ (r : (List Int)) (ao1001 : Option Addr) (cap1002 : Nat) (Z' : Fz), e = .returned (.slice ao1001 r.length cap1002) ∧ K r ∧ Mem w.heap.size [] w Z [.own t6 3 ao1001 cap1002 r] Z' w' := by
 refine enter0 Tryz.func62 rfl rfl (by kernel_rfl) ?_; intro a0 G; have H := Mem.start w Z hZ
 refine sqH ?_; intro ax J
 refine nw G H pb (e46A u0) 46 ?_; intro i a3 ay L k
 refine s1 L 2 (.slice none 0 0) ?_; intro a7 M
 apply J
 refine sqB M k [] [] [(3, .slice none 0 0)] ?_; intro aW N
 refine sqB N k [0] [] [(4, i6 u0.Start)] ?_; intro aX O
 refine s_ (sqB O k [0] [] [(8, i6 u0.Size), (9, i6 0)] ?_); intro P Q
 apply b_
 have R : Fr 35 [] [⟨1, [], pt i 0⟩, ⟨3, [], .slice none 0 0⟩, ⟨4, [], i6 u0.Start⟩, ⟨8, [], i6 u0.Size⟩, ⟨9, [], i6 0⟩] P := Q.reg
 have S : Mem w.heap.size [] w Z [.own t6 3 none 0 ([] : List Int), .row i (e46A u0) 46] Z ay := k.addNil t6 3 (by decide)
 have U : Fr 35 [] [⟨1, [], pt i 0⟩, ⟨3, [], .slice none ([] : List Int).length 0⟩, ⟨4, [], i6 u0.Start⟩, ⟨8, [], i6 u0.Size⟩, ⟨9, [], i6 0⟩] P := R.reg
 obtain ⟨az, aA, aB, aC⟩ := hp
 refine lp (ι := (List Int) × Int × Int × (Option Addr) × Nat) (fun s => [⟨1, [], pt i 0⟩, ⟨3, [], .slice s.2.2.2.1 s.1.length s.2.2.2.2⟩, ⟨4, [], i6 s.2.1⟩, ⟨8, [], i6 u0.Size⟩, ⟨9, [], i6 s.2.2.1⟩]) (fun s => [.own t6 3 s.2.2.2.1 s.2.2.2.2 s.1, .row i (e46A u0) 46]) (fun s => Z) (fun s => az s.1 s.2.1 s.2.2.1) (fun s => aA s.1 s.2.1 s.2.2.1) ⟨([] : List Int), u0.Start, 0, none, 0⟩ aB (by exact U.region (by kernel_rfl) (by kernel_rfl)) (by exact S) ?_
 rintro ⟨a, c, g, d, f⟩ aD aE aF V W
 have u := aC a c g aD
 refine sqB V W [] [] [(10, .bool (decide (g < u0.Size)))] ?_; intro aY l
 apply s_
 refine cd l (t := decide (g < u0.Size)) (by kernel_rfl) (fun A => ?_) (fun A => ?_)
 · -- yes
  have aG := u.1 A
  refine k_ (s_ (b_ (sqH ?_))); intro aH Y
  refine bt l W 2 [] [] [(11, .slice d a.length f), (12, i6 c)] ?_; intro aZ aa
  refine nw aa W (fun b => .slice (sm b) 1 1) [i6 c] 3 ?_; intro ab a1 a2 ac B
  obtain ⟨aI, v⟩ := aG
  refine ap ac B 1 (T := t6) (xs := a) (ys := [c]) (ao := d) (cap := f) (ao2 := (sm ab)) (cap2 := 1) (t := 59) (e := 3) (bytes := 8) (nog rfl _) rfl (by kernel_rfl) rfl (by kernel_rfl) (by kernel_rfl) (by kernel_rfl) rfl (Src.row B 0 rfl (RepAll.one (T := t6) (x := c) rfl)) aI ?_; intro m n a4 aJ a5 ad ae
  have h : Mem w.heap.size [] w Z [.row ab [i6 c] 3, .own t6 3 m n (a ++ [c]), .row i (e46A u0) 46] Z aJ := ae
  refine s1 ad 3 (.slice m (a ++ [c]).length n) ?_; intro a6 af
  apply Y
  refine b_ (sqB af h [2] [] [(17, .bool (!u0.Back))] ?_); intro a8 o
  refine cd o (t := !u0.Back) (by kernel_rfl) (fun C => ?_) (fun C => ?_)
  · -- yes
   have ag := v.1 C
   refine rgB o h [] [] [(4, i6 (w64 (c + 1)))] ?_; intro a9 ah
   refine j_ (j_ (t_ (rgB ah h [] [] [(9, i6 (w64 (g + 1)))] ?_))); intro ba aK
   exact d_ ⟨⟨a ++ [c], w64 (c + 1), w64 (g + 1), m, n⟩, ag.1, ag.2, (aK.region (by kernel_rfl) (by kernel_rfl)).anyβ _ (by kernel_rfl), h.kp⟩
  · -- no
   have y := v.2 C
   refine sqB o h [] [] [(23, .bool ((c.tmod 8) == 0))] ?_; intro bb p
   refine cd p (t := (c.tmod 8) == 0) (by kernel_rfl) (fun D => ?_) (fun D => ?_)
   · -- yes
    have ai := y.1 D
    refine rgB p h [] [] [(4, i6 (w64 (c + 15)))] ?_; intro bc aj
    refine j_ (j_ (t_ (rgB aj h [] [] [(9, i6 (w64 (g + 1)))] ?_))); intro bd aL
    exact d_ ⟨⟨a ++ [c], w64 (c + 15), w64 (g + 1), m, n⟩, ai.1, ai.2, (aL.region (by kernel_rfl) (by kernel_rfl)).anyβ _ (by kernel_rfl), h.kp⟩
   · -- no
    have ak := y.2 D
    refine rgB p h [] [] [(4, i6 (w64 (c - 1)))] ?_; intro be al
    refine j_ (j_ (t_ (rgB al h [] [] [(9, i6 (w64 (g + 1)))] ?_))); intro bf aM
    exact d_ ⟨⟨a ++ [c], w64 (c - 1), w64 (g + 1), m, n⟩, ak.1, ak.2, (aM.region (by kernel_rfl) (by kernel_rfl)).anyβ _ (by kernel_rfl), h.kp⟩
 · -- no
  have z := u.2 A
  refine x_ (y_ (y_ (z_ (t_ (s_ (sqB l W [1] [] [(31, .bool u0.Back)] ?_)))))); intro bg q
  refine cd q (t := u0.Back) (by kernel_rfl) (fun E => ?_) (fun E => ?_)
  · -- yes
   have am := z.1 E
   refine rgH ?_; intro aN an
   refine s1 q 32 (.slice d a.length f) ?_; intro bh aq
   refine ck aq 90 #[.slice d a.length f] ?_
   refine (irev_fun a d f _ _ _ _ _ _ W W.fz).mono ?_; rintro _ aO ⟨ar, rfl, aP, aQ, hm⟩; refine ⟨_, rfl, ?_⟩; intro aR au; have av := hm
   have aw : Fr 35 [] [⟨1, [], pt i 0⟩, ⟨3, [], .slice d (irevS a).length f⟩, ⟨4, [], i6 c⟩, ⟨8, [], i6 u0.Size⟩, ⟨9, [], i6 g⟩, ⟨10, [], .bool (decide (g < u0.Size))⟩, ⟨31, [], .bool u0.Back⟩, ⟨32, [], .slice d (irevS a).length f⟩, ⟨33, [], .tuple #[]⟩] aR := by rw [aQ]; exact au.region (by kernel_rfl) (by kernel_rfl)
   have F : Mem w.heap.size [] w Z [.own t6 3 d f (irevS a), .row i (e46A u0) 46] ar aO := av
   have aS := am (F.ownSmall 0 rfl)
   apply an
   refine t_ (sqB aw F [] [] [(2, .slice d (irevS a).length f)] ?_); intro bi aT
   exact r_ (ra1 aT (.slice d (irevS a).length f) ⟨(irevS a), d, f, ar, rfl, aS, F.kp⟩)
  · -- no
   have aU := z.2 E
   refine k_ (sqB q W [] [] [(2, .slice d a.length f)] ?_); intro bj aV
   exact r_ (ra1 aV (.slice d a.length f) ⟨a, d, f, Z, rfl, aU, W.kp⟩)
theorem smean_walk (u0 : Signal) (u1 : Int)  (Z : Fz) (w : World)  (hZ : Z.on w) {K : Reading → Prop} (hp : smean_vc u0 u1 K) : Calls Tryz.prog 24 #[.agg #[str u0.Name, i6 u0.Start, i6 u0.Size, .bool u0.Back, .bool u0.Signed, i6 u0.Mul, i6 u0.Div, i6 u0.Add, i6 u0.Key], i6 u1] w fun e w' => ∃ r : Reading, e = .returned (.agg #[str r.Name, i6 r.Num, i6 r.Den]) ∧ K r ∧ Below w.heap.size w w' := by
 refine enter0 Tryz.func24 rfl rfl (by kernel_rfl) ?_; intro a0 o; have p := Mem.start w Z hZ
 refine sqH ?_; intro X q
 refine nw o p pb (e46A u0) 46 ?_; intro a a3 ao s t
 refine nw s t pb [str [], i6 0, i6 0] 37 ?_; intro c Y ap u x
 apply q
 have y : Fr 32 [] [⟨1, [], i6 u1⟩, ⟨2, [], pt a 0⟩, ⟨4, [], pt c 0⟩] Y := u.reg
 refine sqQH mixed (by kernel_rfl) x ?_; intro aa z
 refine q1 y 8 (i6 u1) ?_; intro aq A
 refine q1 A 9 (pt a 5) ?_; intro ar f
 refine ql_ f 1 5 (i6 u0.Mul) rfl rfl ?_; intro au B
 refine q1 B 11 (i6 (w64 (u1 * u0.Mul))) ?_; intro av C
 refine q1 C 12 (pt a 7) ?_; intro aw h
 refine ql_ h 1 7 (i6 u0.Add) rfl rfl ?_; intro ax D
 refine q1 D 14 (pt a 6) ?_; intro ay i
 refine ql_ i 1 6 (i6 u0.Div) rfl rfl ?_; intro az E
 refine q1 E 16 (i6 (w64 (u0.Add * u0.Div))) ?_; intro aA F
 refine q1 F 17 (i6 (w64 ((w64 (u1 * u0.Mul)) + (w64 (u0.Add * u0.Div))))) ?_; intro aB G
 refine q1 G 18 (pt a 6) ?_; intro aC j
 refine ql_ j 1 6 (i6 u0.Div) rfl rfl ?_; intro aD H
 refine q1 H 5 (i6 (w64 ((w64 (u1 * u0.Mul)) + (w64 (u0.Add * u0.Div))))) ?_; intro aE I
 refine q1 I 6 (i6 u0.Div) ?_; intro aF J
 refine qnl (z _ ?_); intro aG d
 refine sqH ?_; intro ab L
 refine bt J d 2 [] [] [(20, i6 (w64 ((w64 (u1 * u0.Mul)) + (w64 (u0.Add * u0.Div))))), (21, i6 u0.Div)] ?_; intro aH M
 obtain ⟨ac, ae⟩ := hp
 refine fc M d (sgcd_fun (w64 ((w64 (u1 * u0.Mul)) + (w64 (u0.Add * u0.Div)))) u0.Div ac _ _ d.fz) ?_; intro aI aJ N O
 refine s1 N 7 (i6 (ngcd (w64 ((w64 (u1 * u0.Mul)) + (w64 (u0.Add * u0.Div)))) u0.Div)) ?_; intro af P
 apply L
 have Q : Fr 32 [] [⟨2, [], pt a 0⟩, ⟨4, [], pt c 0⟩, ⟨5, [], i6 (w64 ((w64 (u1 * u0.Mul)) + (w64 (u0.Add * u0.Div))))⟩, ⟨6, [], i6 u0.Div⟩, ⟨7, [], i6 (ngcd (w64 ((w64 (u1 * u0.Mul)) + (w64 (u0.Add * u0.Div)))) u0.Div)⟩] af := P.reg
 refine wp_seq (rgS mixed O [(0, true), (1, true), (2, true), (3, true), (5, true), (6, true), (4, true), (7, true), (8, true), (9, false)] [9] [1] [.row a (e46A u0) 46] ?_)
 intro ag R aK S
 refine cS Q 6 [0] [] [(24, str u0.Name), (25, i6 (w64 ((w64 (u1 * u0.Mul)) + (w64 (u0.Add * u0.Div))))), (26, i6 (ngcd (w64 ((w64 (u1 * u0.Mul)) + (w64 (u0.Add * u0.Div)))) u0.Div)), (28, i6 u0.Div), (29, i6 (ngcd (w64 ((w64 (u1 * u0.Mul)) + (w64 (u0.Add * u0.Div)))) u0.Div))] ?_; intro aM l
 obtain ⟨ah, ai⟩ := ae
 refine cst rfl l (i6 (w64 ((w64 ((w64 (u1 * u0.Mul)) + (w64 (u0.Add * u0.Div)))).tdiv (ngcd (w64 ((w64 (u1 * u0.Mul)) + (w64 (u0.Add * u0.Div)))) u0.Div)))) (nog rfl _) rfl (by kernel_rfl) (fun v88 hC => quo_run l (g := []) rfl (by kernel_rfl) (by kernel_rfl) ah rfl) ?_; intro aN m
 obtain ⟨aj, ak⟩ := ai
 refine cst rfl m (i6 (w64 (u0.Div.tdiv (ngcd (w64 ((w64 (u1 * u0.Mul)) + (w64 (u0.Add * u0.Div)))) u0.Div)))) (nog rfl _) rfl (by kernel_rfl) (fun v93 hC => quo_run m (g := []) rfl (by kernel_rfl) (by kernel_rfl) aj rfl) ?_; intro aO T
 refine cS T 1 [] [] [(31, .agg #[str u0.Name, i6 (w64 ((w64 ((w64 (u1 * u0.Mul)) + (w64 (u0.Add * u0.Div)))).tdiv (ngcd (w64 ((w64 (u1 * u0.Mul)) + (w64 (u0.Add * u0.Div)))) u0.Div))), i6 (w64 (u0.Div.tdiv (ngcd (w64 ((w64 (u1 * u0.Mul)) + (w64 (u0.Add * u0.Div)))) u0.Div)))])] ?_; intro aP n
 refine eL rfl ?_; intro al U
 refine sx n S 0 [str u0.Name, i6 (w64 ((w64 ((w64 (u1 * u0.Mul)) + (w64 (u0.Add * u0.Div)))).tdiv (ngcd (w64 ((w64 (u1 * u0.Mul)) + (w64 (u0.Add * u0.Div)))) u0.Div))), i6 (w64 (u0.Div.tdiv (ngcd (w64 ((w64 (u1 * u0.Mul)) + (w64 (u0.Add * u0.Div)))) u0.Div)))] 0 ?_; intro am V
 have W : Mem w.heap.size [] w Z [.row c [str u0.Name, i6 (w64 ((w64 ((w64 (u1 * u0.Mul)) + (w64 (u0.Add * u0.Div)))).tdiv (ngcd (w64 ((w64 (u1 * u0.Mul)) + (w64 (u0.Add * u0.Div)))) u0.Div))), i6 (w64 (u0.Div.tdiv (ngcd (w64 ((w64 (u1 * u0.Mul)) + (w64 (u0.Add * u0.Div)))) u0.Div)))] 37, .row a (e46A u0) 46] Z am := V
 refine nl (qnI (U _ _ ?_))
 refine nS (R _ _ ?_)
 refine t_ (r_ (rt (fn := Tryz.f24) (v := .agg #[str u0.Name, i6 (w64 ((w64 ((w64 (u1 * u0.Mul)) + (w64 (u0.Add * u0.Div)))).tdiv (ngcd (w64 ((w64 (u1 * u0.Mul)) + (w64 (u0.Add * u0.Div)))) u0.Div))), i6 (w64 (u0.Div.tdiv (ngcd (w64 ((w64 (u1 * u0.Mul)) + (w64 (u0.Add * u0.Div)))) u0.Div)))]) n (re1c n (fn := Tryz.f24) rfl (ad := ⟨c, 0, none⟩) (by kernel_rfl) (loadVar_run W 0 (b := c) (k := 3) (vs := [str u0.Name, i6 (w64 ((w64 ((w64 (u1 * u0.Mul)) + (w64 (u0.Add * u0.Div)))).tdiv (ngcd (w64 ((w64 (u1 * u0.Mul)) + (w64 (u0.Add * u0.Div)))) u0.Div))), i6 (w64 (u0.Div.tdiv (ngcd (w64 ((w64 (u1 * u0.Mul)) + (w64 (u0.Add * u0.Div)))) u0.Div)))]) (ty := 37) rfl (by kernel_rfl) (by kernel_rfl)) ) ?_))
 exact ⟨(⟨u0.Name, w64 ((w64 ((w64 (u1 * u0.Mul)) + (w64 (u0.Add * u0.Div)))).tdiv (ngcd (w64 ((w64 (u1 * u0.Mul)) + (w64 (u0.Add * u0.Div)))) u0.Div)), w64 (u0.Div.tdiv (ngcd (w64 ((w64 (u1 * u0.Mul)) + (w64 (u0.Add * u0.Div)))) u0.Div))⟩ : Reading), rfl, ak, W.below⟩
end Go.Proofs.YtdndfbamhnchfaaGreatDoor
set_option linter.unusedVariables false
set_option linter.unusedSimpArgs false
set_option linter.defProp false
set_option maxRecDepth 100000
set_option maxHeartbeats 0
namespace Go.Proofs.YtdndfbamhnchfaaGreatDoor
open Go.Sy Go.RowKit
abbrev e46B (X : Signal) : List Value := [str X.Name, i6 X.Start, i6 X.Size, .bool X.Back, .bool X.Signed, i6 X.Mul, i6 X.Div, i6 X.Add, i6 X.Key]
def splaces_fun (u0 : Signal) (hpre : (0 ≤ u0.Start ∧ u0.Start ≤ 512) ∧ 1 ≤ u0.Size ∧ u0.Size ≤ 40)  (Z : Fz) (w : World)  (hZ : Z.on w) := fc_ (splaces_walk u0  Z w  hZ (splaces_ok u0 hpre))
def smean_fun (u0 : Signal) (u1 : Int) (hpre : factS u0 ∧ -1099511627776 ≤ u1 ∧ u1 ≤ 1099511627776)  (Z : Fz) (w : World)  (hZ : Z.on w) := f_ (smean_walk u0 u1  Z w  hZ (smean_ok u0 u1 hpre))
theorem scheck_walk (u0 : Signal) (u1 : Int)  (Z : Fz) (w : World)  (hZ : Z.on w) {K : Int → Prop} (hp : scheck_vc u0 u1 K) : Calls Tryz.prog 58 #[.agg #[str u0.Name, i6 u0.Start, i6 u0.Size, .bool u0.Back, .bool u0.Signed, i6 u0.Mul, i6 u0.Div, i6 u0.Add, i6 u0.Key], i6 u1] w fun e w' => ∃ r : Int, e = .returned (i6 r) ∧ K r ∧ Below w.heap.size w w' := by
 refine enter0 Tryz.func58 rfl rfl (by kernel_rfl) ?_; intro a0 O; have P := Mem.start w Z hZ
 refine sqH ?_; intro an Q
 refine nw O P pb (e46B u0) 46 ?_; intro R a3 aS S q
 refine s1 S 4 (i6 0) ?_; intro a7 T
 apply Q
 refine s_ (b_ (sqH ?_)); intro ao U
 refine bt T q 2 [0] [] [(8, str u0.Name)] ?_; intro aT V
 refine fc V q (sname_fun u0.Name _ _ q.fz) ?_; intro aU aV W a
 refine bt W a 2 [] [] [(6, .bool (!(nameS u0.Name)))] ?_; intro aW h
 apply U
 refine cd h (t := !(nameS u0.Name)) (by kernel_rfl) (fun E => ?_) (fun E => ?_)
 · -- yes
  have ap := hp.1 E
  refine sqB h a [] [] [(4, i6 1)] ?_; intro aX aq
  exact r_ (i_ (h_ (ra1 aq (i6 1) ⟨1, rfl, ap, a.below⟩)))
 · -- no
  have s := hp.2 E
  refine sqB h a [0, 0] [] [(11, .bool ((((decide (u1 < 0)) || (decide (u1 > 64))) || (decide (u0.Size < 1))) || (decide (u0.Size > 40))))] ?_; intro aY i
  refine cd i (t := (((decide (u1 < 0)) || (decide (u1 > 64))) || (decide (u0.Size < 1))) || (decide (u0.Size > 40))) (by kernel_rfl) (fun F => ?_) (fun F => ?_)
  · -- yes
   have ar := s.1 F
   refine sqB i a [] [] [(4, i6 3)] ?_; intro aZ au
   exact r_ (i_ (h_ (ra1 au (i6 3) ⟨3, rfl, ar, a.below⟩)))
  · -- no
   have u := s.2 F
   refine sqB i a [0, 0, 0, 0, 0, 0, 0, 0] [] [(28, .bool (((((((u0.Mul == 0) || (decide ((max u0.Mul (w64 (0 - u0.Mul))) > 1000000))) || (decide (u0.Mul < (-1000000)))) || (decide (u0.Div < 1))) || (decide (u0.Div > 1000000))) || (decide (u0.Add > 1000000))) || (decide (u0.Add < (-1000000)))))] ?_; intro a1 j
   refine cd j (t := ((((((u0.Mul == 0) || (decide ((max u0.Mul (w64 (0 - u0.Mul))) > 1000000))) || (decide (u0.Mul < (-1000000)))) || (decide (u0.Div < 1))) || (decide (u0.Div > 1000000))) || (decide (u0.Add > 1000000))) || (decide (u0.Add < (-1000000)))) (by kernel_rfl) (fun G => ?_) (fun G => ?_)
   · -- yes
    have av := u.1 G
    refine sqB j a [] [] [(4, i6 3)] ?_; intro a2 aw
    exact r_ (i_ (h_ (ra1 aw (i6 3) ⟨3, rfl, av, a.below⟩)))
   · -- no
    have x := u.2 G
    refine sqB j a [0, 0] [] [(66, .bool ((decide (u0.Key < (-1))) || (decide (u0.Key > 255))))] ?_; intro a4 k
    refine cd k (t := (decide (u0.Key < (-1))) || (decide (u0.Key > 255))) (by kernel_rfl) (fun H => ?_) (fun H => ?_)
    · -- yes
     have ax := x.1 H
     refine sqB k a [] [] [(4, i6 3)] ?_; intro a5 ay
     exact r_ (i_ (h_ (ra1 ay (i6 3) ⟨3, rfl, ax, a.below⟩)))
    · -- no
     have y := x.2 H
     refine sqB k a [0, 0] [] [(75, .bool ((decide (u0.Start < 0)) || (decide (u0.Start ≥ (w64 (8 * u1))))))] ?_; intro a6 l
     refine cd l (t := (decide (u0.Start < 0)) || (decide (u0.Start ≥ (w64 (8 * u1))))) (by kernel_rfl) (fun I => ?_) (fun I => ?_)
     · -- yes
      have az := y.1 I
      refine sqB l a [] [] [(4, i6 7)] ?_; intro a8 aA
      exact r_ (i_ (h_ (ra1 aA (i6 7) ⟨7, rfl, az, a.below⟩)))
     · -- no
      have aB := y.2 I
      refine l_ (j_ (t_ (s_ (sqH ?_)))); intro aC X
      refine l2 l a 86 0 0 9 (e46B u0) rfl rfl ?_; intro a9 Y
      obtain ⟨aD, aa⟩ := aB
      refine ck Y 62 #[.agg (e46B u0).toArray] ?_
      refine (splaces_fun u0 aD _ _ a.fz).mono ?_; rintro _ ab ⟨b, f, aE, rfl, hm⟩; refine ⟨_, rfl, ?_⟩; intro ba ac; have ad := a.callZ hm
      have ae : Mem w.heap.size [] w Z [.own t6 3 b f (placesS u0), .row R (e46B u0) 46] aE ab := ad
      have aG := aa (ae.ownSmall 0 rfl)
      refine s1 ac 5 (.slice b (placesS u0).length f) ?_; intro bb af
      apply X
      refine sqH ?_; intro ag z
      refine s1 af 88 (.slice b (placesS u0).length f) ?_; intro bc ah
      obtain ⟨aH, aI, ai, aj⟩ := ae.freeze 0 rfl
      have J : Mem w.heap.size [] w Z [.row R (e46B u0) 46] aH ab := ai
      obtain ⟨aJ, A⟩ := aG
      refine fc ah J (imax_fun (placesS u0) aJ b f _ _ aj J.fz) ?_; intro bd be ak g
      refine bt ak g 4 [] [] [(93, .bool (decide ((maxL (placesS u0)) ≥ (w64 (8 * u1)))))] ?_; intro bf B
      rcases Bool.eq_false_or_eq_true (decide ((maxL (placesS u0)) ≥ (w64 (8 * u1)))) with m | m
      · -- true
       have aK := A.1 m
       have al := B.reval (d := 93) (c := []) (v := .bool (decide ((maxL (placesS u0)) ≥ (w64 (8 * u1))))) (by kernel_rfl) (.bool true) (by rw [m])
       refine bt al g 4 [] [94, 95, 96, 97] [(97, .bool true)] ?_; intro bg L
       apply z
       refine cdT L (by kernel_rfl) ?_
       refine sqB L g [] [] [(4, i6 7)] ?_; intro bh aL
       exact r_ (h_ (ra1 aL (i6 7) ⟨7, rfl, aK, g.below⟩))
      · -- false
       have aM := A.2 m
       have C := B.reval (d := 93) (c := []) (v := .bool (decide ((maxL (placesS u0)) ≥ (w64 (8 * u1))))) (by kernel_rfl) (.bool false) (by rw [m])
       refine g_ C false (.slice b (placesS u0).length f) ?_; intro bi M
       obtain ⟨aN, D⟩ := aM
       refine fcl M g (i6 (minL (placesS u0))) 87 #[.slice b (placesS u0).length f] (wK M false) rfl (by kernel_rfl) (fun _ => by kernel_rfl) (imin_fun (placesS u0) aN b f _ _ aj g.fz) ?_; intro bj bk am n
       refine bt am n 2 [] [96, 97] [(97, .bool (decide ((minL (placesS u0)) < 0)))] ?_; intro bl o
       apply z
       refine cd o (t := decide ((minL (placesS u0)) < 0)) (by kernel_rfl) (fun N => ?_) (fun N => ?_)
       · -- yes
        have aO := D.1 N
        refine sqB o n [] [] [(4, i6 7)] ?_; intro bm aP
        exact r_ (h_ (ra1 aP (i6 7) ⟨7, rfl, aO, n.below⟩))
       · -- no
        have aQ := D.2 N
        refine k_ (sqB o n [] [] [(4, i6 0)] ?_); intro bn aR
        exact r_ (ra1 aR (i6 0) ⟨0, rfl, aQ, n.below⟩)
theorem sget_walk (u0 : Signal) (u1 : List Int) (ao1 : Option Addr) (cap2 : Nat) (Z : Fz) (w : World) (hs3 : SlR t8 Z ao1 cap2 u1) (hZ : Z.on w) {K : Int → Prop} (hp : sget_vc u0 u1 K) : Calls Tryz.prog 25 #[.agg #[str u0.Name, i6 u0.Start, i6 u0.Size, .bool u0.Back, .bool u0.Signed, i6 u0.Mul, i6 u0.Div, i6 u0.Add, i6 u0.Key], .slice ao1 u1.length cap2] w fun e w' => ∃ r : Int, e = .returned (i6 r) ∧ K r ∧ Below w.heap.size w w' := by
 refine enter0 Tryz.func25 rfl rfl (by kernel_rfl) ?_; intro a0 M; have N := Mem.start w Z hZ
 have aJ := hp (hs3.small)
 refine sqH ?_; intro aK O
 refine nw M N pb (e46B u0) 46 ?_; intro i a7 bu P l
 refine s1 P 4 (i6 0) ?_; intro bv Q
 apply O
 refine sqB Q l [] [] [(5, i6 0)] ?_; intro bw R
 refine s_ (sqH ?_); intro aL S
 refine l2 R l 8 0 0 9 (e46B u0) rfl rfl ?_; intro bx U
 obtain ⟨aM, V⟩ := aJ
 refine ck U 62 #[.agg (e46B u0).toArray] ?_
 refine (splaces_fun u0 aM _ _ l.fz).mono ?_; rintro _ W ⟨m, n, aN, rfl, hm⟩; refine ⟨_, rfl, ?_⟩; intro bz X; have Y := l.callZ hm; have aa := hm.ext.le
 replace hs3 := hs3.mono aa
 have D : Mem w.heap.size [] w Z [.own t6 3 m n (placesS u0), .row i (e46B u0) 46] aN W := Y
 have aO := V (D.ownSmall 0 rfl)
 refine bt X D 2 [] [] [(10, i6 ((placesS u0).length : Int)), (11, i6 0)] ?_; intro ab ac
 apply S
 apply b_
 have ad : Fr 47 [] [⟨1, [], .slice ao1 u1.length cap2⟩, ⟨2, [], pt i 0⟩, ⟨5, [], i6 0⟩, ⟨9, [], .slice m (placesS u0).length n⟩, ⟨10, [], i6 ((placesS u0).length : Int)⟩, ⟨11, [], i6 0⟩] ab := ac.reg
 obtain ⟨E, ae, af, aP⟩ := D.freeze 0 rfl
 replace hs3 := hs3.mono ae
 have ag : Mem w.heap.size [] w Z [.row i (e46B u0) 46] E W := af
 have ah : Fr 47 [] [⟨1, [], .slice ao1 u1.length cap2⟩, ⟨2, [], pt i 0⟩, ⟨5, [], i6 0⟩, ⟨9, [], .slice m (placesS u0).length n⟩, ⟨10, [], i6 ((placesS u0).length : Int)⟩, ⟨11, [], i6 0⟩] ab := ad.reg
 obtain ⟨aQ, aR, aS, aT⟩ := aO
 refine lp (ι := Int × Int) (fun s => [⟨1, [], .slice ao1 u1.length cap2⟩, ⟨2, [], pt i 0⟩, ⟨5, [], i6 s.1⟩, ⟨9, [], .slice m (placesS u0).length n⟩, ⟨10, [], i6 ((placesS u0).length : Int)⟩, ⟨11, [], i6 s.2⟩]) (fun s => [.row i (e46B u0) 46]) (fun s => E) (fun s => aQ s.1 s.2) (fun s => aR s.1 s.2) ⟨0, 0⟩ aS (by exact ah.region (by kernel_rfl) (by kernel_rfl)) (by exact ag) ?_
 rintro ⟨b, f⟩ aU aV aW ai aj
 have x := aT b f aU
 refine sqB ai aj [] [] [(12, .bool (decide (f < ((placesS u0).length : Int))))] ?_; intro bA o
 apply s_
 refine cd o (t := decide (f < ((placesS u0).length : Int))) (by kernel_rfl) (fun F => ?_) (fun F => ?_)
 · -- yes
  have aX := x.1 F
  refine k_ (s_ (b_ (sqH ?_))); intro aY al
  refine s1 o 13 (i6 f) ?_; intro bB am
  obtain ⟨aZ, an⟩ := aX
  refine ix_ am aP f aZ .i64 3 8 ?_; intro bC bD a1 h bE a2 a3 a4 ao
  have a5 := an h a2
  obtain rfl : a1 = ([i6 h] : List Value) := a4
  refine z1 ao aj 15 a3 0 (i6 h) rfl ?_; intro bF ap
  refine bt ap aj 2 [] [] [(6, i6 f), (7, i6 h)] ?_; intro bG aq
  apply al
  refine rgH ?_; intro a6 ar
  refine bt aq aj 4 [] [] [(16, i6 b), (17, .slice ao1 u1.length cap2), (19, i6 (w64 (h.tdiv 8)))] ?_; intro bH au
  obtain ⟨a8, av⟩ := a5
  refine ix_ au hs3 (w64 (h.tdiv 8)) a8 .i64 5 1 ?_; intro bI bJ a9 j bK ba bb bc aw
  have bd := av j ba
  obtain rfl : a9 = ([y8 j] : List Value) := bc
  refine z1 aw aj 21 bb 0 (y8 j) rfl ?_; intro bL ax
  refine bt ax aj 2 [] [] [(23, i6 (h.tmod 8))] ?_; intro bM G
  obtain ⟨be, bf⟩ := bd
  refine u_ G (y8 (bShr .u8 j (h.tmod 8))) (shr_run G (g := []) (k' := .i64) rfl (by kernel_rfl) (by kernel_rfl) be rfl) ?_; intro bN ay
  refine bt ay aj 3 [] [] [(26, i6 (w64 (bAnd .u8 (bShr .u8 j (h.tmod 8)) 1))), (27, i6 f)] ?_; intro bO H
  obtain ⟨bg, az⟩ := bf
  refine u_ H (i6 (bShl .i64 (w64 (bAnd .u8 (bShr .u8 j (h.tmod 8)) 1)) f)) (shl_run H (g := []) (k' := .i64) rfl (by kernel_rfl) (by kernel_rfl) bg rfl) ?_; intro bP aA
  refine bt aA aj 2 [] [] [(5, i6 (bOr .i64 b (bShl .i64 (w64 (bAnd .u8 (bShr .u8 j (h.tmod 8)) 1)) f)))] ?_; intro bQ aB
  apply ar
  refine j_ (t_ (rgB aB aj [] [] [(11, i6 (w64 (f + 1)))] ?_)); intro bR bh
  exact d_ ⟨⟨bOr .i64 b (bShl .i64 (w64 (bAnd .u8 (bShr .u8 j (h.tmod 8)) 1)) f), w64 (f + 1)⟩, az.1, az.2, (bh.region (by kernel_rfl) (by kernel_rfl)).anyβ _ (by kernel_rfl), aj.kp⟩
 · -- no
  have y := x.2 F
  refine x_ (y_ (y_ (z_ (t_ (s_ (sqH ?_)))))); intro aC z
  refine bt o aj 3 [0] [] [(33, .bool u0.Signed)] ?_; intro bS A
  rcases Bool.eq_false_or_eq_true (u0.Signed) with p | p
  · -- true
   have bi := y.1 p
   have aD := A.reval (d := 33) (c := []) (v := .bool u0.Signed) (by kernel_rfl) (.bool true) (by rw [p])
   refine bt aD aj 4 [0] [34, 35, 36, 37] [(34, i6 b), (37, i6 (w64 (u0.Size - 1)))] ?_; intro bT B
   obtain ⟨bj, C⟩ := bi
   refine v_ B (i6 (bShr .i64 b (w64 (u0.Size - 1)))) (wK B true) (shr_run B (g := []) (k' := .i64) rfl (by kernel_rfl) (by kernel_rfl) bj rfl) ?_; intro bU aE
   refine bt aE aj 2 [] [39, 40] [(40, .bool ((bShr .i64 b (w64 (u0.Size - 1))) == 1))] ?_; intro bV q
   apply z
   refine cd q (t := (bShr .i64 b (w64 (u0.Size - 1))) == 1) (by kernel_rfl) (fun I => ?_) (fun I => ?_)
   · -- yes
    have bk := C.1 I
    refine rgH ?_; intro bl aF
    refine bt q aj 3 [0] [] [(41, i6 b), (43, i6 u0.Size)] ?_; intro bW J
    obtain ⟨bm, bn⟩ := bk
    refine u_ J (i6 (bShl .i64 1 u0.Size)) (shl_run J (g := []) (k' := .i64) rfl (by kernel_rfl) (by kernel_rfl) bm rfl) ?_; intro bX aG
    refine bt aG aj 2 [] [] [(5, i6 (w64 (b - (bShl .i64 1 u0.Size))))] ?_; intro bY aH
    apply aF
    refine t_ (sqB aH aj [] [] [(4, i6 (w64 (b - (bShl .i64 1 u0.Size))))] ?_); intro bZ bo
    exact r_ (ra1 bo (i6 (w64 (b - (bShl .i64 1 u0.Size)))) ⟨w64 (b - (bShl .i64 1 u0.Size)), rfl, bn, aj.below⟩)
   · -- no
    have bp := C.2 I
    refine k_ (sqB q aj [] [] [(4, i6 b)] ?_); intro b0 bq
    exact r_ (ra1 bq (i6 b) ⟨b, rfl, bp, aj.below⟩)
  · -- false
   have br := y.2 p
   have aI := A.reval (d := 33) (c := []) (v := .bool u0.Signed) (by kernel_rfl) (.bool false) (by rw [p])
   refine bt aI aj 7 [] [34, 35, 36, 37, 38, 39, 40] [(40, .bool false)] ?_; intro b1 L
   apply z
   refine cdF L (by kernel_rfl) ?_
   refine k_ (sqB L aj [] [] [(4, i6 b)] ?_); intro b2 bs
   exact r_ (ra1 bs (i6 b) ⟨b, rfl, br, aj.below⟩)
theorem sputd_walk (u0 : Signal) (u1 : List Int) (u2 : Int) (ao1 : Option Addr) (cap2 : Nat) (B : Nat) (w0 : World) (Z0 : Fz) (Rr : List Res) (Z : Fz) (w : World) (hM0 : Mem B [] w0 Z0 ((.own t8 5 ao1 cap2 u1) :: Rr) Z w) (hZ : Z.on w) {K : (List Int) → Prop} (hp : sputd_vc u0 u1 u2 K) : Calls Tryz.prog 37 #[.agg #[str u0.Name, i6 u0.Start, i6 u0.Size, .bool u0.Back, .bool u0.Signed, i6 u0.Mul, i6 u0.Div, i6 u0.Add, i6 u0.Key], .slice ao1 u1.length cap2, i6 u2] w fun e w' => ∃ (r : (List Int)) (Z' : Fz), e = .returned (.tuple #[]) ∧ K r ∧ Fz.le Z Z' ∧ (r.length = u1.length) ∧ Mem B [] w0 Z0 ((.own t8 5 ao1 cap2 r) :: Rr) Z' w' := by
 refine enter0 Tryz.func37 rfl rfl (by kernel_rfl) ?_; intro a0 G; have n := Fz.le.refl Z
 have ax := hp (hM0.ownSmall 0 rfl)
 refine sqH ?_; intro ay H
 refine nw G hM0 pb (e46B u0) 46 ?_; intro o a6 bj I q
 apply H
 refine sqH ?_; intro az J
 refine l2 I q 8 0 0 9 (e46B u0) rfl rfl ?_; intro bk L
 obtain ⟨aA, M⟩ := ax
 refine ck L 62 #[.agg (e46B u0).toArray] ?_
 refine (splaces_fun u0 aA _ _ q.fz).mono ?_; rintro _ N ⟨f, i, aB, rfl, hm⟩; refine ⟨_, rfl, ?_⟩; intro bl O; have P := q.callZ hm; have aC := hm.ext.le
 replace n := Fz.le.trans n aC
 have A : Mem B [] w0 Z0 ((.own t6 3 f i (placesS u0)) :: (.row o (e46B u0) 46) :: (.own t8 5 ao1 cap2 u1) :: Rr) aB N := P
 have aD := M (A.ownSmall 0 rfl)
 refine bt O A 2 [] [] [(10, i6 ((placesS u0).length : Int)), (11, i6 0)] ?_; intro Q R
 apply J
 apply b_
 have S : Fr 39 [] [⟨1, [], .slice ao1 u1.length cap2⟩, ⟨2, [], i6 u2⟩, ⟨9, [], .slice f (placesS u0).length i⟩, ⟨10, [], i6 ((placesS u0).length : Int)⟩, ⟨11, [], i6 0⟩] Q := R.reg
 obtain ⟨l, aE, U, aF⟩ := A.freeze 0 rfl
 replace n := Fz.le.trans n aE
 have V : Mem B [] w0 Z0 ((.row o (e46B u0) 46) :: (.own t8 5 ao1 cap2 u1) :: Rr) l N := U
 have W : Fr 39 [] [⟨1, [], .slice ao1 u1.length cap2⟩, ⟨2, [], i6 u2⟩, ⟨9, [], .slice f (placesS u0).length i⟩, ⟨10, [], i6 ((placesS u0).length : Int)⟩, ⟨11, [], i6 0⟩] Q := S.reg
 obtain ⟨aG, aH, aI, aJ⟩ := aD
 refine lp (ι := Int × (List Int)) (fun s => [⟨1, [], .slice ao1 s.2.length cap2⟩, ⟨2, [], i6 u2⟩, ⟨9, [], .slice f (placesS u0).length i⟩, ⟨10, [], i6 ((placesS u0).length : Int)⟩, ⟨11, [], i6 s.1⟩]) (fun s => ((.row o (e46B u0) 46) :: (.own t8 5 ao1 cap2 s.2) :: Rr)) (fun s => l) (fun s => aG s.1 s.2) (fun s => aH s.1 s.2) ⟨0, u1⟩ aI (by exact W.region (by kernel_rfl) (by kernel_rfl)) (by exact V) ?_
 rintro ⟨b, c⟩ aK aL aM X Y
 have x := aJ b c aK
 refine sqB X Y [] [] [(12, .bool (decide (b < ((placesS u0).length : Int))))] ?_; intro bm p
 apply s_
 refine cd p (t := decide (b < ((placesS u0).length : Int))) (by kernel_rfl) (fun C => ?_) (fun C => ?_)
 · -- yes
  have aN := x.1 C
  refine k_ (s_ (b_ (sqH ?_))); intro aO ab
  refine s1 p 13 (i6 b) ?_; intro bn ac
  obtain ⟨aP, ad⟩ := aN
  refine ix_ ac aF b aP .i64 3 8 ?_; intro bo bp aQ a bq aR aS aT ae
  have aU := ad a aR
  obtain rfl : aQ = ([i6 a] : List Value) := aT
  refine z1 ae Y 15 aS 0 (i6 a) rfl ?_; intro br af
  refine bt af Y 2 [] [] [(6, i6 b), (7, i6 a)] ?_; intro aV ag
  apply ab
  have ah : Fr 39 [] [⟨1, [], .slice ao1 c.length cap2⟩, ⟨2, [], i6 u2⟩, ⟨6, [], i6 b⟩, ⟨7, [], i6 a⟩, ⟨9, [], .slice f (placesS u0).length i⟩, ⟨10, [], i6 ((placesS u0).length : Int)⟩, ⟨11, [], i6 b⟩] aV := ag.reg
  refine rgS mixed Y [(0, true), (1, true), (2, true), (3, true), (4, true), (5, true), (8, true), (9, true), (12, true), (13, true), (17, true), (18, true), (6, true), (7, true), (10, true), (11, true), (14, true), (15, true), (16, true), (19, true), (20, true), (21, true), (22, false)] [22] [1] [.own t8 5 ao1 cap2 c] ?_
  intro aW ai bs y
  refine cS ah 12 [] [] [(16, .slice ao1 c.length cap2), (18, i6 (w64 (a.tdiv 8))), (19, .slice ao1 c.length cap2), (21, i6 (w64 (a.tdiv 8))), (25, i6 (a.tmod 8)), (28, i6 u2), (29, i6 b), (34, i6 (a.tmod 8))] ?_; intro bv aj
  obtain ⟨aX, ak⟩ := aU
  refine cixo rfl aj y 1 (T := t8) (xs := c) (w64 (a.tdiv 8)) aX (k := .i64) (e := 5) (bytes := 1) (nog rfl _) rfl (by kernel_rfl) rfl (by kernel_rfl) (by kernel_rfl) rfl (by kernel_rfl) ?_; intro j bw aY al
  subst aY
  obtain ⟨d, aZ, a1⟩ := gxq ak (by first | omega | (simp only [List.length_set] at *; omega))
  refine clo1 rfl al 0 (T := t8) (xs := c) rfl (w64 (a.tdiv 8)).toNat 0 aZ [y8 d] (fun _ h => h) (y8 d) rfl (nog rfl _) rfl (by kernel_rfl) rfl (by kernel_rfl) (by kernel_rfl) ?_; intro bx D
  obtain ⟨a2, a3⟩ := a1
  refine cst rfl D (y8 (bShl .u8 1 (a.tmod 8))) (nog rfl _) rfl (by kernel_rfl) (fun v117 hC => shl_run D (g := []) (k' := .i64) rfl (by kernel_rfl) (by kernel_rfl) a2 rfl) ?_; intro bz am
  refine cS am 1 [] [] [(27, y8 (bAndNot .u8 d (bShl .u8 1 (a.tmod 8))))] ?_; intro bA E
  obtain ⟨a4, a5⟩ := a3
  refine cst rfl E (i6 (bShr .i64 u2 b)) (nog rfl _) rfl (by kernel_rfl) (fun v124 hC => shr_run E (g := []) (k' := .i64) rfl (by kernel_rfl) (by kernel_rfl) a4 rfl) ?_; intro bB an
  refine cS an 2 [] [] [(32, y8 (w8 (bAnd .i64 (bShr .i64 u2 b) 1)))] ?_; intro bC F
  obtain ⟨a7, a8⟩ := a5
  refine cst rfl F (y8 (bShl .u8 (w8 (bAnd .i64 (bShr .i64 u2 b) 1)) (a.tmod 8))) (nog rfl _) rfl (by kernel_rfl) (fun v133 hC => shl_run F (g := []) (k' := .i64) rfl (by kernel_rfl) (by kernel_rfl) a7 rfl) ?_; intro bD ao
  refine cS ao 1 [] [] [(36, y8 (bOr .u8 (bAndNot .u8 d (bShl .u8 1 (a.tmod 8))) (bShl .u8 (w8 (bAnd .i64 (bShr .i64 u2 b) 1)) (a.tmod 8))))] ?_; intro bE ap
  obtain ⟨a9, aq⟩ := a8
  refine cixo rfl ap y 1 (T := t8) (xs := c) (w64 (a.tdiv 8)) a9 (k := .i64) (e := 5) (bytes := 1) (nog rfl _) rfl (by kernel_rfl) rfl (by kernel_rfl) (by kernel_rfl) rfl (by kernel_rfl) ?_; intro ba bb bc z
  obtain rfl : j = ba := by simpa using bc
  refine eL rfl ?_; intro bd ar
  refine so z y 1 (T := t8) (xs := c) (w64 (a.tdiv 8)).toNat (bOr .u8 (bAndNot .u8 d (bShl .u8 1 (a.tmod 8))) (bShl .u8 (w8 (bAnd .i64 (bShr .i64 u2 b) 1)) (a.tmod 8))) (u := y8 (bOr .u8 (bAndNot .u8 d (bShl .u8 1 (a.tmod 8))) (bShl .u8 (w8 (bAnd .i64 (bShr .i64 u2 b) 1)) (a.tmod 8)))) (nog rfl _) rfl rfl (by kernel_rfl) rfl (by kernel_rfl) rfl (by kernel_rfl) (by first | omega | (simp only [List.length_set] at *; omega)) rfl ?_; intro be au
  have av : Fr 39 [] [⟨1, [], .slice (sm j) (c.set (w64 (a.tdiv 8)).toNat (bOr .u8 (bAndNot .u8 d (bShl .u8 1 (a.tmod 8))) (bShl .u8 (w8 (bAnd .i64 (bShr .i64 u2 b) 1)) (a.tmod 8)))).length cap2⟩, ⟨2, [], i6 u2⟩, ⟨6, [], i6 b⟩, ⟨7, [], i6 a⟩, ⟨9, [], .slice f (placesS u0).length i⟩, ⟨10, [], i6 ((placesS u0).length : Int)⟩, ⟨11, [], i6 b⟩, ⟨16, [], .slice (sm j) (c.set (w64 (a.tdiv 8)).toNat (bOr .u8 (bAndNot .u8 d (bShl .u8 1 (a.tmod 8))) (bShl .u8 (w8 (bAnd .i64 (bShr .i64 u2 b) 1)) (a.tmod 8)))).length cap2⟩, ⟨18, [], i6 (w64 (a.tdiv 8))⟩, ⟨19, [], .slice (sm j) (c.set (w64 (a.tdiv 8)).toNat (bOr .u8 (bAndNot .u8 d (bShl .u8 1 (a.tmod 8))) (bShl .u8 (w8 (bAnd .i64 (bShr .i64 u2 b) 1)) (a.tmod 8)))).length cap2⟩, ⟨21, [], i6 (w64 (a.tdiv 8))⟩, ⟨22, [], .pointer (some ⟨j, (w64 (a.tdiv 8)).toNat * 1, none⟩)⟩, ⟨23, [], y8 d⟩, ⟨25, [], i6 (a.tmod 8)⟩, ⟨26, [], y8 (bShl .u8 1 (a.tmod 8))⟩, ⟨27, [], y8 (bAndNot .u8 d (bShl .u8 1 (a.tmod 8)))⟩, ⟨28, [], i6 u2⟩, ⟨29, [], i6 b⟩, ⟨30, [], i6 (bShr .i64 u2 b)⟩, ⟨32, [], y8 (w8 (bAnd .i64 (bShr .i64 u2 b) 1))⟩, ⟨34, [], i6 (a.tmod 8)⟩, ⟨35, [], y8 (bShl .u8 (w8 (bAnd .i64 (bShr .i64 u2 b) 1)) (a.tmod 8))⟩, ⟨36, [], y8 (bOr .u8 (bAndNot .u8 d (bShl .u8 1 (a.tmod 8))) (bShl .u8 (w8 (bAnd .i64 (bShr .i64 u2 b) 1)) (a.tmod 8)))⟩, ⟨37, [], .pointer (some ⟨j, (w64 (a.tdiv 8)).toNat * 1, none⟩)⟩] bb := by (try simp only [List.length_set] at z); (try simp only [List.length_set]); exact z.region (by kernel_rfl) (by kernel_rfl)
  have aw : Mem B [] w0 Z0 ((.row o (e46B u0) 46) :: (.own t8 5 (sm j) cap2 (c.set (w64 (a.tdiv 8)).toNat (bOr .u8 (bAndNot .u8 d (bShl .u8 1 (a.tmod 8))) (bShl .u8 (w8 (bAnd .i64 (bShr .i64 u2 b) 1)) (a.tmod 8))))) :: Rr) l be := au
  refine nl (qnI (ar _ _ ?_))
  refine nS (ai _ _ ?_)
  refine j_ (t_ (rgB av aw [] [] [(11, i6 (w64 (b + 1)))] ?_)); intro bF bf
  exact d_ ⟨⟨w64 (b + 1), c.set (w64 (a.tdiv 8)).toNat (bOr .u8 (bAndNot .u8 d (bShl .u8 1 (a.tmod 8))) (bShl .u8 (w8 (bAnd .i64 (bShr .i64 u2 b) 1)) (a.tmod 8)))⟩, aq.1, aq.2, (bf.region (by kernel_rfl) (by kernel_rfl)).anyβ _ (by kernel_rfl), aw.kp⟩
 · -- no
  have bg := x.2 C
  refine x_ (y_ (y_ (z_ ?_)))
  obtain ⟨bh, bi⟩ := bg
  refine rN (fn := Tryz.f37) (v := .tuple #[]) p (re0 p (fn := Tryz.f37) rfl) ?_
  exact ⟨c, l, rfl, bi, n, bh, Y.kp⟩
end Go.Proofs.YtdndfbamhnchfaaGreatDoor
set_option linter.unusedVariables false
set_option linter.unusedSimpArgs false
set_option linter.defProp false
set_option maxRecDepth 100000
set_option maxHeartbeats 0
namespace Go.Proofs.YtdndfbamhnchfaaGreatDoor
open Go.Sy Go.RowKit
abbrev e46C (X : Signal) : List Value := [str X.Name, i6 X.Start, i6 X.Size, .bool X.Back, .bool X.Signed, i6 X.Mul, i6 X.Div, i6 X.Add, i6 X.Key]
def scheck_fun (u0 : Signal) (u1 : Int)  (Z : Fz) (w : World)  (hZ : Z.on w) := f_ (scheck_walk u0 u1  Z w  hZ (scheck_ok u0 u1))
def sget_fun (u0 : Signal) (u1 : List Int) (hpre : inD u0 u1) (ao1 : Option Addr) (cap2 : Nat) (Z : Fz) (w : World) (hs3 : SlR t8 Z ao1 cap2 u1) (hZ : Z.on w) := f_ (sget_walk u0 u1 ao1 cap2 Z w hs3 hZ (sget_ok u0 u1 hpre))
theorem sputd_fun (u0 : Signal) (u1 : List Int) (u2 : Int) (hpre : inD u0 u1) (ao1 : Option Addr) (cap2 : Nat) (B : Nat) (w0 : World) (Z0 : Fz) (Rr : List Res) (Z : Fz) (w : World) (hM0 : Mem B [] w0 Z0 ((.own t8 5 ao1 cap2 u1) :: Rr) Z w) (hZ : Z.on w) : Calls Tryz.prog 37 #[.agg #[str u0.Name, i6 u0.Start, i6 u0.Size, .bool u0.Back, .bool u0.Signed, i6 u0.Mul, i6 u0.Div, i6 u0.Add, i6 u0.Key], .slice ao1 u1.length cap2, i6 u2] w fun e w' => ∃ (Z' : Fz), e = .returned (.tuple #[]) ∧ Fz.le Z Z' ∧ ((putS u0 u1 u2).length = u1.length) ∧ Mem B [] w0 Z0 ((.own t8 5 ao1 cap2 (putS u0 u1 u2)) :: Rr) Z' w' :=
 (sputd_walk u0 u1 u2 ao1 cap2 B w0 Z0 Rr Z w hM0 hZ (sputd_ok u0 u1 u2 hpre)).mono fun _ _ ⟨r, h0, he, hk, f0, f1, hm⟩ => by subst hk; exact ⟨h0, he, f0, f1, hm⟩
theorem sraw_walk (u0 : Signal) (u1 : Int) (u2 : Int)  (Z : Fz) (w : World)  (hZ : Z.on w) {K : (Int × Int) → Prop} (hp : sraw_vc u0 u1 u2 K) : Calls Tryz.prog 36 #[.agg #[str u0.Name, i6 u0.Start, i6 u0.Size, .bool u0.Back, .bool u0.Signed, i6 u0.Mul, i6 u0.Div, i6 u0.Add, i6 u0.Key], i6 u1, i6 u2] w fun e w' => ∃ r : Int × Int, e = .returned (.tuple #[i6 r.1, i6 r.2]) ∧ K r ∧ Below w.heap.size w w' := by
 refine enter0 Tryz.func36 rfl rfl (by kernel_rfl) ?_; intro a0 aq; have ar := Mem.start w Z hZ
 refine sqH ?_; intro cH au
 refine nw aq ar pb (e46C u0) 46 ?_; intro k a3 dM av p
 refine bt av p 2 [] [] [] ?_; intro a9 aw
 apply au
 refine s_ (sqH ?_); intro cI ax
 refine l2 aw p 17 0 0 9 (e46C u0) rfl rfl ?_; intro dN ay
 refine fc ay p (scheck_fun u0 64 _ _ p.fz) ?_; intro dO dP az l
 refine s1 az 8 (i6 (checkS u0 64)) ?_; intro dQ aA
 apply ax
 refine sqB aA l [] [] [(20, .bool ((checkS u0 64) != 0))] ?_; intro dR q
 refine c_ q hp (fun _ cJ => ?_) fun _ B => ?_
 ·
  refine sqB q l [] [] [(6, i6 0), (7, i6 (checkS u0 64))] ?_; intro dS cK
  exact r_ (h_ (ra2 cK (.tuple #[i6 0, i6 (checkS u0 64)]) ⟨(0, (checkS u0 64)), rfl, cJ, l.below⟩))
 refine k_ (s_ (sqB q l [] [] [(35, .bool ((((decide (u2 < 1)) || (decide (u2 > 1000000))) || (decide (u1 > 1099511627776))) || (decide (u1 < (-1099511627776)))))] ?_)); intro dT s
 refine c_ s B (fun _ cL => ?_) fun _ cN => ?_
 ·
  refine sqB s l [] [] [(6, i6 0), (7, i6 3)] ?_; intro dU cM
  exact r_ (h_ (ra2 cM (.tuple #[i6 0, i6 3]) ⟨(0, 3), rfl, cL, l.below⟩))
 refine k_ (sqB s l [0] [] [(9, i6 (w64 (u1 - (w64 (u0.Add * u2)))))] ?_); intro dV aB
 refine sqH ?_; intro cO aC
 refine bt aB l 4 [0, 0] [] [(43, i6 u0.Div), (45, i6 u0.Mul)] ?_; intro dW aD
 refine ck aD 61 #[i6 u0.Div, i6 u0.Mul] ?_
 refine (sgcd_walk u0.Div u0.Mul _ _ l.fz cN).mono ?_; rintro _ dX ⟨i, rfl, cP, hb⟩; refine ⟨_, rfl, ?_⟩; intro dY aE; have aF := l.call hb
 refine s1 aE 10 (i6 i) ?_; intro cQ aG
 apply aC
 have aH : Fr 171 [] [⟨2, [], i6 u2⟩, ⟨3, [], pt k 0⟩, ⟨9, [], i6 (w64 (u1 - (w64 (u0.Add * u2))))⟩, ⟨10, [], i6 i⟩] cQ := aG.reg
 refine sqQH mixed (by kernel_rfl) aF ?_; intro cR aI
 refine q1 aH 47 (pt k 6) ?_; intro dZ M
 refine ql_ M 0 6 (i6 u0.Div) rfl rfl ?_; intro d0 aJ
 refine q1 aJ 49 (i6 i) ?_; intro d1 N
 obtain ⟨cS, cT⟩ := cP
 refine qu_ N (i6 (w64 (u0.Div.tdiv i))) (fun v118 hC => quo_run N (g := []) rfl (by kernel_rfl) (by kernel_rfl) cS rfl) ?_; intro d2 aK
 refine q1 aK 51 (pt k 5) ?_; intro d3 O
 refine ql_ O 0 5 (i6 u0.Mul) rfl rfl ?_; intro d4 aL
 refine q1 aL 53 (i6 i) ?_; intro d5 P
 obtain ⟨cU, cV⟩ := cT
 refine qu_ P (i6 (w64 (u0.Mul.tdiv i))) (fun v132 hC => quo_run P (g := []) rfl (by kernel_rfl) (by kernel_rfl) cU rfl) ?_; intro d6 aM
 refine q1 aM 11 (i6 (w64 (u0.Div.tdiv i))) ?_; intro d7 aN
 refine q1 aN 12 (i6 (w64 (u0.Mul.tdiv i))) ?_; intro d8 aO
 refine qnl (aI _ ?_); intro d9 u
 refine s_ (sqB aO u [] [] [(56, .bool (decide ((w64 (u0.Mul.tdiv i)) < 0)))] ?_); intro aP aQ
 have aR : Fr 171 [] [⟨2, [], i6 u2⟩, ⟨3, [], pt k 0⟩, ⟨9, [], i6 (w64 (u1 - (w64 (u0.Add * u2))))⟩, ⟨11, [], i6 (w64 (u0.Div.tdiv i))⟩, ⟨12, [], i6 (w64 (u0.Mul.tdiv i))⟩, ⟨56, [], .bool (decide ((w64 (u0.Mul.tdiv i)) < 0))⟩] aP := aQ.reg
 obtain ⟨cW, C, cX⟩ := cV
 refine wp_then_k fun KJ155 hKJ156 => ?_
 have aS : ∀ (f : Int) (j : Int), cW f j → ∀ a1 w1, Fr 171 [] [⟨2, [], i6 u2⟩, ⟨3, [], pt k 0⟩, ⟨9, [], i6 (w64 (u1 - (w64 (u0.Add * u2))))⟩, ⟨11, [], i6 f⟩, ⟨12, [], i6 j⟩] a1 → Mem w.heap.size [] w Z [.row k (e46C u0) 46] Z w1 → KJ155 a1 w1 := by
  rintro f j cY ea eb aT D
  refine hKJ156 _ _ ?_
  have cZ := cX f j cY
  refine sqH ?_; intro c0 aU
  refine bt aT D 2 [] [] [(61, i6 (w64 (u1 - (w64 (u0.Add * u2))))), (62, i6 u2)] ?_; intro ec aV
  refine ck aV 61 #[i6 (w64 (u1 - (w64 (u0.Add * u2)))), i6 u2] ?_
  refine (sgcd_walk (w64 (u1 - (w64 (u0.Add * u2)))) u2 _ _ D.fz cZ).mono ?_; rintro _ ed ⟨a, rfl, c1, hb⟩; refine ⟨_, rfl, ?_⟩; intro ee aW; have aX := D.call hb
  refine s1 aW 13 (i6 a) ?_; intro c2 aY
  apply aU
  have aZ : Fr 171 [] [⟨2, [], i6 u2⟩, ⟨3, [], pt k 0⟩, ⟨9, [], i6 (w64 (u1 - (w64 (u0.Add * u2))))⟩, ⟨11, [], i6 f⟩, ⟨12, [], i6 j⟩, ⟨13, [], i6 a⟩] c2 := aY.reg
  refine sqQH mixed (by kernel_rfl) aX ?_; intro c3 a2
  refine q1 aZ 64 (i6 (w64 (u1 - (w64 (u0.Add * u2))))) ?_; intro ef a4
  refine q1 a4 65 (i6 a) ?_; intro eg Q
  obtain ⟨c4, c5⟩ := c1
  refine qu_ Q (i6 (w64 ((w64 (u1 - (w64 (u0.Add * u2)))).tdiv a))) (fun v185 hC => quo_run Q (g := []) rfl (by kernel_rfl) (by kernel_rfl) c4 rfl) ?_; intro eh a5
  refine q1 a5 67 (i6 u2) ?_; intro ei a6
  refine q1 a6 68 (i6 a) ?_; intro ej R
  obtain ⟨c6, c7⟩ := c5
  refine qu_ R (i6 (w64 (u2.tdiv a))) (fun v196 hC => quo_run R (g := []) rfl (by kernel_rfl) (by kernel_rfl) c6 rfl) ?_; intro ek a7
  refine q1 a7 9 (i6 (w64 ((w64 (u1 - (w64 (u0.Add * u2)))).tdiv a))) ?_; intro el a8
  refine q1 a8 2 (i6 (w64 (u2.tdiv a))) ?_; intro em ba
  refine qnl (a2 _ ?_); intro en E
  refine sqH ?_; intro c8 bb
  refine bt ba E 2 [] [] [(70, i6 f), (71, i6 (w64 (u2.tdiv a)))] ?_; intro eo bc
  refine ck bc 61 #[i6 f, i6 (w64 (u2.tdiv a))] ?_
  refine (sgcd_walk f (w64 (u2.tdiv a)) _ _ E.fz c7).mono ?_; rintro _ ep ⟨h, rfl, c9, hb⟩; refine ⟨_, rfl, ?_⟩; intro eq bd; have be := E.call hb
  refine s1 bd 13 (i6 h) ?_; intro da bf
  apply bb
  have bg : Fr 171 [] [⟨2, [], i6 (w64 (u2.tdiv a))⟩, ⟨3, [], pt k 0⟩, ⟨9, [], i6 (w64 ((w64 (u1 - (w64 (u0.Add * u2)))).tdiv a))⟩, ⟨11, [], i6 f⟩, ⟨12, [], i6 j⟩, ⟨13, [], i6 h⟩] da := bf.reg
  refine sqQH mixed (by kernel_rfl) be ?_; intro db bh
  refine q1 bg 73 (i6 f) ?_; intro er bi
  refine q1 bi 74 (i6 h) ?_; intro es S
  obtain ⟨dc, dd⟩ := c9
  refine qu_ S (i6 (w64 (f.tdiv h))) (fun v230 hC => quo_run S (g := []) rfl (by kernel_rfl) (by kernel_rfl) dc rfl) ?_; intro et bk
  refine q1 bk 76 (i6 (w64 (u2.tdiv a))) ?_; intro eu bl
  refine q1 bl 77 (i6 h) ?_; intro ev T
  obtain ⟨de, df⟩ := dd
  refine qu_ T (i6 (w64 ((w64 (u2.tdiv a)).tdiv h))) (fun v241 hC => quo_run T (g := []) rfl (by kernel_rfl) (by kernel_rfl) de rfl) ?_; intro ew bm
  refine q1 bm 11 (i6 (w64 (f.tdiv h))) ?_; intro ex bn
  refine q1 bn 2 (i6 (w64 ((w64 (u2.tdiv a)).tdiv h))) ?_; intro ey bo
  refine qnl (bh _ ?_); intro ez F
  refine sqH ?_; intro dg bp
  refine bt bo F 2 [] [] [(79, i6 (w64 ((w64 (u1 - (w64 (u0.Add * u2)))).tdiv a))), (80, i6 j)] ?_; intro eA bq
  refine ck bq 61 #[i6 (w64 ((w64 (u1 - (w64 (u0.Add * u2)))).tdiv a)), i6 j] ?_
  refine (sgcd_walk (w64 ((w64 (u1 - (w64 (u0.Add * u2)))).tdiv a)) j _ _ F.fz df).mono ?_; rintro _ eB ⟨d, rfl, dh, hb⟩; refine ⟨_, rfl, ?_⟩; intro eC br; have bs := F.call hb
  refine s1 br 13 (i6 d) ?_; intro di bu
  apply bp
  have bv : Fr 171 [] [⟨2, [], i6 (w64 ((w64 (u2.tdiv a)).tdiv h))⟩, ⟨3, [], pt k 0⟩, ⟨9, [], i6 (w64 ((w64 (u1 - (w64 (u0.Add * u2)))).tdiv a))⟩, ⟨11, [], i6 (w64 (f.tdiv h))⟩, ⟨12, [], i6 j⟩, ⟨13, [], i6 d⟩] di := bu.reg
  refine sqQH mixed (by kernel_rfl) bs ?_; intro dj bw
  refine q1 bv 82 (i6 (w64 ((w64 (u1 - (w64 (u0.Add * u2)))).tdiv a))) ?_; intro eD bx
  refine q1 bx 83 (i6 d) ?_; intro eE U
  obtain ⟨dk, dl⟩ := dh
  refine qu_ U (i6 (w64 ((w64 ((w64 (u1 - (w64 (u0.Add * u2)))).tdiv a)).tdiv d))) (fun v275 hC => quo_run U (g := []) rfl (by kernel_rfl) (by kernel_rfl) dk rfl) ?_; intro eF bz
  refine q1 bz 85 (i6 j) ?_; intro eG bA
  refine q1 bA 86 (i6 d) ?_; intro eH V
  obtain ⟨dm, G⟩ := dl
  refine qu_ V (i6 (w64 (j.tdiv d))) (fun v286 hC => quo_run V (g := []) rfl (by kernel_rfl) (by kernel_rfl) dm rfl) ?_; intro eI bB
  refine q1 bB 9 (i6 (w64 ((w64 ((w64 (u1 - (w64 (u0.Add * u2)))).tdiv a)).tdiv d))) ?_; intro eJ bC
  refine q1 bC 12 (i6 (w64 (j.tdiv d))) ?_; intro eK bD
  refine qnl (bw _ ?_); intro eL o
  refine s_ (sqB bD o [] [] [(93, .bool (((w64 ((w64 (u2.tdiv a)).tdiv h)) != 1) || ((w64 (j.tdiv d)) != 1)))] ?_); intro eM y
  refine c_ y G (fun _ dn => ?_) fun _ dq => ?_
  ·
   refine sqB y o [] [] [(6, i6 0), (7, i6 4)] ?_; intro eN dp
   exact r_ (h_ (ra2 dp (.tuple #[i6 0, i6 4]) ⟨(0, 4), rfl, dn, o.below⟩))
  refine k_ (sqH ?_); intro dr bE
  refine l2 y o 95 0 0 9 (e46C u0) rfl rfl ?_; intro eO bF
  obtain ⟨ds, dt⟩ := dq
  refine fc bF o (sbounds_fun u0 ds _ _ o.fz) ?_; intro eP eQ bG n
  refine bt bG n 5 [] [] [(14, i6 (boundsS u0).1), (15, i6 (boundsS u0).2)] ?_; intro eR bH
  apply bE
  refine s_ (sqH ?_); intro du bI
  refine s1 bH 99 (i6 (w64 ((w64 ((w64 (u1 - (w64 (u0.Add * u2)))).tdiv a)).tdiv d))) ?_; intro eS bJ
  refine s1 bJ 100 (.bool (decide ((w64 ((w64 ((w64 (u1 - (w64 (u0.Add * u2)))).tdiv a)).tdiv d)) > 0))) ?_; intro eT bK
  refine s1 bK 101 (.bool (decide ((w64 ((w64 ((w64 (u1 - (w64 (u0.Add * u2)))).tdiv a)).tdiv d)) > 0))) ?_; intro eU bL
  have bM := bL.atom ((decide ((w64 ((w64 ((w64 (u1 - (w64 (u0.Add * u2)))).tdiv a)).tdiv d)) > 0)) == true) (by kernel_rfl)
  refine gp bM 102 0 [] (decide ((w64 ((w64 ((w64 (u1 - (w64 (u0.Add * u2)))).tdiv a)).tdiv d)) > 0)) (i6 (w64 (f.tdiv h))) rfl rfl ?_; intro eV bN
  refine gp bN 103 0 [] (decide ((w64 ((w64 ((w64 (u1 - (w64 (u0.Add * u2)))).tdiv a)).tdiv d)) > 0)) (.bool (decide ((w64 (f.tdiv h)) > 0))) rfl rfl ?_; intro eW X
  refine u_ X (.bool ((decide ((w64 ((w64 ((w64 (u1 - (w64 (u0.Add * u2)))).tdiv a)).tdiv d)) > 0)) && (decide ((w64 (f.tdiv h)) > 0)))) (pk_and X (g := []) (m := 0) (b := decide ((w64 ((w64 ((w64 (u1 - (w64 (u0.Add * u2)))).tdiv a)).tdiv d)) > 0)) (v := decide ((w64 (f.tdiv h)) > 0)) rfl (by kernel_rfl) (by kernel_rfl) (by kernel_rfl) rfl) ?_; intro eX bO
  refine s1 bO 105 (.bool ((decide ((w64 ((w64 ((w64 (u1 - (w64 (u0.Add * u2)))).tdiv a)).tdiv d)) > 0)) && (decide ((w64 (f.tdiv h)) > 0)))) ?_; intro eY bP
  have bQ := bP.atom (((decide ((w64 ((w64 ((w64 (u1 - (w64 (u0.Add * u2)))).tdiv a)).tdiv d)) > 0)) && (decide ((w64 (f.tdiv h)) > 0))) == true) (by kernel_rfl)
  refine gp bQ 106 1 [] ((decide ((w64 ((w64 ((w64 (u1 - (w64 (u0.Add * u2)))).tdiv a)).tdiv d)) > 0)) && (decide ((w64 (f.tdiv h)) > 0))) (i6 (w64 ((w64 ((w64 (u1 - (w64 (u0.Add * u2)))).tdiv a)).tdiv d))) rfl rfl ?_; intro eZ bR
  refine gp bR 107 1 [] ((decide ((w64 ((w64 ((w64 (u1 - (w64 (u0.Add * u2)))).tdiv a)).tdiv d)) > 0)) && (decide ((w64 (f.tdiv h)) > 0))) (i6 (boundsS u0).2) rfl rfl ?_; intro e0 bS
  refine gp bS 108 1 [] ((decide ((w64 ((w64 ((w64 (u1 - (w64 (u0.Add * u2)))).tdiv a)).tdiv d)) > 0)) && (decide ((w64 (f.tdiv h)) > 0))) (i6 (w64 (f.tdiv h))) rfl rfl ?_; intro e1 Y
  obtain ⟨dv, dw⟩ := dt
  refine gd Y (i6 (w64 ((boundsS u0).2.tdiv (w64 (f.tdiv h))))) (m := 1) (cj := []) (bj := (decide ((w64 ((w64 ((w64 (u1 - (w64 (u0.Add * u2)))).tdiv a)).tdiv d)) > 0)) && (decide ((w64 (f.tdiv h)) > 0))) rfl rfl (by kernel_rfl) rfl (by kernel_rfl) (by kernel_rfl) (by kernel_rfl) (fun hg => quo_run Y (g := [1]) rfl (by kernel_rfl) (by kernel_rfl) (gT (c := [1]) hg dv) hg) ?_; intro e2 bT
  refine gp bT 110 1 [] ((decide ((w64 ((w64 ((w64 (u1 - (w64 (u0.Add * u2)))).tdiv a)).tdiv d)) > 0)) && (decide ((w64 (f.tdiv h)) > 0))) (.bool (decide ((w64 ((w64 ((w64 (u1 - (w64 (u0.Add * u2)))).tdiv a)).tdiv d)) > (w64 ((boundsS u0).2.tdiv (w64 (f.tdiv h))))))) rfl rfl ?_; intro e3 aa
  refine u_ aa (.bool (((decide ((w64 ((w64 ((w64 (u1 - (w64 (u0.Add * u2)))).tdiv a)).tdiv d)) > 0)) && (decide ((w64 (f.tdiv h)) > 0))) && (decide ((w64 ((w64 ((w64 (u1 - (w64 (u0.Add * u2)))).tdiv a)).tdiv d)) > (w64 ((boundsS u0).2.tdiv (w64 (f.tdiv h)))))))) (pk_and aa (g := []) (m := 1) (b := (decide ((w64 ((w64 ((w64 (u1 - (w64 (u0.Add * u2)))).tdiv a)).tdiv d)) > 0)) && (decide ((w64 (f.tdiv h)) > 0))) (v := decide ((w64 ((w64 ((w64 (u1 - (w64 (u0.Add * u2)))).tdiv a)).tdiv d)) > (w64 ((boundsS u0).2.tdiv (w64 (f.tdiv h)))))) rfl (by kernel_rfl) (by kernel_rfl) (by kernel_rfl) rfl) ?_; intro e4 bU
  refine s1 bU 112 (.bool (((decide ((w64 ((w64 ((w64 (u1 - (w64 (u0.Add * u2)))).tdiv a)).tdiv d)) > 0)) && (decide ((w64 (f.tdiv h)) > 0))) && (decide ((w64 ((w64 ((w64 (u1 - (w64 (u0.Add * u2)))).tdiv a)).tdiv d)) > (w64 ((boundsS u0).2.tdiv (w64 (f.tdiv h)))))))) ?_; intro e5 bV
  have bW := bV.atom ((((decide ((w64 ((w64 ((w64 (u1 - (w64 (u0.Add * u2)))).tdiv a)).tdiv d)) > 0)) && (decide ((w64 (f.tdiv h)) > 0))) && (decide ((w64 ((w64 ((w64 (u1 - (w64 (u0.Add * u2)))).tdiv a)).tdiv d)) > (w64 ((boundsS u0).2.tdiv (w64 (f.tdiv h))))))) == false) (by kernel_rfl)
  refine gp bW 113 2 [] (((decide ((w64 ((w64 ((w64 (u1 - (w64 (u0.Add * u2)))).tdiv a)).tdiv d)) > 0)) && (decide ((w64 (f.tdiv h)) > 0))) && (decide ((w64 ((w64 ((w64 (u1 - (w64 (u0.Add * u2)))).tdiv a)).tdiv d)) > (w64 ((boundsS u0).2.tdiv (w64 (f.tdiv h))))))) (i6 (w64 ((w64 ((w64 (u1 - (w64 (u0.Add * u2)))).tdiv a)).tdiv d))) rfl rfl ?_; intro e6 bX
  refine gp bX 114 2 [] (((decide ((w64 ((w64 ((w64 (u1 - (w64 (u0.Add * u2)))).tdiv a)).tdiv d)) > 0)) && (decide ((w64 (f.tdiv h)) > 0))) && (decide ((w64 ((w64 ((w64 (u1 - (w64 (u0.Add * u2)))).tdiv a)).tdiv d)) > (w64 ((boundsS u0).2.tdiv (w64 (f.tdiv h))))))) (.bool (decide ((w64 ((w64 ((w64 (u1 - (w64 (u0.Add * u2)))).tdiv a)).tdiv d)) < 0))) rfl rfl ?_; intro e7 bY
  refine gp bY 115 2 [] (((decide ((w64 ((w64 ((w64 (u1 - (w64 (u0.Add * u2)))).tdiv a)).tdiv d)) > 0)) && (decide ((w64 (f.tdiv h)) > 0))) && (decide ((w64 ((w64 ((w64 (u1 - (w64 (u0.Add * u2)))).tdiv a)).tdiv d)) > (w64 ((boundsS u0).2.tdiv (w64 (f.tdiv h))))))) (.bool (decide ((w64 ((w64 ((w64 (u1 - (w64 (u0.Add * u2)))).tdiv a)).tdiv d)) < 0))) rfl rfl ?_; intro e8 bZ
  have b0 := bZ.atom ((decide ((w64 ((w64 ((w64 (u1 - (w64 (u0.Add * u2)))).tdiv a)).tdiv d)) < 0)) == true) (by kernel_rfl)
  refine gp b0 116 3 [2] (decide ((w64 ((w64 ((w64 (u1 - (w64 (u0.Add * u2)))).tdiv a)).tdiv d)) < 0)) (i6 (w64 (f.tdiv h))) rfl rfl ?_; intro e9 b1
  refine gp b1 117 3 [2] (decide ((w64 ((w64 ((w64 (u1 - (w64 (u0.Add * u2)))).tdiv a)).tdiv d)) < 0)) (.bool (decide ((w64 (f.tdiv h)) > 0))) rfl rfl ?_; intro fa ab
  refine gd ab (.bool ((decide ((w64 ((w64 ((w64 (u1 - (w64 (u0.Add * u2)))).tdiv a)).tdiv d)) < 0)) && (decide ((w64 (f.tdiv h)) > 0)))) (m := 2) (cj := []) (bj := ((decide ((w64 ((w64 ((w64 (u1 - (w64 (u0.Add * u2)))).tdiv a)).tdiv d)) > 0)) && (decide ((w64 (f.tdiv h)) > 0))) && (decide ((w64 ((w64 ((w64 (u1 - (w64 (u0.Add * u2)))).tdiv a)).tdiv d)) > (w64 ((boundsS u0).2.tdiv (w64 (f.tdiv h))))))) rfl rfl (by kernel_rfl) rfl (by kernel_rfl) (by kernel_rfl) (by kernel_rfl) (fun hg => pk_and ab (g := [2]) (m := 3) (b := decide ((w64 ((w64 ((w64 (u1 - (w64 (u0.Add * u2)))).tdiv a)).tdiv d)) < 0)) (v := decide ((w64 (f.tdiv h)) > 0)) rfl (by kernel_rfl) (by kernel_rfl) (by kernel_rfl) hg) ?_; intro fb b3
  refine gp b3 119 2 [] (((decide ((w64 ((w64 ((w64 (u1 - (w64 (u0.Add * u2)))).tdiv a)).tdiv d)) > 0)) && (decide ((w64 (f.tdiv h)) > 0))) && (decide ((w64 ((w64 ((w64 (u1 - (w64 (u0.Add * u2)))).tdiv a)).tdiv d)) > (w64 ((boundsS u0).2.tdiv (w64 (f.tdiv h))))))) (.bool ((decide ((w64 ((w64 ((w64 (u1 - (w64 (u0.Add * u2)))).tdiv a)).tdiv d)) < 0)) && (decide ((w64 (f.tdiv h)) > 0)))) rfl rfl ?_; intro fd b4
  have b5 := b4.atom (((decide ((w64 ((w64 ((w64 (u1 - (w64 (u0.Add * u2)))).tdiv a)).tdiv d)) < 0)) && (decide ((w64 (f.tdiv h)) > 0))) == true) (by kernel_rfl)
  refine gp b5 120 4 [2] ((decide ((w64 ((w64 ((w64 (u1 - (w64 (u0.Add * u2)))).tdiv a)).tdiv d)) < 0)) && (decide ((w64 (f.tdiv h)) > 0))) (i6 (w64 ((w64 ((w64 (u1 - (w64 (u0.Add * u2)))).tdiv a)).tdiv d))) rfl rfl ?_; intro fe b6
  refine gp b6 121 4 [2] ((decide ((w64 ((w64 ((w64 (u1 - (w64 (u0.Add * u2)))).tdiv a)).tdiv d)) < 0)) && (decide ((w64 (f.tdiv h)) > 0))) (i6 (boundsS u0).1) rfl rfl ?_; intro ff b7
  refine gp b7 122 4 [2] ((decide ((w64 ((w64 ((w64 (u1 - (w64 (u0.Add * u2)))).tdiv a)).tdiv d)) < 0)) && (decide ((w64 (f.tdiv h)) > 0))) (i6 (w64 (f.tdiv h))) rfl rfl ?_; intro fg ac
  obtain ⟨dx, dy⟩ := dw
  refine gd ac (i6 (w64 ((boundsS u0).1.tdiv (w64 (f.tdiv h))))) (m := 4) (cj := [2]) (bj := (decide ((w64 ((w64 ((w64 (u1 - (w64 (u0.Add * u2)))).tdiv a)).tdiv d)) < 0)) && (decide ((w64 (f.tdiv h)) > 0))) rfl rfl (by kernel_rfl) rfl (by kernel_rfl) (by kernel_rfl) (by kernel_rfl) (fun hg => quo_run ac (g := [4, 2]) rfl (by kernel_rfl) (by kernel_rfl) (gT (c := [4, 2]) hg dx) hg) ?_; intro fh b8
  refine gp b8 124 4 [2] ((decide ((w64 ((w64 ((w64 (u1 - (w64 (u0.Add * u2)))).tdiv a)).tdiv d)) < 0)) && (decide ((w64 (f.tdiv h)) > 0))) (.bool (decide ((w64 ((w64 ((w64 (u1 - (w64 (u0.Add * u2)))).tdiv a)).tdiv d)) < (w64 ((boundsS u0).1.tdiv (w64 (f.tdiv h))))))) rfl rfl ?_; intro fi ad
  refine gd ad (.bool (((decide ((w64 ((w64 ((w64 (u1 - (w64 (u0.Add * u2)))).tdiv a)).tdiv d)) < 0)) && (decide ((w64 (f.tdiv h)) > 0))) && (decide ((w64 ((w64 ((w64 (u1 - (w64 (u0.Add * u2)))).tdiv a)).tdiv d)) < (w64 ((boundsS u0).1.tdiv (w64 (f.tdiv h)))))))) (m := 2) (cj := []) (bj := ((decide ((w64 ((w64 ((w64 (u1 - (w64 (u0.Add * u2)))).tdiv a)).tdiv d)) > 0)) && (decide ((w64 (f.tdiv h)) > 0))) && (decide ((w64 ((w64 ((w64 (u1 - (w64 (u0.Add * u2)))).tdiv a)).tdiv d)) > (w64 ((boundsS u0).2.tdiv (w64 (f.tdiv h))))))) rfl rfl (by kernel_rfl) rfl (by kernel_rfl) (by kernel_rfl) (by kernel_rfl) (fun hg => pk_and ad (g := [2]) (m := 4) (b := (decide ((w64 ((w64 ((w64 (u1 - (w64 (u0.Add * u2)))).tdiv a)).tdiv d)) < 0)) && (decide ((w64 (f.tdiv h)) > 0))) (v := decide ((w64 ((w64 ((w64 (u1 - (w64 (u0.Add * u2)))).tdiv a)).tdiv d)) < (w64 ((boundsS u0).1.tdiv (w64 (f.tdiv h)))))) rfl (by kernel_rfl) (by kernel_rfl) (by kernel_rfl) hg) ?_; intro fj ae
  refine u_ ae (.bool ((((decide ((w64 ((w64 ((w64 (u1 - (w64 (u0.Add * u2)))).tdiv a)).tdiv d)) > 0)) && (decide ((w64 (f.tdiv h)) > 0))) && (decide ((w64 ((w64 ((w64 (u1 - (w64 (u0.Add * u2)))).tdiv a)).tdiv d)) > (w64 ((boundsS u0).2.tdiv (w64 (f.tdiv h))))))) || (((decide ((w64 ((w64 ((w64 (u1 - (w64 (u0.Add * u2)))).tdiv a)).tdiv d)) < 0)) && (decide ((w64 (f.tdiv h)) > 0))) && (decide ((w64 ((w64 ((w64 (u1 - (w64 (u0.Add * u2)))).tdiv a)).tdiv d)) < (w64 ((boundsS u0).1.tdiv (w64 (f.tdiv h))))))))) (pk_or ae (g := []) (m := 2) (b := ((decide ((w64 ((w64 ((w64 (u1 - (w64 (u0.Add * u2)))).tdiv a)).tdiv d)) > 0)) && (decide ((w64 (f.tdiv h)) > 0))) && (decide ((w64 ((w64 ((w64 (u1 - (w64 (u0.Add * u2)))).tdiv a)).tdiv d)) > (w64 ((boundsS u0).2.tdiv (w64 (f.tdiv h))))))) (v := ((decide ((w64 ((w64 ((w64 (u1 - (w64 (u0.Add * u2)))).tdiv a)).tdiv d)) < 0)) && (decide ((w64 (f.tdiv h)) > 0))) && (decide ((w64 ((w64 ((w64 (u1 - (w64 (u0.Add * u2)))).tdiv a)).tdiv d)) < (w64 ((boundsS u0).1.tdiv (w64 (f.tdiv h))))))) rfl (by kernel_rfl) (by kernel_rfl) (by kernel_rfl) rfl) ?_; intro fk b9
  refine s1 b9 127 (.bool ((((decide ((w64 ((w64 ((w64 (u1 - (w64 (u0.Add * u2)))).tdiv a)).tdiv d)) > 0)) && (decide ((w64 (f.tdiv h)) > 0))) && (decide ((w64 ((w64 ((w64 (u1 - (w64 (u0.Add * u2)))).tdiv a)).tdiv d)) > (w64 ((boundsS u0).2.tdiv (w64 (f.tdiv h))))))) || (((decide ((w64 ((w64 ((w64 (u1 - (w64 (u0.Add * u2)))).tdiv a)).tdiv d)) < 0)) && (decide ((w64 (f.tdiv h)) > 0))) && (decide ((w64 ((w64 ((w64 (u1 - (w64 (u0.Add * u2)))).tdiv a)).tdiv d)) < (w64 ((boundsS u0).1.tdiv (w64 (f.tdiv h))))))))) ?_; intro fl ca
  have cb := ca.atom (((((decide ((w64 ((w64 ((w64 (u1 - (w64 (u0.Add * u2)))).tdiv a)).tdiv d)) > 0)) && (decide ((w64 (f.tdiv h)) > 0))) && (decide ((w64 ((w64 ((w64 (u1 - (w64 (u0.Add * u2)))).tdiv a)).tdiv d)) > (w64 ((boundsS u0).2.tdiv (w64 (f.tdiv h))))))) || (((decide ((w64 ((w64 ((w64 (u1 - (w64 (u0.Add * u2)))).tdiv a)).tdiv d)) < 0)) && (decide ((w64 (f.tdiv h)) > 0))) && (decide ((w64 ((w64 ((w64 (u1 - (w64 (u0.Add * u2)))).tdiv a)).tdiv d)) < (w64 ((boundsS u0).1.tdiv (w64 (f.tdiv h)))))))) == false) (by kernel_rfl)
  refine gp cb 128 5 [] ((((decide ((w64 ((w64 ((w64 (u1 - (w64 (u0.Add * u2)))).tdiv a)).tdiv d)) > 0)) && (decide ((w64 (f.tdiv h)) > 0))) && (decide ((w64 ((w64 ((w64 (u1 - (w64 (u0.Add * u2)))).tdiv a)).tdiv d)) > (w64 ((boundsS u0).2.tdiv (w64 (f.tdiv h))))))) || (((decide ((w64 ((w64 ((w64 (u1 - (w64 (u0.Add * u2)))).tdiv a)).tdiv d)) < 0)) && (decide ((w64 (f.tdiv h)) > 0))) && (decide ((w64 ((w64 ((w64 (u1 - (w64 (u0.Add * u2)))).tdiv a)).tdiv d)) < (w64 ((boundsS u0).1.tdiv (w64 (f.tdiv h)))))))) (i6 (w64 ((w64 ((w64 (u1 - (w64 (u0.Add * u2)))).tdiv a)).tdiv d))) rfl rfl ?_; intro fm cc
  refine gp cc 129 5 [] ((((decide ((w64 ((w64 ((w64 (u1 - (w64 (u0.Add * u2)))).tdiv a)).tdiv d)) > 0)) && (decide ((w64 (f.tdiv h)) > 0))) && (decide ((w64 ((w64 ((w64 (u1 - (w64 (u0.Add * u2)))).tdiv a)).tdiv d)) > (w64 ((boundsS u0).2.tdiv (w64 (f.tdiv h))))))) || (((decide ((w64 ((w64 ((w64 (u1 - (w64 (u0.Add * u2)))).tdiv a)).tdiv d)) < 0)) && (decide ((w64 (f.tdiv h)) > 0))) && (decide ((w64 ((w64 ((w64 (u1 - (w64 (u0.Add * u2)))).tdiv a)).tdiv d)) < (w64 ((boundsS u0).1.tdiv (w64 (f.tdiv h)))))))) (.bool (decide ((w64 ((w64 ((w64 (u1 - (w64 (u0.Add * u2)))).tdiv a)).tdiv d)) > 0))) rfl rfl ?_; intro fn ce
  refine gp ce 130 5 [] ((((decide ((w64 ((w64 ((w64 (u1 - (w64 (u0.Add * u2)))).tdiv a)).tdiv d)) > 0)) && (decide ((w64 (f.tdiv h)) > 0))) && (decide ((w64 ((w64 ((w64 (u1 - (w64 (u0.Add * u2)))).tdiv a)).tdiv d)) > (w64 ((boundsS u0).2.tdiv (w64 (f.tdiv h))))))) || (((decide ((w64 ((w64 ((w64 (u1 - (w64 (u0.Add * u2)))).tdiv a)).tdiv d)) < 0)) && (decide ((w64 (f.tdiv h)) > 0))) && (decide ((w64 ((w64 ((w64 (u1 - (w64 (u0.Add * u2)))).tdiv a)).tdiv d)) < (w64 ((boundsS u0).1.tdiv (w64 (f.tdiv h)))))))) (.bool (decide ((w64 ((w64 ((w64 (u1 - (w64 (u0.Add * u2)))).tdiv a)).tdiv d)) > 0))) rfl rfl ?_; intro fo cf
  refine gp cf 131 0 [5] (decide ((w64 ((w64 ((w64 (u1 - (w64 (u0.Add * u2)))).tdiv a)).tdiv d)) > 0)) (i6 (w64 (f.tdiv h))) rfl rfl ?_; intro fp cg
  refine gp cg 132 0 [5] (decide ((w64 ((w64 ((w64 (u1 - (w64 (u0.Add * u2)))).tdiv a)).tdiv d)) > 0)) (.bool (decide ((w64 (f.tdiv h)) < 0))) rfl rfl ?_; intro fq af
  refine gd af (.bool ((decide ((w64 ((w64 ((w64 (u1 - (w64 (u0.Add * u2)))).tdiv a)).tdiv d)) > 0)) && (decide ((w64 (f.tdiv h)) < 0)))) (m := 5) (cj := []) (bj := (((decide ((w64 ((w64 ((w64 (u1 - (w64 (u0.Add * u2)))).tdiv a)).tdiv d)) > 0)) && (decide ((w64 (f.tdiv h)) > 0))) && (decide ((w64 ((w64 ((w64 (u1 - (w64 (u0.Add * u2)))).tdiv a)).tdiv d)) > (w64 ((boundsS u0).2.tdiv (w64 (f.tdiv h))))))) || (((decide ((w64 ((w64 ((w64 (u1 - (w64 (u0.Add * u2)))).tdiv a)).tdiv d)) < 0)) && (decide ((w64 (f.tdiv h)) > 0))) && (decide ((w64 ((w64 ((w64 (u1 - (w64 (u0.Add * u2)))).tdiv a)).tdiv d)) < (w64 ((boundsS u0).1.tdiv (w64 (f.tdiv h)))))))) rfl rfl (by kernel_rfl) rfl (by kernel_rfl) (by kernel_rfl) (by kernel_rfl) (fun hg => pk_and af (g := [5]) (m := 0) (b := decide ((w64 ((w64 ((w64 (u1 - (w64 (u0.Add * u2)))).tdiv a)).tdiv d)) > 0)) (v := decide ((w64 (f.tdiv h)) < 0)) rfl (by kernel_rfl) (by kernel_rfl) (by kernel_rfl) hg) ?_; intro fr ch
  refine gp ch 134 5 [] ((((decide ((w64 ((w64 ((w64 (u1 - (w64 (u0.Add * u2)))).tdiv a)).tdiv d)) > 0)) && (decide ((w64 (f.tdiv h)) > 0))) && (decide ((w64 ((w64 ((w64 (u1 - (w64 (u0.Add * u2)))).tdiv a)).tdiv d)) > (w64 ((boundsS u0).2.tdiv (w64 (f.tdiv h))))))) || (((decide ((w64 ((w64 ((w64 (u1 - (w64 (u0.Add * u2)))).tdiv a)).tdiv d)) < 0)) && (decide ((w64 (f.tdiv h)) > 0))) && (decide ((w64 ((w64 ((w64 (u1 - (w64 (u0.Add * u2)))).tdiv a)).tdiv d)) < (w64 ((boundsS u0).1.tdiv (w64 (f.tdiv h)))))))) (.bool ((decide ((w64 ((w64 ((w64 (u1 - (w64 (u0.Add * u2)))).tdiv a)).tdiv d)) > 0)) && (decide ((w64 (f.tdiv h)) < 0)))) rfl rfl ?_; intro fs ci
  have cl := ci.atom (((decide ((w64 ((w64 ((w64 (u1 - (w64 (u0.Add * u2)))).tdiv a)).tdiv d)) > 0)) && (decide ((w64 (f.tdiv h)) < 0))) == true) (by kernel_rfl)
  refine gp cl 135 6 [5] ((decide ((w64 ((w64 ((w64 (u1 - (w64 (u0.Add * u2)))).tdiv a)).tdiv d)) > 0)) && (decide ((w64 (f.tdiv h)) < 0))) (i6 (w64 ((w64 ((w64 (u1 - (w64 (u0.Add * u2)))).tdiv a)).tdiv d))) rfl rfl ?_; intro ft cm
  refine gp cm 136 6 [5] ((decide ((w64 ((w64 ((w64 (u1 - (w64 (u0.Add * u2)))).tdiv a)).tdiv d)) > 0)) && (decide ((w64 (f.tdiv h)) < 0))) (i6 (boundsS u0).1) rfl rfl ?_; intro fu cn
  refine gp cn 137 6 [5] ((decide ((w64 ((w64 ((w64 (u1 - (w64 (u0.Add * u2)))).tdiv a)).tdiv d)) > 0)) && (decide ((w64 (f.tdiv h)) < 0))) (i6 (w64 (f.tdiv h))) rfl rfl ?_; intro fv ag
  obtain ⟨dz, dA⟩ := dy
  refine gd ag (i6 (w64 ((boundsS u0).1.tdiv (w64 (f.tdiv h))))) (m := 6) (cj := [5]) (bj := (decide ((w64 ((w64 ((w64 (u1 - (w64 (u0.Add * u2)))).tdiv a)).tdiv d)) > 0)) && (decide ((w64 (f.tdiv h)) < 0))) rfl rfl (by kernel_rfl) rfl (by kernel_rfl) (by kernel_rfl) (by kernel_rfl) (fun hg => quo_run ag (g := [6, 5]) rfl (by kernel_rfl) (by kernel_rfl) (gT (c := [6, 5]) hg dz) hg) ?_; intro fw co
  refine gp co 139 6 [5] ((decide ((w64 ((w64 ((w64 (u1 - (w64 (u0.Add * u2)))).tdiv a)).tdiv d)) > 0)) && (decide ((w64 (f.tdiv h)) < 0))) (.bool (decide ((w64 ((w64 ((w64 (u1 - (w64 (u0.Add * u2)))).tdiv a)).tdiv d)) > (w64 ((boundsS u0).1.tdiv (w64 (f.tdiv h))))))) rfl rfl ?_; intro fx ah
  refine gd ah (.bool (((decide ((w64 ((w64 ((w64 (u1 - (w64 (u0.Add * u2)))).tdiv a)).tdiv d)) > 0)) && (decide ((w64 (f.tdiv h)) < 0))) && (decide ((w64 ((w64 ((w64 (u1 - (w64 (u0.Add * u2)))).tdiv a)).tdiv d)) > (w64 ((boundsS u0).1.tdiv (w64 (f.tdiv h)))))))) (m := 5) (cj := []) (bj := (((decide ((w64 ((w64 ((w64 (u1 - (w64 (u0.Add * u2)))).tdiv a)).tdiv d)) > 0)) && (decide ((w64 (f.tdiv h)) > 0))) && (decide ((w64 ((w64 ((w64 (u1 - (w64 (u0.Add * u2)))).tdiv a)).tdiv d)) > (w64 ((boundsS u0).2.tdiv (w64 (f.tdiv h))))))) || (((decide ((w64 ((w64 ((w64 (u1 - (w64 (u0.Add * u2)))).tdiv a)).tdiv d)) < 0)) && (decide ((w64 (f.tdiv h)) > 0))) && (decide ((w64 ((w64 ((w64 (u1 - (w64 (u0.Add * u2)))).tdiv a)).tdiv d)) < (w64 ((boundsS u0).1.tdiv (w64 (f.tdiv h)))))))) rfl rfl (by kernel_rfl) rfl (by kernel_rfl) (by kernel_rfl) (by kernel_rfl) (fun hg => pk_and ah (g := [5]) (m := 6) (b := (decide ((w64 ((w64 ((w64 (u1 - (w64 (u0.Add * u2)))).tdiv a)).tdiv d)) > 0)) && (decide ((w64 (f.tdiv h)) < 0))) (v := decide ((w64 ((w64 ((w64 (u1 - (w64 (u0.Add * u2)))).tdiv a)).tdiv d)) > (w64 ((boundsS u0).1.tdiv (w64 (f.tdiv h)))))) rfl (by kernel_rfl) (by kernel_rfl) (by kernel_rfl) hg) ?_; intro fy ai
  refine u_ ai (.bool (((((decide ((w64 ((w64 ((w64 (u1 - (w64 (u0.Add * u2)))).tdiv a)).tdiv d)) > 0)) && (decide ((w64 (f.tdiv h)) > 0))) && (decide ((w64 ((w64 ((w64 (u1 - (w64 (u0.Add * u2)))).tdiv a)).tdiv d)) > (w64 ((boundsS u0).2.tdiv (w64 (f.tdiv h))))))) || (((decide ((w64 ((w64 ((w64 (u1 - (w64 (u0.Add * u2)))).tdiv a)).tdiv d)) < 0)) && (decide ((w64 (f.tdiv h)) > 0))) && (decide ((w64 ((w64 ((w64 (u1 - (w64 (u0.Add * u2)))).tdiv a)).tdiv d)) < (w64 ((boundsS u0).1.tdiv (w64 (f.tdiv h)))))))) || (((decide ((w64 ((w64 ((w64 (u1 - (w64 (u0.Add * u2)))).tdiv a)).tdiv d)) > 0)) && (decide ((w64 (f.tdiv h)) < 0))) && (decide ((w64 ((w64 ((w64 (u1 - (w64 (u0.Add * u2)))).tdiv a)).tdiv d)) > (w64 ((boundsS u0).1.tdiv (w64 (f.tdiv h))))))))) (pk_or ai (g := []) (m := 5) (b := (((decide ((w64 ((w64 ((w64 (u1 - (w64 (u0.Add * u2)))).tdiv a)).tdiv d)) > 0)) && (decide ((w64 (f.tdiv h)) > 0))) && (decide ((w64 ((w64 ((w64 (u1 - (w64 (u0.Add * u2)))).tdiv a)).tdiv d)) > (w64 ((boundsS u0).2.tdiv (w64 (f.tdiv h))))))) || (((decide ((w64 ((w64 ((w64 (u1 - (w64 (u0.Add * u2)))).tdiv a)).tdiv d)) < 0)) && (decide ((w64 (f.tdiv h)) > 0))) && (decide ((w64 ((w64 ((w64 (u1 - (w64 (u0.Add * u2)))).tdiv a)).tdiv d)) < (w64 ((boundsS u0).1.tdiv (w64 (f.tdiv h)))))))) (v := ((decide ((w64 ((w64 ((w64 (u1 - (w64 (u0.Add * u2)))).tdiv a)).tdiv d)) > 0)) && (decide ((w64 (f.tdiv h)) < 0))) && (decide ((w64 ((w64 ((w64 (u1 - (w64 (u0.Add * u2)))).tdiv a)).tdiv d)) > (w64 ((boundsS u0).1.tdiv (w64 (f.tdiv h))))))) rfl (by kernel_rfl) (by kernel_rfl) (by kernel_rfl) rfl) ?_; intro fA cp
  refine s1 cp 142 (.bool (((((decide ((w64 ((w64 ((w64 (u1 - (w64 (u0.Add * u2)))).tdiv a)).tdiv d)) > 0)) && (decide ((w64 (f.tdiv h)) > 0))) && (decide ((w64 ((w64 ((w64 (u1 - (w64 (u0.Add * u2)))).tdiv a)).tdiv d)) > (w64 ((boundsS u0).2.tdiv (w64 (f.tdiv h))))))) || (((decide ((w64 ((w64 ((w64 (u1 - (w64 (u0.Add * u2)))).tdiv a)).tdiv d)) < 0)) && (decide ((w64 (f.tdiv h)) > 0))) && (decide ((w64 ((w64 ((w64 (u1 - (w64 (u0.Add * u2)))).tdiv a)).tdiv d)) < (w64 ((boundsS u0).1.tdiv (w64 (f.tdiv h)))))))) || (((decide ((w64 ((w64 ((w64 (u1 - (w64 (u0.Add * u2)))).tdiv a)).tdiv d)) > 0)) && (decide ((w64 (f.tdiv h)) < 0))) && (decide ((w64 ((w64 ((w64 (u1 - (w64 (u0.Add * u2)))).tdiv a)).tdiv d)) > (w64 ((boundsS u0).1.tdiv (w64 (f.tdiv h))))))))) ?_; intro fB cq
  have cr := cq.atom ((((((decide ((w64 ((w64 ((w64 (u1 - (w64 (u0.Add * u2)))).tdiv a)).tdiv d)) > 0)) && (decide ((w64 (f.tdiv h)) > 0))) && (decide ((w64 ((w64 ((w64 (u1 - (w64 (u0.Add * u2)))).tdiv a)).tdiv d)) > (w64 ((boundsS u0).2.tdiv (w64 (f.tdiv h))))))) || (((decide ((w64 ((w64 ((w64 (u1 - (w64 (u0.Add * u2)))).tdiv a)).tdiv d)) < 0)) && (decide ((w64 (f.tdiv h)) > 0))) && (decide ((w64 ((w64 ((w64 (u1 - (w64 (u0.Add * u2)))).tdiv a)).tdiv d)) < (w64 ((boundsS u0).1.tdiv (w64 (f.tdiv h)))))))) || (((decide ((w64 ((w64 ((w64 (u1 - (w64 (u0.Add * u2)))).tdiv a)).tdiv d)) > 0)) && (decide ((w64 (f.tdiv h)) < 0))) && (decide ((w64 ((w64 ((w64 (u1 - (w64 (u0.Add * u2)))).tdiv a)).tdiv d)) > (w64 ((boundsS u0).1.tdiv (w64 (f.tdiv h)))))))) == false) (by kernel_rfl)
  refine gp cr 143 7 [] (((((decide ((w64 ((w64 ((w64 (u1 - (w64 (u0.Add * u2)))).tdiv a)).tdiv d)) > 0)) && (decide ((w64 (f.tdiv h)) > 0))) && (decide ((w64 ((w64 ((w64 (u1 - (w64 (u0.Add * u2)))).tdiv a)).tdiv d)) > (w64 ((boundsS u0).2.tdiv (w64 (f.tdiv h))))))) || (((decide ((w64 ((w64 ((w64 (u1 - (w64 (u0.Add * u2)))).tdiv a)).tdiv d)) < 0)) && (decide ((w64 (f.tdiv h)) > 0))) && (decide ((w64 ((w64 ((w64 (u1 - (w64 (u0.Add * u2)))).tdiv a)).tdiv d)) < (w64 ((boundsS u0).1.tdiv (w64 (f.tdiv h)))))))) || (((decide ((w64 ((w64 ((w64 (u1 - (w64 (u0.Add * u2)))).tdiv a)).tdiv d)) > 0)) && (decide ((w64 (f.tdiv h)) < 0))) && (decide ((w64 ((w64 ((w64 (u1 - (w64 (u0.Add * u2)))).tdiv a)).tdiv d)) > (w64 ((boundsS u0).1.tdiv (w64 (f.tdiv h)))))))) (i6 (w64 ((w64 ((w64 (u1 - (w64 (u0.Add * u2)))).tdiv a)).tdiv d))) rfl rfl ?_; intro fC ct
  refine gp ct 144 7 [] (((((decide ((w64 ((w64 ((w64 (u1 - (w64 (u0.Add * u2)))).tdiv a)).tdiv d)) > 0)) && (decide ((w64 (f.tdiv h)) > 0))) && (decide ((w64 ((w64 ((w64 (u1 - (w64 (u0.Add * u2)))).tdiv a)).tdiv d)) > (w64 ((boundsS u0).2.tdiv (w64 (f.tdiv h))))))) || (((decide ((w64 ((w64 ((w64 (u1 - (w64 (u0.Add * u2)))).tdiv a)).tdiv d)) < 0)) && (decide ((w64 (f.tdiv h)) > 0))) && (decide ((w64 ((w64 ((w64 (u1 - (w64 (u0.Add * u2)))).tdiv a)).tdiv d)) < (w64 ((boundsS u0).1.tdiv (w64 (f.tdiv h)))))))) || (((decide ((w64 ((w64 ((w64 (u1 - (w64 (u0.Add * u2)))).tdiv a)).tdiv d)) > 0)) && (decide ((w64 (f.tdiv h)) < 0))) && (decide ((w64 ((w64 ((w64 (u1 - (w64 (u0.Add * u2)))).tdiv a)).tdiv d)) > (w64 ((boundsS u0).1.tdiv (w64 (f.tdiv h)))))))) (.bool (decide ((w64 ((w64 ((w64 (u1 - (w64 (u0.Add * u2)))).tdiv a)).tdiv d)) < 0))) rfl rfl ?_; intro fD cu
  refine gp cu 145 7 [] (((((decide ((w64 ((w64 ((w64 (u1 - (w64 (u0.Add * u2)))).tdiv a)).tdiv d)) > 0)) && (decide ((w64 (f.tdiv h)) > 0))) && (decide ((w64 ((w64 ((w64 (u1 - (w64 (u0.Add * u2)))).tdiv a)).tdiv d)) > (w64 ((boundsS u0).2.tdiv (w64 (f.tdiv h))))))) || (((decide ((w64 ((w64 ((w64 (u1 - (w64 (u0.Add * u2)))).tdiv a)).tdiv d)) < 0)) && (decide ((w64 (f.tdiv h)) > 0))) && (decide ((w64 ((w64 ((w64 (u1 - (w64 (u0.Add * u2)))).tdiv a)).tdiv d)) < (w64 ((boundsS u0).1.tdiv (w64 (f.tdiv h)))))))) || (((decide ((w64 ((w64 ((w64 (u1 - (w64 (u0.Add * u2)))).tdiv a)).tdiv d)) > 0)) && (decide ((w64 (f.tdiv h)) < 0))) && (decide ((w64 ((w64 ((w64 (u1 - (w64 (u0.Add * u2)))).tdiv a)).tdiv d)) > (w64 ((boundsS u0).1.tdiv (w64 (f.tdiv h)))))))) (.bool (decide ((w64 ((w64 ((w64 (u1 - (w64 (u0.Add * u2)))).tdiv a)).tdiv d)) < 0))) rfl rfl ?_; intro fE cv
  refine gp cv 146 3 [7] (decide ((w64 ((w64 ((w64 (u1 - (w64 (u0.Add * u2)))).tdiv a)).tdiv d)) < 0)) (i6 (w64 (f.tdiv h))) rfl rfl ?_; intro fF cw
  refine gp cw 147 3 [7] (decide ((w64 ((w64 ((w64 (u1 - (w64 (u0.Add * u2)))).tdiv a)).tdiv d)) < 0)) (.bool (decide ((w64 (f.tdiv h)) < 0))) rfl rfl ?_; intro fG aj
  refine gd aj (.bool ((decide ((w64 ((w64 ((w64 (u1 - (w64 (u0.Add * u2)))).tdiv a)).tdiv d)) < 0)) && (decide ((w64 (f.tdiv h)) < 0)))) (m := 7) (cj := []) (bj := ((((decide ((w64 ((w64 ((w64 (u1 - (w64 (u0.Add * u2)))).tdiv a)).tdiv d)) > 0)) && (decide ((w64 (f.tdiv h)) > 0))) && (decide ((w64 ((w64 ((w64 (u1 - (w64 (u0.Add * u2)))).tdiv a)).tdiv d)) > (w64 ((boundsS u0).2.tdiv (w64 (f.tdiv h))))))) || (((decide ((w64 ((w64 ((w64 (u1 - (w64 (u0.Add * u2)))).tdiv a)).tdiv d)) < 0)) && (decide ((w64 (f.tdiv h)) > 0))) && (decide ((w64 ((w64 ((w64 (u1 - (w64 (u0.Add * u2)))).tdiv a)).tdiv d)) < (w64 ((boundsS u0).1.tdiv (w64 (f.tdiv h)))))))) || (((decide ((w64 ((w64 ((w64 (u1 - (w64 (u0.Add * u2)))).tdiv a)).tdiv d)) > 0)) && (decide ((w64 (f.tdiv h)) < 0))) && (decide ((w64 ((w64 ((w64 (u1 - (w64 (u0.Add * u2)))).tdiv a)).tdiv d)) > (w64 ((boundsS u0).1.tdiv (w64 (f.tdiv h)))))))) rfl rfl (by kernel_rfl) rfl (by kernel_rfl) (by kernel_rfl) (by kernel_rfl) (fun hg => pk_and aj (g := [7]) (m := 3) (b := decide ((w64 ((w64 ((w64 (u1 - (w64 (u0.Add * u2)))).tdiv a)).tdiv d)) < 0)) (v := decide ((w64 (f.tdiv h)) < 0)) rfl (by kernel_rfl) (by kernel_rfl) (by kernel_rfl) hg) ?_; intro fH cx
  refine gp cx 149 7 [] (((((decide ((w64 ((w64 ((w64 (u1 - (w64 (u0.Add * u2)))).tdiv a)).tdiv d)) > 0)) && (decide ((w64 (f.tdiv h)) > 0))) && (decide ((w64 ((w64 ((w64 (u1 - (w64 (u0.Add * u2)))).tdiv a)).tdiv d)) > (w64 ((boundsS u0).2.tdiv (w64 (f.tdiv h))))))) || (((decide ((w64 ((w64 ((w64 (u1 - (w64 (u0.Add * u2)))).tdiv a)).tdiv d)) < 0)) && (decide ((w64 (f.tdiv h)) > 0))) && (decide ((w64 ((w64 ((w64 (u1 - (w64 (u0.Add * u2)))).tdiv a)).tdiv d)) < (w64 ((boundsS u0).1.tdiv (w64 (f.tdiv h)))))))) || (((decide ((w64 ((w64 ((w64 (u1 - (w64 (u0.Add * u2)))).tdiv a)).tdiv d)) > 0)) && (decide ((w64 (f.tdiv h)) < 0))) && (decide ((w64 ((w64 ((w64 (u1 - (w64 (u0.Add * u2)))).tdiv a)).tdiv d)) > (w64 ((boundsS u0).1.tdiv (w64 (f.tdiv h)))))))) (.bool ((decide ((w64 ((w64 ((w64 (u1 - (w64 (u0.Add * u2)))).tdiv a)).tdiv d)) < 0)) && (decide ((w64 (f.tdiv h)) < 0)))) rfl rfl ?_; intro fI cy
  have cz := cy.atom (((decide ((w64 ((w64 ((w64 (u1 - (w64 (u0.Add * u2)))).tdiv a)).tdiv d)) < 0)) && (decide ((w64 (f.tdiv h)) < 0))) == true) (by kernel_rfl)
  refine gp cz 150 8 [7] ((decide ((w64 ((w64 ((w64 (u1 - (w64 (u0.Add * u2)))).tdiv a)).tdiv d)) < 0)) && (decide ((w64 (f.tdiv h)) < 0))) (i6 (w64 ((w64 ((w64 (u1 - (w64 (u0.Add * u2)))).tdiv a)).tdiv d))) rfl rfl ?_; intro fJ cA
  refine gp cA 151 8 [7] ((decide ((w64 ((w64 ((w64 (u1 - (w64 (u0.Add * u2)))).tdiv a)).tdiv d)) < 0)) && (decide ((w64 (f.tdiv h)) < 0))) (i6 (boundsS u0).2) rfl rfl ?_; intro fK cB
  refine gp cB 152 8 [7] ((decide ((w64 ((w64 ((w64 (u1 - (w64 (u0.Add * u2)))).tdiv a)).tdiv d)) < 0)) && (decide ((w64 (f.tdiv h)) < 0))) (i6 (w64 (f.tdiv h))) rfl rfl ?_; intro fL ak
  obtain ⟨dB, H⟩ := dA
  refine gd ak (i6 (w64 ((boundsS u0).2.tdiv (w64 (f.tdiv h))))) (m := 8) (cj := [7]) (bj := (decide ((w64 ((w64 ((w64 (u1 - (w64 (u0.Add * u2)))).tdiv a)).tdiv d)) < 0)) && (decide ((w64 (f.tdiv h)) < 0))) rfl rfl (by kernel_rfl) rfl (by kernel_rfl) (by kernel_rfl) (by kernel_rfl) (fun hg => quo_run ak (g := [8, 7]) rfl (by kernel_rfl) (by kernel_rfl) (gT (c := [8, 7]) hg dB) hg) ?_; intro fM cC
  refine gp cC 154 8 [7] ((decide ((w64 ((w64 ((w64 (u1 - (w64 (u0.Add * u2)))).tdiv a)).tdiv d)) < 0)) && (decide ((w64 (f.tdiv h)) < 0))) (.bool (decide ((w64 ((w64 ((w64 (u1 - (w64 (u0.Add * u2)))).tdiv a)).tdiv d)) < (w64 ((boundsS u0).2.tdiv (w64 (f.tdiv h))))))) rfl rfl ?_; intro fN al
  refine gd al (.bool (((decide ((w64 ((w64 ((w64 (u1 - (w64 (u0.Add * u2)))).tdiv a)).tdiv d)) < 0)) && (decide ((w64 (f.tdiv h)) < 0))) && (decide ((w64 ((w64 ((w64 (u1 - (w64 (u0.Add * u2)))).tdiv a)).tdiv d)) < (w64 ((boundsS u0).2.tdiv (w64 (f.tdiv h)))))))) (m := 7) (cj := []) (bj := ((((decide ((w64 ((w64 ((w64 (u1 - (w64 (u0.Add * u2)))).tdiv a)).tdiv d)) > 0)) && (decide ((w64 (f.tdiv h)) > 0))) && (decide ((w64 ((w64 ((w64 (u1 - (w64 (u0.Add * u2)))).tdiv a)).tdiv d)) > (w64 ((boundsS u0).2.tdiv (w64 (f.tdiv h))))))) || (((decide ((w64 ((w64 ((w64 (u1 - (w64 (u0.Add * u2)))).tdiv a)).tdiv d)) < 0)) && (decide ((w64 (f.tdiv h)) > 0))) && (decide ((w64 ((w64 ((w64 (u1 - (w64 (u0.Add * u2)))).tdiv a)).tdiv d)) < (w64 ((boundsS u0).1.tdiv (w64 (f.tdiv h)))))))) || (((decide ((w64 ((w64 ((w64 (u1 - (w64 (u0.Add * u2)))).tdiv a)).tdiv d)) > 0)) && (decide ((w64 (f.tdiv h)) < 0))) && (decide ((w64 ((w64 ((w64 (u1 - (w64 (u0.Add * u2)))).tdiv a)).tdiv d)) > (w64 ((boundsS u0).1.tdiv (w64 (f.tdiv h)))))))) rfl rfl (by kernel_rfl) rfl (by kernel_rfl) (by kernel_rfl) (by kernel_rfl) (fun hg => pk_and al (g := [7]) (m := 8) (b := (decide ((w64 ((w64 ((w64 (u1 - (w64 (u0.Add * u2)))).tdiv a)).tdiv d)) < 0)) && (decide ((w64 (f.tdiv h)) < 0))) (v := decide ((w64 ((w64 ((w64 (u1 - (w64 (u0.Add * u2)))).tdiv a)).tdiv d)) < (w64 ((boundsS u0).2.tdiv (w64 (f.tdiv h)))))) rfl (by kernel_rfl) (by kernel_rfl) (by kernel_rfl) hg) ?_; intro fO am
  refine u_ am (.bool ((((((decide ((w64 ((w64 ((w64 (u1 - (w64 (u0.Add * u2)))).tdiv a)).tdiv d)) > 0)) && (decide ((w64 (f.tdiv h)) > 0))) && (decide ((w64 ((w64 ((w64 (u1 - (w64 (u0.Add * u2)))).tdiv a)).tdiv d)) > (w64 ((boundsS u0).2.tdiv (w64 (f.tdiv h))))))) || (((decide ((w64 ((w64 ((w64 (u1 - (w64 (u0.Add * u2)))).tdiv a)).tdiv d)) < 0)) && (decide ((w64 (f.tdiv h)) > 0))) && (decide ((w64 ((w64 ((w64 (u1 - (w64 (u0.Add * u2)))).tdiv a)).tdiv d)) < (w64 ((boundsS u0).1.tdiv (w64 (f.tdiv h)))))))) || (((decide ((w64 ((w64 ((w64 (u1 - (w64 (u0.Add * u2)))).tdiv a)).tdiv d)) > 0)) && (decide ((w64 (f.tdiv h)) < 0))) && (decide ((w64 ((w64 ((w64 (u1 - (w64 (u0.Add * u2)))).tdiv a)).tdiv d)) > (w64 ((boundsS u0).1.tdiv (w64 (f.tdiv h)))))))) || (((decide ((w64 ((w64 ((w64 (u1 - (w64 (u0.Add * u2)))).tdiv a)).tdiv d)) < 0)) && (decide ((w64 (f.tdiv h)) < 0))) && (decide ((w64 ((w64 ((w64 (u1 - (w64 (u0.Add * u2)))).tdiv a)).tdiv d)) < (w64 ((boundsS u0).2.tdiv (w64 (f.tdiv h))))))))) (pk_or am (g := []) (m := 7) (b := ((((decide ((w64 ((w64 ((w64 (u1 - (w64 (u0.Add * u2)))).tdiv a)).tdiv d)) > 0)) && (decide ((w64 (f.tdiv h)) > 0))) && (decide ((w64 ((w64 ((w64 (u1 - (w64 (u0.Add * u2)))).tdiv a)).tdiv d)) > (w64 ((boundsS u0).2.tdiv (w64 (f.tdiv h))))))) || (((decide ((w64 ((w64 ((w64 (u1 - (w64 (u0.Add * u2)))).tdiv a)).tdiv d)) < 0)) && (decide ((w64 (f.tdiv h)) > 0))) && (decide ((w64 ((w64 ((w64 (u1 - (w64 (u0.Add * u2)))).tdiv a)).tdiv d)) < (w64 ((boundsS u0).1.tdiv (w64 (f.tdiv h)))))))) || (((decide ((w64 ((w64 ((w64 (u1 - (w64 (u0.Add * u2)))).tdiv a)).tdiv d)) > 0)) && (decide ((w64 (f.tdiv h)) < 0))) && (decide ((w64 ((w64 ((w64 (u1 - (w64 (u0.Add * u2)))).tdiv a)).tdiv d)) > (w64 ((boundsS u0).1.tdiv (w64 (f.tdiv h)))))))) (v := ((decide ((w64 ((w64 ((w64 (u1 - (w64 (u0.Add * u2)))).tdiv a)).tdiv d)) < 0)) && (decide ((w64 (f.tdiv h)) < 0))) && (decide ((w64 ((w64 ((w64 (u1 - (w64 (u0.Add * u2)))).tdiv a)).tdiv d)) < (w64 ((boundsS u0).2.tdiv (w64 (f.tdiv h))))))) rfl (by kernel_rfl) (by kernel_rfl) (by kernel_rfl) rfl) ?_; intro cD z
  apply bI
  refine c_ z H (fun _ dC => ?_) fun _ I => ?_
  ·
   have cE : Fr 171 [] [] cD := z.reg
   refine sqB cE n [] [] [(6, i6 0), (7, i6 3)] ?_; intro fP dD
   exact r_ (h_ (ra2 dD (.tuple #[i6 0, i6 3]) ⟨(0, 3), rfl, dC, n.below⟩))
  refine k_ (s_ ?_)
  have cF : Fr 171 [] [⟨9, [], i6 (w64 ((w64 ((w64 (u1 - (w64 (u0.Add * u2)))).tdiv a)).tdiv d))⟩, ⟨11, [], i6 (w64 (f.tdiv h))⟩, ⟨14, [], i6 (boundsS u0).1⟩, ⟨15, [], i6 (boundsS u0).2⟩] cD := z.reg
  refine sqB cF n [] [] [(16, i6 (w64 ((w64 ((w64 ((w64 (u1 - (w64 (u0.Add * u2)))).tdiv a)).tdiv d)) * (w64 (f.tdiv h)))))] ?_; intro fQ cG
  refine sqB cG n [] [] [(167, .bool ((decide ((w64 ((w64 ((w64 ((w64 (u1 - (w64 (u0.Add * u2)))).tdiv a)).tdiv d)) * (w64 (f.tdiv h)))) < (boundsS u0).1)) || (decide ((w64 ((w64 ((w64 ((w64 (u1 - (w64 (u0.Add * u2)))).tdiv a)).tdiv d)) * (w64 (f.tdiv h)))) > (boundsS u0).2))))] ?_; intro fR A
  refine c_ A I (fun _ dE => ?_) fun _ dG => ?_
  ·
   refine sqB A n [] [] [(6, i6 0), (7, i6 3)] ?_; intro fS dF
   exact r_ (h_ (ra2 dF (.tuple #[i6 0, i6 3]) ⟨(0, 3), rfl, dE, n.below⟩))
  refine k_ (sqB A n [] [] [(6, i6 (w64 ((w64 ((w64 ((w64 (u1 - (w64 (u0.Add * u2)))).tdiv a)).tdiv d)) * (w64 (f.tdiv h))))), (7, i6 0)] ?_); intro fT dH
  exact r_ (ra2 dH (.tuple #[i6 (w64 ((w64 ((w64 ((w64 (u1 - (w64 (u0.Add * u2)))).tdiv a)).tdiv d)) * (w64 (f.tdiv h)))), i6 0]) ⟨(w64 ((w64 ((w64 ((w64 (u1 - (w64 (u0.Add * u2)))).tdiv a)).tdiv d)) * (w64 (f.tdiv h))), 0), rfl, dG, n.below⟩)
 refine c_ aR C (fun _ dI => ?_) fun _ dK => ?_
 ·
  refine rgB aR u [] [] [(11, i6 (w64 (0 - (w64 (u0.Div.tdiv i))))), (12, i6 (w64 (0 - (w64 (u0.Mul.tdiv i)))))] ?_; intro fU dJ
  exact d_ (aS (w64 (0 - (w64 (u0.Div.tdiv i)))) (w64 (0 - (w64 (u0.Mul.tdiv i)))) dI _ _ ((dJ.reg).anyβ _ (by kernel_rfl)) (u.kp))
 exact l_ (d_ (aS (w64 (u0.Div.tdiv i)) (w64 (u0.Mul.tdiv i)) dK _ _ ((aR.reg).anyβ _ (by kernel_rfl)) (u.kp)))
end Go.Proofs.YtdndfbamhnchfaaGreatDoor
set_option linter.unusedVariables false
set_option linter.unusedSimpArgs false
set_option linter.defProp false
set_option maxRecDepth 100000
set_option maxHeartbeats 0
namespace Go.Proofs.YtdndfbamhnchfaaGreatDoor
open Go.Sy Go.RowKit
theorem iisnan_walk (u0 : Int)  (Z : Fz) (w : World)  (hZ : Z.on w) {K : Bool → Prop} (hp : iisnan_vc u0 K) : Calls Tryz.prog 108 #[i6 u0] w fun e w' => ∃ r : Bool, e = .returned (.bool r) ∧ K r ∧ Below w.heap.size w w' := by
 refine enter0 Tryz.func108 rfl rfl (by kernel_rfl) ?_; intro f b; have a := Mem.start w Z hZ
 refine sqB b a [] [] [] ?_; intro h c
 refine sqB c a [] [] [(2, .bool (u0 != u0))] ?_; intro i d
 exact r_ (ra1 d (.bool (u0 != u0)) ⟨u0 != u0, rfl, hp, a.below⟩)
def iisnan_fun (u0 : Int)  (Z : Fz) (w : World)  (hZ : Z.on w) := f_ (iisnan_walk u0  Z w  hZ (iisnan_ok u0))
def sraw_fun (u0 : Signal) (u1 : Int) (u2 : Int)  (Z : Fz) (w : World)  (hZ : Z.on w) := f_ (sraw_walk u0 u1 u2  Z w  hZ (sraw_ok u0 u1 u2))
end Go.Proofs.YtdndfbamhnchfaaGreatDoor
namespace Go.Proofs
open Go.Shelf
def Tryz.lays189_ren : Go.Shelf.Ren := ⟨fun | 189 => 88 | 125 => 107 | 257 => 106 | 128 => 124 | 129 => 125 | 294 => 115 | 295 => 116 | 296 => 117 | 297 => 118 | 298 => 119 | 299 => 120 | 216 => 121 | 300 => 122 | 301 => 123 | 328 => 132 | 329 => 133 | 330 => 134 | 331 => 135 | 332 => 136 | 215 => 108 | 343 => 141 | n => n, fun | 28 => 59 | 3 => 3 | 46 => 82 | 0 => 0 | 51 => 105 | 53 => 108 | 4 => 4 | 183 => 134 | 182 => 133 | 131 => 139 | 5 => 5 | 9 => 9 | 218 => 148 | 222 => 151 | 228 => 161 | 229 => 96 | n => n, fun | n => n⟩
theorem Tryz.lays189 : Go.Proofs.Lays.n189 Tryz.prog Tryz.lays189_ren := {
  mixed := by kernel_rfl
  f125 := Tryz.func107.trans (congrArg some (by kernel_rfl))
  f128 := Tryz.func124.trans (congrArg some (by kernel_rfl))
  f129 := Tryz.func125.trans (congrArg some (by kernel_rfl))
  f189 := Tryz.func88.trans (congrArg some (by kernel_rfl))
  f215 := Tryz.func108.trans (congrArg some (by kernel_rfl))
  f216 := Tryz.func121.trans (congrArg some (by kernel_rfl))
  f257 := Tryz.func106.trans (congrArg some (by kernel_rfl))
  f294 := Tryz.func115.trans (congrArg some (by kernel_rfl))
  f295 := Tryz.func116.trans (congrArg some (by kernel_rfl))
  f296 := Tryz.func117.trans (congrArg some (by kernel_rfl))
  f297 := Tryz.func118.trans (congrArg some (by kernel_rfl))
  f298 := Tryz.func119.trans (congrArg some (by kernel_rfl))
  f299 := Tryz.func120.trans (congrArg some (by kernel_rfl))
  f300 := Tryz.func122.trans (congrArg some (by kernel_rfl))
  f301 := Tryz.func123.trans (congrArg some (by kernel_rfl))
  f328 := Tryz.func132.trans (congrArg some (by kernel_rfl))
  f329 := Tryz.func133.trans (congrArg some (by kernel_rfl))
  f330 := Tryz.func134.trans (congrArg some (by kernel_rfl))
  f331 := Tryz.func135.trans (congrArg some (by kernel_rfl))
  f332 := Tryz.func136.trans (congrArg some (by kernel_rfl))
  f343 := Tryz.func141.trans (congrArg some (by kernel_rfl))
  t0 := Tryz.underlying0
  a0 := Tryz.isAgg0
  z0 := Tryz.sizeOf0
  v0 := Tryz.zeroValue0
  t3 := Tryz.underlying3
  a3 := Tryz.isAgg3
  z3 := Tryz.sizeOf3
  v3 := Tryz.zeroValue3
  t4 := Tryz.underlying4
  a4 := Tryz.isAgg4
  z4 := Tryz.sizeOf4
  v4 := Tryz.zeroValue4
  t5 := Tryz.underlying5
  a5 := Tryz.isAgg5
  z5 := Tryz.sizeOf5
  v5 := Tryz.zeroValue5
  t9 := Tryz.underlying9
  a9 := Tryz.isAgg9
  z9 := Tryz.sizeOf9
  v9 := Tryz.zeroValue9
  t28 := Tryz.underlying59
  a28 := Tryz.isAgg59
  z28 := Tryz.sizeOf59
  v28 := Tryz.zeroValue59
  t46 := Tryz.underlying82
  a46 := Tryz.isAgg82
  z46 := Tryz.sizeOf82
  v46 := Tryz.zeroValue82
  t51 := Tryz.underlying105
  a51 := Tryz.isAgg105
  z51 := Tryz.sizeOf105
  v51 := Tryz.zeroValue105
  t53 := Tryz.underlying108
  a53 := Tryz.isAgg108
  z53 := Tryz.sizeOf108
  v53 := Tryz.zeroValue108
  t131 := Tryz.underlying139
  a131 := Tryz.isAgg139
  z131 := Tryz.sizeOf139
  v131 := Tryz.zeroValue139
  t182 := Tryz.underlying133
  a182 := Tryz.isAgg133
  z182 := Tryz.sizeOf133
  v182 := Tryz.zeroValue133
  t183 := Tryz.underlying134
  a183 := Tryz.isAgg134
  z183 := Tryz.sizeOf134
  v183 := Tryz.zeroValue134
  t218 := Tryz.underlying148
  a218 := Tryz.isAgg148
  z218 := Tryz.sizeOf148
  v218 := Tryz.zeroValue148
  t222 := Tryz.underlying151
  a222 := Tryz.isAgg151
  z222 := Tryz.sizeOf151
  v222 := Tryz.zeroValue151
  t228 := Tryz.underlying161
  a228 := Tryz.isAgg161
  z228 := Tryz.sizeOf161
  v228 := Tryz.zeroValue161
  t229 := Tryz.underlying96
  a229 := Tryz.isAgg96
  z229 := Tryz.sizeOf96
  v229 := Tryz.zeroValue96 }
end Go.Proofs
set_option linter.unusedVariables false
set_option linter.unusedSimpArgs false
set_option maxRecDepth 100000
set_option maxHeartbeats 0
namespace Go.Proofs.YtdndfbamhnchfaaGreatDoor
open Go.Sy Go.RowKit
open Go Go.Sort
theorem sort_block (w : World) (blk n : Nat) (d : Array Int) (os : Array Obj) (cur : Array Value) (e : TypeId) (fr : Nat × Nat) (h : w.heap[blk]? = some (.cells cur e fr)) : (grow (putRow (Value.int .i64) (Go.Sort.ahead w n) blk 0 d) os).heap[blk]? = some (.cells (putCells (Value.int .i64) 0 d cur) e fr) := by
 have hl := (Array.getElem?_eq_some_iff.1 h).1
 have hl' : blk < (w.heap.modify blk (onCells (putCells (Value.int .i64) 0 d))).size := by rw [Array.size_modify]; exact hl
 show (w.heap.modify blk (onCells (putCells (Value.int .i64) 0 d)) ++ os)[blk]? = _
 rw [Array.getElem?_append, if_pos hl', Array.getElem?_modify, if_pos rfl, h]
 rfl
theorem sort_grown (w : World) (blk n : Nat) (d : Array Int) (os : Array Obj) : w.grownBy (grow (putRow (Value.int .i64) (Go.Sort.ahead w n) blk 0 d) os) (some blk) := by
 refine ⟨rfl, rfl, rfl, ?_, fun k hk hne => ?_⟩
 · show w.heap.size ≤ (w.heap.modify blk _ ++ os).size
   rw [Array.size_append, Array.size_modify]
   omega
 · have hl' : k < (w.heap.modify blk (onCells (putCells (Value.int .i64) 0 d))).size := by rw [Array.size_modify]; exact hk
   show (w.heap.modify blk (onCells (putCells (Value.int .i64) 0 d)) ++ os)[k]? = _
   rw [Array.getElem?_append, if_pos hl', Array.getElem?_modify, if_neg (fun h => hne (by rw [h]))]
theorem sort_cells (d : List Int) (cur : Array Value) (n cap : Nat) (hc : cur.size = cap) (hd : d.length ≤ cap) : ((putCells (Value.int .i64) 0 d.toArray cur).toList.take d.length) = d.map (Value.int .i64) := by
 apply List.ext_getElem?
 intro k
 rw [List.getElem?_take, List.getElem?_map]
 by_cases hk : k < d.length
 · rw [if_pos hk, List.getElem?_eq_getElem hk, Array.getElem?_toList]
   unfold putCells
   rw [Array.getElem?_mapIdx, Array.getElem?_eq_getElem (by omega), Option.map_some, Option.map_some, if_pos ⟨by omega, by simpa using hk⟩]
   congr 1
   simp [hk]
 · rw [if_neg hk, List.getElem?_eq_none (by omega)]
   rfl
theorem sort_mem {B : Nat} {U : List Nat} {w0 : World} {Z0 : Fz} {R : List Res} {Z : Fz} {w : World} (hM : Mem B U w0 Z0 R Z w) (i : Nat) {e : TypeId} {ad : Addr} {cap : Nat} {xs : List Int} (hR : R[i]? = some (.own t6 e (some ad) cap xs)) (n : Nat) (os : Array Obj) (ys : List Int) (hl : ys.length = xs.length) : Mem B U w0 Z0 (R.set i (.own t6 e (some ad) cap ys)) Z (grow (putRow (Value.int .i64) (Go.Sort.ahead w n) ad.block 0 ys.toArray) os) := by
 obtain ⟨a, c, cells, ho, hr⟩ := hM.res _ (List.mem_of_getElem? hR)
 rcases ho.2 with ⟨hv, _⟩ | ⟨g, cap', cur, hv, hb, hg, hn, hc, hs, ht⟩
 · cases hv
 · cases hv
   refine hM.upd hR (sort_grown w _ n _ os) _ ⟨a, by rw [hl]; exact c, ys.map (Value.int .i64), ⟨by simp [tyInt], .inr ⟨g, cap, _, by rw [hl], hb, sort_block w g n _ os cur e _ hg, by rw [hl]; exact hn, hc, ?_, ?_⟩⟩, ?_⟩ (fun b hb => .inl hb)
   · unfold putCells; rw [Array.size_mapIdx]; exact hs
   · have := sort_cells ys cur n (cap * 1) (by simpa [tyInt] using hs) (by omega)
     simpa [tyInt] using this
   · refine ⟨by simp [tyInt], fun j x hx => ?_⟩
     show List.take 1 (List.drop (j * 1) (ys.map (Value.int .i64))) = [Value.int .i64 x]
     have hj := (List.getElem?_eq_some_iff.1 hx).1
     rw [Nat.mul_one, List.drop_eq_getElem_cons (by rw [List.length_map]; exact hj), List.take_succ_cons, List.take_zero, List.getElem_map, (List.getElem?_eq_some_iff.1 hx).2]
theorem sort_frozen (w : World) (g j : Nat) (cur : Array Value) (e : TypeId) (hg : w.heap[g]? = some (.cells cur e (0, 0))) : w.frozen? ⟨g, j, none⟩ = false := by
 simp [World.frozen?, hg]
theorem sort_holds {B : Nat} {U : List Nat} {Z : Fz} {w : World} {e : TypeId} {ad : Addr} {cap : Nat} {xs : List Int} (h : (Res.own t6 e (some ad) cap xs).holds B U Z w) : ad = ⟨ad.block, 0, none⟩ ∧ ad.block < w.heap.size ∧ Holds (Value.int .i64) w ad.block 0 xs.toArray := by
 obtain ⟨d, f, cells, ho, hr⟩ := h
 rcases ho.2 with ⟨hv, _⟩ | ⟨g, cap', cur, hv, hb, hg, hn, hc, hs, ht⟩
 · cases hv
 · cases hv
   refine ⟨rfl, (Array.getElem?_eq_some_iff.1 hg).1, fun j hj => ⟨?_, sort_frozen w g _ cur e hg⟩⟩
   have hj : j < xs.length := by simpa using hj
   have b := hr.2 j xs[j] (List.getElem?_eq_getElem hj)
   have b : List.take 1 (List.drop (j * 1) cells) = [Value.int .i64 xs[j]] := b
   have a : cells[j]? = some (Value.int .i64 xs[j]) := by
    have c := congrArg (fun l => l[0]?) b
    simpa using c
   rw [← ht, List.getElem?_take] at a
   split at a
   · show w.cell? ⟨g, 0 + j, none⟩ = _
     rw [cell_of_row w g _ cur e (0, 0) hg, Nat.zero_add]
     rw [Array.getElem?_toList] at a
     rw [a]
     simp [hj]
   · cases a
theorem isort_at {P : Program} {fid : Nat} (u0 : List Int) (ao1 : Option Addr) (cap2 : Nat) (B : Nat) (w0 : World) (Z0 : Fz) (Rr : List Res) (Z : Fz) (w : World) {e : TypeId} (hM0 : Mem B [] w0 Z0 ((.own t6 e ao1 cap2 u0) :: Rr) Z w) (h1 : ∀ (blk off cap : Nat) (zs : List Int) (w : World) (hH : Holds (Value.int .i64) w blk off zs.toArray) (hblk : blk < w.heap.size) (hsz : zs.length < 4611686018427387904), Calls P fid #[.slice (some ⟨blk, off, none⟩) zs.length cap] w fun e w' => e = .returned (.tuple #[]) ∧ ∃ n os, w' = grow (putRow (Value.int .i64) (Go.Sort.ahead w n) blk off (zs.mergeSort fun x y => decide (x ≤ y)).toArray) os) (h2 : ∀ (p : Option Addr) (cap : Nat) (w : World), Calls P fid #[.slice p 0 cap] w fun e w' => e = .returned (.tuple #[]) ∧ w' = w) : Calls P fid #[.slice ao1 u0.length cap2] w fun e9 w' => ∃ (Z' : Fz), e9 = .returned (.tuple #[]) ∧ Fz.le Z Z' ∧ ((isortS u0).length = u0.length) ∧ Mem B [] w0 Z0 ((.own t6 e ao1 cap2 (isortS u0)) :: Rr) Z' w' := by
 have hr := hM0.res _ List.mem_cons_self
 cases ao1 with
 | none =>
  obtain ⟨_, _, cells, ho, _⟩ := hr
  rcases ho.2 with ⟨hv, hn⟩ | ⟨g, cap', cur, hv, _⟩
  · have : u0 = [] := List.eq_nil_of_length_eq_zero hn
    subst this
    have a : isortS [] = [] := by unfold isortS; exact List.mergeSort_nil
    rw [a]
    exact (h2 none cap2 w).mono fun _ _ ⟨ha, hb⟩ => by subst hb; exact ⟨Z, ha, Fz.le.refl Z, rfl, hM0⟩
  · cases hv
 | some ad =>
  obtain ⟨ha, hb, hc⟩ := sort_holds hr
  have hsm : u0.length < 4611686018427387904 := by
   have := hr.2.1
   have e : lim = 140737488355328 := rfl
   omega
  have hcall := h1 ad.block 0 cap2 u0 w hc hb hsm
  rw [← ha] at hcall
  refine hcall.mono ?_
  rintro _ _ ⟨he, n, os, rfl⟩
  exact ⟨Z, he, Fz.le.refl Z, isort_len u0, sort_mem hM0 0 rfl n os (isortS u0) (isort_len u0)⟩
theorem isort_fun (u0 : List Int) (ao1 : Option Addr) (cap2 : Nat) (B : Nat) (w0 : World) (Z0 : Fz) (Rr : List Res) (Z : Fz) (w : World) (hM0 : Mem B [] w0 Z0 ((.own t6 3 ao1 cap2 u0) :: Rr) Z w) (hZ : Z.on w) : Calls Tryz.prog 88 #[.slice ao1 u0.length cap2] w fun e w' => ∃ (Z' : Fz), e = .returned (.tuple #[]) ∧ Fz.le Z Z' ∧ ((isortS u0).length = u0.length) ∧ Mem B [] w0 Z0 ((.own t6 3 ao1 cap2 (isortS u0)) :: Rr) Z' w' :=
 isort_at u0 ao1 cap2 B w0 Z0 Rr Z w hM0 (fun blk off cap zs w hH hb hs => Any.slices_Sort_int Tryz.lays189 blk off cap zs w hH hb hs) (fun p cap w => Any.slices_Sort_int_none Tryz.lays189 p cap w)
theorem icmp_walk (u0 : Int) (u1 : Int)  (Z : Fz) (w : World)  (hZ : Z.on w) {K : Int → Prop} (hp : icmp_vc u0 u1 K) : Calls Tryz.prog 89 #[i6 u0, i6 u1] w fun e w' => ∃ r : Int, e = .returned (i6 r) ∧ K r ∧ Below w.heap.size w w' := by
 refine enter0 Tryz.func89 rfl rfl (by kernel_rfl) ?_; intro U u; have h := Mem.start w Z hZ
 refine sqB u h [] [] [] ?_; intro W v
 refine sqH ?_; intro F x
 refine s1 v 7 (i6 u0) ?_; intro X y
 refine fc y h (iisnan_fun u0 _ _ h.fz) ?_; intro Y aa z m
 refine s1 z 5 (.bool (iisnan u0)) ?_; intro ab A
 apply x
 refine sqH ?_; intro G B
 refine s1 A 9 (i6 u1) ?_; intro ac C
 refine fc C m (iisnan_fun u1 _ _ m.fz) ?_; intro ad ae D a
 refine s1 D 6 (.bool (iisnan u1)) ?_; intro af E
 apply B
 refine s_ (sqB E a [] [] [(11, .bool (iisnan u0))] ?_); intro ag b
 refine cd b (t := (iisnan u0)) (by kernel_rfl) (fun n => ?_) (fun n => ?_)
 · -- yes
  have i := hp.1 n
  refine s_ (sqB b a [] [] [(12, .bool (iisnan u1))] ?_); intro ah c
  refine cd c (t := (iisnan u1)) (by kernel_rfl) (fun o => ?_) (fun o => ?_)
  · -- yes
   have H := i.1 o
   refine sqB c a [] [] [(4, i6 0)] ?_; intro ai I
   exact r_ (h_ (h_ (ra1 I (i6 0) ⟨0, rfl, H, a.below⟩)))
  · -- no
   have J := i.2 o
   refine k_ (sqB c a [] [] [(4, i6 (-1))] ?_); intro aj L
   exact r_ (h_ (ra1 L (i6 (-1)) ⟨-1, rfl, J, a.below⟩))
 · -- no
  have j := hp.2 n
  refine k_ (s_ (sqB b a [] [] [(13, .bool (iisnan u1))] ?_)); intro ak d
  refine cd d (t := (iisnan u1)) (by kernel_rfl) (fun p => ?_) (fun p => ?_)
  · -- yes
   have M := j.1 p
   refine sqB d a [] [] [(4, i6 1)] ?_; intro al N
   exact r_ (h_ (ra1 N (i6 1) ⟨1, rfl, M, a.below⟩))
  · -- no
   have k := j.2 p
   refine k_ (s_ (sqB d a [] [] [(16, .bool (decide (u0 < u1)))] ?_)); intro am f
   refine cd f (t := decide (u0 < u1)) (by kernel_rfl) (fun q => ?_) (fun q => ?_)
   · -- yes
    have O := k.1 q
    refine sqB f a [] [] [(4, i6 (-1))] ?_; intro an P
    exact r_ (h_ (ra1 P (i6 (-1)) ⟨-1, rfl, O, a.below⟩))
   · -- no
    have l := k.2 q
    refine k_ (s_ (sqB f a [] [] [(19, .bool (decide (u0 > u1)))] ?_)); intro ao g
    refine cd g (t := decide (u0 > u1)) (by kernel_rfl) (fun s => ?_) (fun s => ?_)
    · -- yes
     have Q := l.1 s
     refine sqB g a [] [] [(4, i6 1)] ?_; intro ap R
     exact r_ (h_ (ra1 R (i6 1) ⟨1, rfl, Q, a.below⟩))
    · -- no
     have S := l.2 s
     refine k_ (sqB g a [] [] [(4, i6 0)] ?_); intro aq T
     exact r_ (ra1 T (i6 0) ⟨0, rfl, S, a.below⟩)
end Go.Proofs.YtdndfbamhnchfaaGreatDoor
set_option linter.unusedVariables false
set_option linter.unusedSimpArgs false
set_option linter.defProp false
set_option maxRecDepth 100000
set_option maxHeartbeats 0
namespace Go.Proofs.YtdndfbamhnchfaaGreatDoor
open Go.Sy Go.RowKit
abbrev e46F (X : Signal) : List Value := [str X.Name, i6 X.Start, i6 X.Size, .bool X.Back, .bool X.Signed, i6 X.Mul, i6 X.Div, i6 X.Add, i6 X.Key]
def icmp_fun (u0 : Int) (u1 : Int)  (Z : Fz) (w : World)  (hZ : Z.on w) := f_ (icmp_walk u0 u1  Z w  hZ (icmp_ok u0 u1))
theorem sover_walk (u0 : Signal) (u1 : Signal)  (Z : Fz) (w : World)  (hZ : Z.on w) {K : Bool → Prop} (hp : sover_vc u0 u1 K) : Calls Tryz.prog 59 #[.agg #[str u0.Name, i6 u0.Start, i6 u0.Size, .bool u0.Back, .bool u0.Signed, i6 u0.Mul, i6 u0.Div, i6 u0.Add, i6 u0.Key], .agg #[str u1.Name, i6 u1.Start, i6 u1.Size, .bool u1.Back, .bool u1.Signed, i6 u1.Mul, i6 u1.Div, i6 u1.Add, i6 u1.Key]] w fun e w' => ∃ r : Bool, e = .returned (.bool r) ∧ K r ∧ Below w.heap.size w w' := by
 refine enter0 Tryz.func59 rfl rfl (by kernel_rfl) ?_; intro a0 aj; have ak := Mem.start w Z hZ
 refine sqH ?_; intro bB al
 refine nw aj ak pb (e46F u0) 46 ?_; intro j a3 cJ am an
 refine nw am an pb (e46F u1) 46 ?_; intro i a8 cK ao H
 refine s1 ao 4 (.bool false) ?_; intro cL ap
 apply al
 refine s_ (sqH ?_); intro bC aq
 refine l2 ap H 8 1 0 9 (e46F u0) rfl rfl ?_; intro cM ar
 refine fc ar H (scheck_fun u0 64 _ _ H.fz) ?_; intro cN cO au I
 refine s1 au 10 (.bool ((checkS u0 64) != 0)) ?_; intro cP av
 refine s1 av 11 (.bool ((checkS u0 64) != 0)) ?_; intro cQ aw
 have S := aw.atom (((checkS u0 64) != 0) == false) (by kernel_rfl)
 refine gd S (.agg (e46F u1).toArray) (m := 0) (cj := []) (bj := (checkS u0 64) != 0) rfl rfl (by kernel_rfl) rfl (by kernel_rfl) (by kernel_rfl) (by kernel_rfl) (fun hg => lda S I 0 (g := [0]) (b := i) (off := 0) (k := 9) (cs := (e46F u1)) (vs := (e46F u1)) (ty := 46) rfl (by kernel_rfl) (by kernel_rfl) (by kernel_rfl) (by kernel_rfl) (by kernel_rfl) hg) ?_; intro cR ax
 refine gcl ax I (i6 (checkS u1 64)) 58 #[.agg (e46F u1).toArray, i6 64] (m := 0) (cj := []) (bj := (checkS u0 64) != 0) rfl rfl (by kernel_rfl) rfl (by kernel_rfl) (by kernel_rfl) (by kernel_rfl) (fun _ => by kernel_rfl) (fun hg => scheck_fun u1 64 _ _ I.fz) ?_; intro cT cU ay J
 refine gp ay 14 0 [] ((checkS u0 64) != 0) (.bool ((checkS u1 64) != 0)) rfl rfl ?_; intro cV U
 refine u_ U (.bool (((checkS u0 64) != 0) || ((checkS u1 64) != 0))) (pk_or U (g := []) (m := 0) (b := (checkS u0 64) != 0) (v := (checkS u1 64) != 0) rfl (by kernel_rfl) (by kernel_rfl) (by kernel_rfl) rfl) ?_; intro az x
 apply aq
 refine cd x (t := ((checkS u0 64) != 0) || ((checkS u1 64) != 0)) (by kernel_rfl) (fun V => ?_) (fun V => ?_)
 · -- yes
  have bD := hp.1 V
  have aA : Fr 49 [] [] az := x.reg
  refine sqB aA J [] [] [(4, .bool false)] ?_; intro cW bE
  exact r_ (h_ (ra1 bE (.bool false) ⟨false, rfl, bD, J.below⟩))
 · -- no
  have bF := hp.2 V
  apply k_
  have aB : Fr 49 [] [⟨2, [], pt j 0⟩, ⟨3, [], pt i 0⟩] az := x.reg
  refine wp_seq (rgS mixed J [(0, true), (2, true), (1, false), (3, false), (4, true), (5, true)] [] [1, 0] [.row j (e46F u0) 46, .row i (e46F u1) 46] ?_)
  intro bG aC cX W
  have q := Fz.le.refl Z
  refine cS aB 2 [0, 1] [] [(16, .agg (e46F u0).toArray), (18, .agg (e46F u1).toArray)] ?_; intro cY aD
  refine eS rfl ?_; intro bH aE
  obtain ⟨bI, bJ⟩ := bF
  refine ck aD 62 #[.agg (e46F u0).toArray] ?_
  refine (splaces_fun u0 bI _ _ W.fz).mono ?_; rintro _ bK ⟨a, c, bL, rfl, hm⟩; refine ⟨_, rfl, ?_⟩; intro cZ aF; have aG := W.callZ hm; have aH := hm.ext.le
  replace q := q.mono aH
  have L : Mem w.heap.size [] w Z [.own t6 3 a c (placesS u0), .row i (e46F u1) 46, .row j (e46F u0) 46] bL bK := aG
  refine nl (qnI (aE _ _ (L.cst q [2, 1]) ?_))
  refine eS rfl ?_; intro bM aI
  obtain ⟨bN, aJ⟩ := bJ
  refine ck aF 62 #[.agg (e46F u1).toArray] ?_
  refine (splaces_fun u1 bN _ _ L.fz).mono ?_; rintro _ bO ⟨d, f, bP, rfl, hm⟩; refine ⟨_, rfl, ?_⟩; intro c0 aK; have aL := L.callZ hm; have aM := hm.ext.le
  replace q := q.mono aM
  have M : Mem w.heap.size [] w Z [.own t6 3 d f (placesS u1), .own t6 3 a c (placesS u0), .row i (e46F u1) 46, .row j (e46F u0) 46] bP bO := aL
  refine nl (qnI (aI _ _ (M.cst q [3, 2]) ?_))
  refine cS aK 2 [] [] [(5, .slice a (placesS u0).length c), (6, .slice d (placesS u1).length f)] ?_; intro c1 aN
  refine nS (aC _ _ ?_)
  refine t_ (sqH ?_); intro bQ aO
  refine s1 aN 20 (.slice a (placesS u0).length c) ?_; intro c2 aP
  refine ck aP 88 #[.slice a (placesS u0).length c] ?_
  refine (isort_fun (placesS u0) a c _ _ _ _ _ _ (M.perm (pk 1 rfl)) M.fz).mono ?_; rintro _ bR ⟨bS, rfl, bT, bU, hm⟩; refine ⟨_, rfl, ?_⟩; intro bV aQ; have aR := hm
  have aS : Fr 49 [] [⟨2, [], pt j 0⟩, ⟨3, [], pt i 0⟩, ⟨5, [], .slice a (isortS (placesS u0)).length c⟩, ⟨6, [], .slice d (placesS u1).length f⟩, ⟨16, [], .agg (e46F u0).toArray⟩, ⟨17, [], .slice a (isortS (placesS u0)).length c⟩, ⟨18, [], .agg (e46F u1).toArray⟩, ⟨19, [], .slice d (placesS u1).length f⟩, ⟨20, [], .slice a (isortS (placesS u0)).length c⟩, ⟨21, [], .tuple #[]⟩] bV := by rw [bU]; exact aQ.region (by kernel_rfl) (by kernel_rfl)
  have N : Mem w.heap.size [] w Z [.own t6 3 a c (isortS (placesS u0)), .own t6 3 d f (placesS u1), .row i (e46F u1) 46, .row j (e46F u0) 46] bS bR := aR
  have aT := aJ (N.ownSmall 0 rfl)
  apply aO
  refine sqH ?_; intro bW aU
  refine s1 aS 22 (.slice d (placesS u1).length f) ?_; intro c3 aV
  refine ck aV 88 #[.slice d (placesS u1).length f] ?_
  refine (isort_fun (placesS u1) d f _ _ _ _ _ _ (N.perm (pk 1 rfl)) N.fz).mono ?_; rintro _ X ⟨bX, rfl, bY, bZ, hm⟩; refine ⟨_, rfl, ?_⟩; intro Y aW; have aX := hm
  have aY : Fr 49 [] [⟨2, [], pt j 0⟩, ⟨3, [], pt i 0⟩, ⟨5, [], .slice a (isortS (placesS u0)).length c⟩, ⟨6, [], .slice d (isortS (placesS u1)).length f⟩, ⟨16, [], .agg (e46F u0).toArray⟩, ⟨17, [], .slice a (isortS (placesS u0)).length c⟩, ⟨18, [], .agg (e46F u1).toArray⟩, ⟨19, [], .slice d (isortS (placesS u1)).length f⟩, ⟨20, [], .slice a (isortS (placesS u0)).length c⟩, ⟨21, [], .tuple #[]⟩, ⟨22, [], .slice d (isortS (placesS u1)).length f⟩, ⟨23, [], .tuple #[]⟩] Y := by rw [bZ]; exact aW.region (by kernel_rfl) (by kernel_rfl)
  have aZ : Mem w.heap.size [] w Z [.own t6 3 d f (isortS (placesS u1)), .own t6 3 a c (isortS (placesS u0)), .row i (e46F u1) 46, .row j (e46F u0) 46] bX X := aX
  have b0 := aT (aZ.ownSmall 0 rfl)
  apply aU
  refine s_ (b_ ?_)
  have a1 : Fr 49 [] [⟨5, [], .slice a (isortS (placesS u0)).length c⟩, ⟨6, [], .slice d (isortS (placesS u1)).length f⟩] Y := aY.reg
  obtain ⟨b1, b3, a2, O⟩ := aZ.freeze 1 rfl
  have b4 : Mem w.heap.size [] w Z [.own t6 3 d f (isortS (placesS u1)), .row i (e46F u1) 46, .row j (e46F u0) 46] b1 X := a2
  obtain ⟨aa, a4, a5, a6⟩ := b4.freeze 0 rfl
  replace O := O.mono a4
  have a7 : Mem w.heap.size [] w Z [.row i (e46F u1) 46, .row j (e46F u0) 46] aa X := a5
  have a9 : Fr 49 [] [⟨5, [], .slice a (isortS (placesS u0)).length c⟩, ⟨6, [], .slice d (isortS (placesS u1)).length f⟩] Y := a1.reg
  obtain ⟨b5, b6, b8, b9⟩ := b0
  refine lp (ι := (List Int) × (List Int) × (Option Addr) × Nat × (Option Addr) × Nat × Fz) (fun s => [⟨5, [], .slice s.2.2.1 s.1.length s.2.2.2.1⟩, ⟨6, [], .slice s.2.2.2.2.1 s.2.1.length s.2.2.2.2.2.1⟩]) (fun s => [.row i (e46F u1) 46, .row j (e46F u0) 46]) (fun s => s.2.2.2.2.2.2) (fun s => b5 s.1 s.2.1 ∧ SlR t6 s.2.2.2.2.2.2 s.2.2.1 s.2.2.2.1 s.1 ∧ SlR t6 s.2.2.2.2.2.2 s.2.2.2.2.1 s.2.2.2.2.2.1 s.2.1 ∧ Fz.le aa s.2.2.2.2.2.2) (fun s => b6 s.1 s.2.1) ⟨(isortS (placesS u0)), (isortS (placesS u1)), a, c, d, f, aa⟩ ⟨b8, O, a6, Fz.le.refl _⟩ (by exact a9.region (by kernel_rfl) (by kernel_rfl)) (by exact a7) ?_
  rintro ⟨l, n, y, z, A, B, ab⟩ ⟨ca, ac, ad, C⟩ cb cc ba bb
  have P := b9 l n ca
  refine s_ (sqB ba bb [] [] [(31, .bool ((decide ((l.length : Int) > 0)) && (decide ((n.length : Int) > 0))))] ?_); intro ce E
  refine cd E (t := (decide ((l.length : Int) > 0)) && (decide ((n.length : Int) > 0))) (by kernel_rfl) (fun ae => ?_) (fun ae => ?_)
  · -- yes
   have cf := P.1 ae
   refine k_ (b_ ?_)
   have bd : Fr 49 [] [⟨5, [], .slice y l.length z⟩, ⟨6, [], .slice A n.length B⟩] ce := E.reg
   refine sqQH mixed (by kernel_rfl) bb ?_; intro cg be
   refine q1 bd 32 (.slice y l.length z) ?_; intro c7 bf
   obtain ⟨ch, bg⟩ := cf
   refine qx_ bf ac (0 : Int) ch .i64 3 8 ?_; intro c8 c9 ci o da cl cm cn af
   have co := bg o cl
   obtain rfl : ci = ([i6 o] : List Value) := cn
   refine qz_ af cm 0 (i6 o) rfl ?_; intro db bh
   refine q1 bh 35 (.slice A n.length B) ?_; intro dc bi
   obtain ⟨cp, bk⟩ := co
   refine qx_ bi ad (0 : Int) cp .i64 3 8 ?_; intro dd de cq p df cr ct cu ag
   have Q := bk p cr
   obtain rfl : cq = ([i6 p] : List Value) := cu
   refine qz_ ag ct 0 (i6 p) rfl ?_; intro dg bl
   refine qcl bl (i6 (icmpS o p)) 89 #[i6 o, i6 p] (nog rfl _) rfl (by kernel_rfl) (fun _ => by kernel_rfl) (qfc fun w hC => icmp_fun o p _ _ hC.fz) ?_; intro dh bm
   refine q1 bm 7 (i6 (icmpS o p)) ?_; intro di bn
   refine qnl (be _ ?_); intro dj u
   refine b_ (sqB bn u [] [] [(41, .bool ((icmpS o p) == 0))] ?_); intro dk F
   refine cd F (t := (icmpS o p) == 0) (by kernel_rfl) (fun ah => ?_) (fun ah => ?_)
   · -- yes
    have cv := Q.1 ah
    refine sqB F u [] [] [(4, .bool true)] ?_; intro dl cw
    exact r_ (i_ (i_ (h_ (i_ (h_ (ra1 cw (.bool true) ⟨true, rfl, cv, u.below⟩))))))
   · -- no
    have R := Q.2 ah
    refine sqB F u [] [] [(44, .bool (decide ((icmpS o p) < 0)))] ?_; intro dm G
    refine cd G (t := decide ((icmpS o p) < 0)) (by kernel_rfl) (fun ai => ?_) (fun ai => ?_)
    · -- yes
     have cx := R.1 ai
     refine rgH ?_; intro cy bo
     refine s1 G 47 (.slice y l.length z) ?_; intro dn bp
     obtain ⟨cz, bq⟩ := cx
     refine slL bp (T := t6) (xs := l) ac (1 : Int) cz (k := .i64) (e := 3) (bytes := 8) (nog rfl _) rfl (by kernel_rfl) rfl (by kernel_rfl) (by kernel_rfl) (by kernel_rfl) ?_; intro br bs dp dq cA bt
     refine s1 bt 5 (.slice br (l.drop (1 : Int).toNat).length bs) ?_; intro dr cB
     apply bo
     exact j_ (j_ (d_ ⟨⟨l.drop (1 : Int).toNat, n, br, bs, A, B, ab⟩, ⟨bq.1, cA, ad, C⟩, bq.2, (cB.region (by kernel_rfl) (by kernel_rfl)).anyβ _ (by kernel_rfl), u.kp⟩))
    · -- no
     have cC := R.2 ai
     refine rgH ?_; intro cD bu
     refine s1 G 39 (.slice A n.length B) ?_; intro ds bv
     obtain ⟨cE, bw⟩ := cC
     refine slL bv (T := t6) (xs := n) ad (1 : Int) cE (k := .i64) (e := 3) (bytes := 8) (nog rfl _) rfl (by kernel_rfl) rfl (by kernel_rfl) (by kernel_rfl) (by kernel_rfl) ?_; intro bx bz dt du cF bA
     refine s1 bA 6 (.slice bx (n.drop (1 : Int).toNat).length bz) ?_; intro dv cG
     apply bu
     exact j_ (j_ (d_ ⟨⟨l, n.drop (1 : Int).toNat, y, z, bx, bz, ab⟩, ⟨bw.1, ac, cF, C⟩, bw.2, (cG.region (by kernel_rfl) (by kernel_rfl)).anyβ _ (by kernel_rfl), u.kp⟩))
  · -- no
   have cH := P.2 ae
   refine x_ (y_ (y_ (z_ (t_ (sqB E bb [] [] [(4, .bool false)] ?_))))); intro dw cI
   exact r_ (ra1 cI (.bool false) ⟨false, rfl, cH, bb.below⟩)
end Go.Proofs.YtdndfbamhnchfaaGreatDoor
set_option linter.unusedVariables false
set_option linter.unusedSimpArgs false
set_option linter.defProp false
namespace Go.Proofs.YtdndfbamhnchfaaGreatDoor
open Go.Sy Go.RowKit
def sover_fun (u0 : Signal) (u1 : Signal)  (Z : Fz) (w : World)  (hZ : Z.on w) := f_ (sover_walk u0 u1  Z w  hZ (sover_ok u0 u1))
end Go.Proofs.YtdndfbamhnchfaaGreatDoor
set_option linter.unusedVariables false
set_option linter.unusedSimpArgs false
set_option linter.defProp false
set_option maxRecDepth 100000
set_option maxHeartbeats 0
namespace Go.Proofs.YtdndfbamhnchfaaGreatDoor
open Go.Sy Go.RowKit
theorem fsizes_walk   (Z : Fz) (w : World)  (hZ : Z.on w) {K : (List Int) → Prop} (hp : fsizes_vc  K) : Calls Tryz.prog 60 #[] w fun e w' => ∃ (r : (List Int)) (ao1001 : Option Addr) (cap1002 : Nat) (Z' : Fz), e = .returned (.slice ao1001 r.length cap1002) ∧ K r ∧ Mem w.heap.size [] w Z [.own t6 3 ao1001 cap1002 r] Z' w' := by
 refine enter0 Tryz.func60 rfl rfl (by kernel_rfl) ?_; intro n d; have c := Mem.start w Z hZ
 refine sqB d c [] [] [] ?_; intro p f
 refine sqH ?_; intro j g
 refine nw f c (fun b => .slice (sm b) 16 16) [i6 0, i6 1, i6 2, i6 3, i6 4, i6 5, i6 6, i6 7, i6 8, i6 12, i6 16, i6 20, i6 24, i6 32, i6 48, i6 64] 3 ?_; intro a q k h i
 refine s1 h 0 (.slice (sm a) 16 16) ?_; intro s l
 apply g
 apply r_
 have m : Mem w.heap.size [] w Z [.own t6 3 (sm a) 16 ([0, 1, 2, 3, 4, 5, 6, 7, 8, 12, 16, 20, 24, 32, 48, 64] : List Int)] Z k := i.rowOwn (T := t6) (xs := ([0, 1, 2, 3, 4, 5, 6, 7, 8, 12, 16, 20, 24, 32, 48, 64] : List Int)) 0 rfl (by decide) (by show 16 ≤ lim; decide) ((RepAll.one (T := t6) (x := 0) rfl).append ((RepAll.one (T := t6) (x := 1) rfl).append ((RepAll.one (T := t6) (x := 2) rfl).append ((RepAll.one (T := t6) (x := 3) rfl).append ((RepAll.one (T := t6) (x := 4) rfl).append ((RepAll.one (T := t6) (x := 5) rfl).append ((RepAll.one (T := t6) (x := 6) rfl).append ((RepAll.one (T := t6) (x := 7) rfl).append ((RepAll.one (T := t6) (x := 8) rfl).append ((RepAll.one (T := t6) (x := 12) rfl).append ((RepAll.one (T := t6) (x := 16) rfl).append ((RepAll.one (T := t6) (x := 20) rfl).append ((RepAll.one (T := t6) (x := 24) rfl).append ((RepAll.one (T := t6) (x := 32) rfl).append ((RepAll.one (T := t6) (x := 48) rfl).append (RepAll.one (T := t6) (x := 64) rfl))))))))))))))))
 exact ra1 l (.slice (sm a) ([0, 1, 2, 3, 4, 5, 6, 7, 8, 12, 16, 20, 24, 32, 48, 64] : List Int).length 16) ⟨([0, 1, 2, 3, 4, 5, 6, 7, 8, 12, 16, 20, 24, 32, 48, 64] : List Int), (sm a), 16, Z, rfl, hp, m.kp⟩
def fsizes_fun   (Z : Fz) (w : World)  (hZ : Z.on w) := fc_ (fsizes_walk   Z w  hZ (fsizes_ok ))
theorem sindex_walk (u0 : List Int) (u1 : Int) (ao1 : Option Addr) (cap2 : Nat) (Z : Fz) (w : World) (hs3 : SlR t6 Z ao1 cap2 u0) (hZ : Z.on w) {K : Int → Prop} (hp : sindex_vc u0 u1 K) : Calls Tryz.prog 67 #[.slice ao1 u0.length cap2, i6 u1] w fun e w' => ∃ r : Int, e = .returned (i6 r) ∧ K r ∧ Below w.heap.size w w' := by
 refine enter0 Tryz.func67 rfl rfl (by kernel_rfl) ?_; intro a0 m; have g := Mem.start w Z hZ
 have G := hp (hs3.small)
 refine sqB m g [] [] [] ?_; intro a6 n
 refine s_ (sqB n g [] [] [(7, i6 (u0.length : Int)), (8, i6 0)] ?_); intro o p
 apply b_
 have q : Fr 19 [] [⟨0, [], .slice ao1 u0.length cap2⟩, ⟨1, [], i6 u1⟩, ⟨7, [], i6 (u0.length : Int)⟩, ⟨8, [], i6 0⟩] o := p.reg
 obtain ⟨H, I, J, L⟩ := G
 refine lp (ι := Int) (fun s => [⟨0, [], .slice ao1 u0.length cap2⟩, ⟨1, [], i6 u1⟩, ⟨7, [], i6 (u0.length : Int)⟩, ⟨8, [], i6 s⟩]) (fun s => []) (fun s => Z) (fun s => H s) (fun s => I s) 0 J (by exact q.region (by kernel_rfl) (by kernel_rfl)) (by exact g) ?_
 rintro a M N O v x
 have h := L a M
 refine sqB v x [] [] [(9, .bool (decide (a < (u0.length : Int))))] ?_; intro ae c
 apply s_
 refine cd c (t := decide (a < (u0.length : Int))) (by kernel_rfl) (fun j => ?_) (fun j => ?_)
 · -- yes
  have P := h.1 j
  refine k_ (s_ (b_ (sqB c x [] [] [(5, i6 a)] ?_))); intro af z
  refine sqH ?_; intro Q A
  refine bt z x 3 [] [] [(11, i6 u1), (12, .slice ao1 u0.length cap2), (13, i6 a)] ?_; intro ag B
  obtain ⟨R, C⟩ := P
  refine ix_ B hs3 a R .i64 3 8 ?_; intro ah ai S d aj U V W D
  have i := C d U
  obtain rfl : S = ([i6 d] : List Value) := W
  refine z1 D x 15 V 0 (i6 d) rfl ?_; intro ak E
  refine s1 E 16 (.bool (u1 == d)) ?_; intro al f
  apply A
  refine cd f (t := u1 == d) (by kernel_rfl) (fun l => ?_) (fun l => ?_)
  · -- yes
   have X := i.1 l
   refine sqB f x [] [] [(4, i6 a)] ?_; intro am Y
   exact r_ (i_ (h_ (h_ (i_ (h_ (ra1 Y (i6 a) ⟨a, rfl, X, x.below⟩))))))
  · -- no
   have F := i.2 l
   refine l_ (j_ (t_ (rgB f x [] [] [(8, i6 (w64 (a + 1)))] ?_))); intro an aa
   exact d_ ⟨w64 (a + 1), F.1, F.2, (aa.region (by kernel_rfl) (by kernel_rfl)).anyβ _ (by kernel_rfl), x.kp⟩
 · -- no
  have ab := h.2 j
  refine x_ (y_ (y_ (z_ (t_ (sqB c x [] [] [(4, i6 (-1))] ?_))))); intro ao ac
  exact r_ (ra1 ac (i6 (-1)) ⟨-1, rfl, ab, x.below⟩)
theorem scontains_walk (u0 : List Int) (u1 : Int) (ao1 : Option Addr) (cap2 : Nat) (Z : Fz) (w : World) (hs3 : SlR t6 Z ao1 cap2 u0) (hZ : Z.on w) {K : Bool → Prop} (hp : scontains_vc u0 u1 K) : Calls Tryz.prog 29 #[.slice ao1 u0.length cap2, i6 u1] w fun e w' => ∃ r : Bool, e = .returned (.bool r) ∧ K r ∧ Below w.heap.size w w' := by
 refine enter0 Tryz.func29 rfl rfl (by kernel_rfl) ?_; intro n c; have a := Mem.start w Z hZ
 have j := hp (hs3.small)
 refine sqB c a [] [] [] ?_; intro p d
 refine sqH ?_; intro k f
 refine bt d a 2 [] [] [(5, .slice ao1 u0.length cap2), (6, i6 u1)] ?_; intro q g
 refine ck g 67 #[.slice ao1 u0.length cap2, i6 u1] ?_
 refine (sindex_walk u0 u1 ao1 cap2 _ _ hs3 a.fz j).mono ?_; rintro _ s ⟨b, rfl, l, hb⟩; refine ⟨_, rfl, ?_⟩; intro t h; have i := a.call hb
 refine bt h i 2 [] [] [(4, .bool (decide (b ≥ 0)))] ?_; intro u m
 apply f
 exact r_ (ra1 m (.bool (decide (b ≥ 0))) ⟨decide (b ≥ 0), rfl, l, i.below⟩)
end Go.Proofs.YtdndfbamhnchfaaGreatDoor
set_option linter.unusedVariables false
set_option linter.unusedSimpArgs false
set_option linter.defProp false
set_option maxRecDepth 100000
set_option maxHeartbeats 0
namespace Go.Proofs.YtdndfbamhnchfaaGreatDoor
open Go.Sy Go.RowKit
abbrev e46Mb (X : Signal) : List Value := [str X.Name, i6 X.Start, i6 X.Size, .bool X.Back, .bool X.Signed, i6 X.Mul, i6 X.Div, i6 X.Add, i6 X.Key]
abbrev e27Mb (X : Frame) (A0 : Option Addr) (C0 : Nat) : List Value := [i6 X.ID, .bool X.Long, .bool X.Fast, .bool X.Remote, i6 X.Size, .slice A0 X.Data.length C0]
abbrev e24Mb (X : Message) (A0 : Option Addr) (C0 : Nat) : List Value := [i6 X.ID, .bool X.Long, str X.Name, i6 X.Size, i6 X.Chooser, .slice A0 X.Signals.length C0]
def scontains_fun (u0 : List Int) (u1 : Int) (ao1 : Option Addr) (cap2 : Nat) (Z : Fz) (w : World) (hs3 : SlR t6 Z ao1 cap2 u0) (hZ : Z.on w) := f_ (scontains_walk u0 u1 ao1 cap2 Z w hs3 hZ (scontains_ok u0 u1))
theorem fcheckfr_walk (u0 : Frame) (ao1 : Option Addr) (cap2 : Nat) (Z : Fz) (w : World) (hs3 : SlR t8 Z ao1 cap2 u0.Data) (hZ : Z.on w) {K : Int → Prop} (hp : fcheckfr_vc u0 K) : Calls Tryz.prog 22 #[.agg #[i6 u0.ID, .bool u0.Long, .bool u0.Fast, .bool u0.Remote, i6 u0.Size, .slice ao1 u0.Data.length cap2]] w fun e w' => ∃ r : Int, e = .returned (i6 r) ∧ K r ∧ Below w.heap.size w w' := by
 refine enter0 Tryz.func22 rfl rfl (by kernel_rfl) ?_; intro a0 C; have D := Mem.start w Z hZ
 have k := hp (hs3.small)
 refine sqH ?_; intro V E
 refine nw C D pb (e27Mb u0 ao1 cap2) 27 ?_; intro l a7 aq F a
 refine s1 F 2 (i6 0) ?_; intro ar G
 apply E
 refine s_ (b_ (sqB G a [0, 0, 0, 0] [] [(3, .bool (((decide (u0.ID < 0)) || ((!u0.Long) && (decide (u0.ID > 2047)))) || (decide (u0.ID > 536870911))))] ?_)); intro au c
 refine cd c (t := ((decide (u0.ID < 0)) || ((!u0.Long) && (decide (u0.ID > 2047)))) || (decide (u0.ID > 536870911))) (by kernel_rfl) (fun q => ?_) (fun q => ?_)
 · -- yes
  have W := k.1 q
  refine sqB c a [] [] [(2, i6 3)] ?_; intro av X
  exact r_ (i_ (h_ (ra1 X (i6 3) ⟨3, rfl, W, a.below⟩)))
 · -- no
  have m := k.2 q
  refine sqB c a [0, 0, 0] [] [(22, .bool (u0.Remote && (u0.Fast || (decide ((u0.Data.length : Int) > 0)))))] ?_; intro aw d
  refine cd d (t := u0.Remote && (u0.Fast || (decide ((u0.Data.length : Int) > 0)))) (by kernel_rfl) (fun s => ?_) (fun s => ?_)
  · -- yes
   have Y := m.1 s
   refine sqB d a [] [] [(2, i6 4)] ?_; intro ax aa
   exact r_ (i_ (h_ (ra1 aa (i6 4) ⟨4, rfl, Y, a.below⟩)))
  · -- no
   have n := m.2 s
   refine sqB d a [0, 0, 0, 0] [] [(35, .bool (((decide (u0.Size < 0)) || (decide (u0.Size > 8))) || ((!u0.Remote) && (u0.Size != 0))))] ?_; intro ay f
   refine cd f (t := ((decide (u0.Size < 0)) || (decide (u0.Size > 8))) || ((!u0.Remote) && (u0.Size != 0))) (by kernel_rfl) (fun u => ?_) (fun u => ?_)
   · -- yes
    have ab := n.1 u
    refine sqB f a [] [] [(2, i6 3)] ?_; intro az ac
    exact r_ (i_ (h_ (ra1 ac (i6 3) ⟨3, rfl, ab, a.below⟩)))
   · -- no
    have o := n.2 u
    refine sqB f a [0, 0, 0] [] [(54, .bool ((decide ((u0.Data.length : Int) > 64)) || ((!u0.Fast) && (decide ((u0.Data.length : Int) > 8)))))] ?_; intro ad g
    refine cd g (t := (decide ((u0.Data.length : Int) > 64)) || ((!u0.Fast) && (decide ((u0.Data.length : Int) > 8)))) (by kernel_rfl) (fun v => ?_) (fun v => ?_)
    · -- yes
     have ae := o.1 v
     refine sqB g a [] [] [(2, i6 2)] ?_; intro aA af
     exact r_ (i_ (h_ (ra1 af (i6 2) ⟨2, rfl, ae, a.below⟩)))
    · -- no
     have p := o.2 v
     have H : Fr 77 [] [⟨1, [], pt l 0⟩] ad := g.reg
     refine wp_seq (rgS mixed a [(1, true), (2, true), (3, true), (0, false), (4, false), (5, true), (6, true)] [] [0] [.row l (e27Mb u0 ao1 cap2) 27] ?_)
     intro ag I aB x
     have b := Fz.le.refl Z
     refine cS H 3 [0] [] [(74, i6 (u0.Data.length : Int))] ?_; intro aC J
     refine eS rfl ?_; intro ah L
     refine ck J 60 #[] ?_
     refine (fsizes_fun  _ _ x.fz).mono ?_; rintro _ M ⟨N, O, ai, rfl, hm⟩; refine ⟨_, rfl, ?_⟩; intro aD P; have Q := x.callZ hm; have y := hm.ext.le
     replace b := b.mono y
     have R : Mem w.heap.size [] w Z [.own t6 3 N O fsizes, .row l (e27Mb u0 ao1 cap2) 27] ai M := Q
     refine nl (qnI (L _ _ (R.cst b [1]) ?_))
     refine eS rfl ?_; intro aj S
     obtain ⟨ak, z, T, al⟩ := R.freeze 0 rfl
     replace b := b.mono z
     have A : Mem w.heap.size [] w Z [.row l (e27Mb u0 ao1 cap2) 27] ak M := T
     refine fc P A (scontains_fun fsizes (u0.Data.length : Int) N O _ _ al A.fz) ?_; intro aE aF U h
     refine nl (qnI (S _ _ (h.cst b [0]) ?_))
     refine cS U 2 [] [] [(70, .bool (!(scontainsS fsizes (u0.Data.length : Int))))] ?_; intro aG i
     refine nS (I _ _ ?_)
     apply t_
     refine cd i (t := !(scontainsS fsizes (u0.Data.length : Int))) (by kernel_rfl) (fun B => ?_) (fun B => ?_)
     · -- yes
      have am := p.1 B
      refine sqB i h [] [] [(2, i6 4)] ?_; intro aH an
      exact r_ (i_ (h_ (ra1 an (i6 4) ⟨4, rfl, am, h.below⟩)))
     · -- no
      have ao := p.2 B
      refine l_ (j_ (t_ (sqB i h [] [] [(2, i6 0)] ?_))); intro aI ap
      exact r_ (ra1 ap (i6 0) ⟨0, rfl, ao, h.below⟩)
def fcheckfr_fun (u0 : Frame) (ao1 : Option Addr) (cap2 : Nat) (Z : Fz) (w : World) (hs3 : SlR t8 Z ao1 cap2 u0.Data) (hZ : Z.on w) := f_ (fcheckfr_walk u0 ao1 cap2 Z w hs3 hZ (fcheckfr_ok u0))
theorem mthere_walk (u0 : Message) (u1 : Signal) (u2 : List Int) (ao1 : Option Addr) (cap2 : Nat) (ao4 : Option Addr) (cap5 : Nat) (Z : Fz) (w : World) (hs3 : SlR tySignal Z ao1 cap2 u0.Signals) (hs6 : SlR t8 Z ao4 cap5 u2) (hZ : Z.on w) {K : Bool → Prop} (hp : mthere_vc u0 u1 u2 K) : Calls Tryz.prog 23 #[.agg #[i6 u0.ID, .bool u0.Long, str u0.Name, i6 u0.Size, i6 u0.Chooser, .slice ao1 u0.Signals.length cap2], .agg #[str u1.Name, i6 u1.Start, i6 u1.Size, .bool u1.Back, .bool u1.Signed, i6 u1.Mul, i6 u1.Div, i6 u1.Add, i6 u1.Key], .slice ao4 u2.length cap5] w fun e w' => ∃ r : Bool, e = .returned (.bool r) ∧ K r ∧ Below w.heap.size w w' := by
 refine enter0 Tryz.func23 rfl rfl (by kernel_rfl) ?_; intro a0 F; have G := Mem.start w Z hZ
 have j := hp (hs3.small) (hs6.small)
 refine sqH ?_; intro aq I
 refine nw F G pb (e24Mb u0 ao1 cap2) 24 ?_; intro h aK aL J L
 refine nw J L pb (e46Mb u1) 46 ?_; intro f aM aN M l
 refine s1 M 6 (.bool false) ?_; intro A N
 apply I
 have n : Fr 23 [] [⟨2, [], .slice ao4 u2.length cap5⟩, ⟨3, [], pt h 0⟩, ⟨4, [], pt f 0⟩] A := N.reg
 rcases Bool.eq_false_or_eq_true (decide (u1.Key < 0)) with i | i
 · -- true
  have ar := j.1 i
  have O : Fr 23 [] [⟨2, [], .slice ao4 u2.length cap5⟩, ⟨3, [], pt h 0⟩, ⟨4, [], pt f 0⟩] A := n.reg
  refine sqQH mixed (by kernel_rfl) l ?_; intro au P
  refine q1 O 7 (pt f 8) ?_; intro aO B
  refine ql_ B 0 8 (i6 u1.Key) rfl rfl ?_; intro aP Q
  refine q1 Q 9 (.bool (decide (u1.Key < 0))) ?_; intro aQ R
  have S := R.reval (d := 9) (c := []) (v := .bool (decide (u1.Key < 0))) (by kernel_rfl) (.bool true) (by rw [i])
  refine q1 S 10 (.bool true) ?_; intro aR U
  refine qk_ U true ?_; intro aS V
  refine qk_ V true ?_; intro aT W
  refine qk_ W true ?_; intro aU X
  refine qk_ X true ?_; intro aV Y
  refine qk_ Y true ?_; intro aW aa
  refine qk_ aa true ?_; intro aX ab
  refine qk_ ab true ?_; intro aY ac
  refine qk_ ac true ?_; intro aZ ad
  refine qk_ ad true ?_; intro a1 ae
  refine qk_ ae true ?_; intro a2 af
  refine qk_ af true ?_; intro a3 ag
  refine q1 ag 22 (.bool true) ?_; intro a4 ah
  refine q1 ah 6 (.bool true) ?_; intro a5 av
  refine qnl (P _ ?_); intro a6 aw
  exact r_ (ra1 av (.bool true) ⟨true, rfl, ar, aw.below⟩)
 · -- false
  have ax := j.2 i
  have ai : Fr 23 [] [⟨2, [], .slice ao4 u2.length cap5⟩, ⟨3, [], pt h 0⟩, ⟨4, [], pt f 0⟩] A := n.reg
  refine sqQH mixed (by kernel_rfl) l ?_; intro ay aj
  refine q1 ai 7 (pt f 8) ?_; intro a7 C
  refine ql_ C 0 8 (i6 u1.Key) rfl rfl ?_; intro a8 ak
  refine q1 ak 9 (.bool (decide (u1.Key < 0))) ?_; intro a9 al
  have am := al.reval (d := 9) (c := []) (v := .bool (decide (u1.Key < 0))) (by kernel_rfl) (.bool false) (by rw [i])
  refine q1 am 10 (.bool false) ?_; intro ba o
  refine qg_ o false (pt h 5) ?_; intro bb p
  refine qst p (.slice ao1 u0.Signals.length cap2) (wK p false) rfl (by kernel_rfl) (fun v89 hC => ld p hC 1 (g := []) (b := h) (off := 5) (cs := (e24Mb u0 ao1 cap2)) (ty := 24) rfl (by kernel_rfl) (by kernel_rfl) (by kernel_rfl) (by kernel_rfl) rfl) ?_; intro bc q
  refine qg_ q false (pt h 4) ?_; intro bd s
  refine qst s (i6 u0.Chooser) (wK s false) rfl (by kernel_rfl) (fun v95 hC => ld s hC 1 (g := []) (b := h) (off := 4) (cs := (e24Mb u0 ao1 cap2)) (ty := 24) rfl (by kernel_rfl) (by kernel_rfl) (by kernel_rfl) (by kernel_rfl) rfl) ?_; intro be D
  obtain ⟨az, an⟩ := ax
  refine qix D (T := tySignal) (xs := u0.Signals) hs3 u0.Chooser az (k := .i64) (e := 46) (bytes := 72) (wK D false) rfl (by kernel_rfl) rfl (by kernel_rfl) (by kernel_rfl) (by kernel_rfl) ?_; intro bf bg aA a bh aB aC aD t
  have aE := an a aB
  obtain rfl : aA = ((e46Mb a) : List Value) := aD
  refine qst t (.agg (e46Mb a).toArray) (wK t false) rfl (by kernel_rfl) (fun v111 hC => lza t hC.fz aC 0 (g := []) (m := 9) (vs := (e46Mb a)) rfl (by kernel_rfl) (by kernel_rfl) (by kernel_rfl) (by kernel_rfl) rfl) ?_; intro bi u
  refine qg_ u false (.slice ao4 u2.length cap5) ?_; intro bj E
  obtain ⟨aF, aG⟩ := aE
  refine qcl E (i6 (getS a u2)) 25 #[.agg (e46Mb a).toArray, .slice ao4 u2.length cap5] (wK E false) rfl (by kernel_rfl) (fun _ => by kernel_rfl) (qfc fun w hC => sget_fun a u2 aF ao4 cap5 _ _ hs6 hC.fz) ?_; intro bk x
  refine qg_ x false (pt f 8) ?_; intro bl y
  refine qst y (i6 u1.Key) (wK y false) rfl (by kernel_rfl) (fun v125 hC => ld y hC 0 (g := []) (b := f) (off := 8) (cs := (e46Mb u1)) (ty := 46) rfl (by kernel_rfl) (by kernel_rfl) (by kernel_rfl) (by kernel_rfl) rfl) ?_; intro bm z
  refine qg_ z false (.bool ((getS a u2) == u1.Key)) ?_; intro bn ao
  refine q1 ao 22 (.bool ((getS a u2) == u1.Key)) ?_; intro bo ap
  refine q1 ap 6 (.bool ((getS a u2) == u1.Key)) ?_; intro bp aH
  refine qnl (aj _ ?_); intro bq aI
  exact r_ (ra1 aH (.bool ((getS a u2) == u1.Key)) ⟨(getS a u2) == u1.Key, rfl, aG, aI.below⟩)
end Go.Proofs.YtdndfbamhnchfaaGreatDoor
set_option linter.unusedVariables false
set_option linter.unusedSimpArgs false
set_option maxRecDepth 100000
set_option maxHeartbeats 0
namespace Go.Proofs.YtdndfbamhnchfaaGreatDoor
open Go.Sy Go.RowKit
abbrev e46Mc (X : Signal) : List Value := [str X.Name, i6 X.Start, i6 X.Size, .bool X.Back, .bool X.Signed, i6 X.Mul, i6 X.Div, i6 X.Add, i6 X.Key]
abbrev e24Mc (X : Message) (A0 : Option Addr) (C0 : Nat) : List Value := [i6 X.ID, .bool X.Long, str X.Name, i6 X.Size, i6 X.Chooser, .slice A0 X.Signals.length C0]
theorem mcheck_walk (u0 : Message) (ao1 : Option Addr) (cap2 : Nat) (Z : Fz) (w : World) (hs3 : SlR tySignal Z ao1 cap2 u0.Signals) (hZ : Z.on w) {K : Int → Prop} (hp : mcheck_vc u0 K) : Calls Tryz.prog 21 #[.agg #[i6 u0.ID, .bool u0.Long, str u0.Name, i6 u0.Size, i6 u0.Chooser, .slice ao1 u0.Signals.length cap2]] w fun e w' => ∃ r : Int, e = .returned (i6 r) ∧ K r ∧ Below w.heap.size w w' := by
 refine enter0 Tryz.func21 rfl rfl (by kernel_rfl) ?_; intro a0 br; have bs := Mem.start w Z hZ
 have V := hp (hs3.small)
 refine sqH ?_; intro dV bu
 refine nw br bs pb (e24Mc u0 ao1 cap2) 24 ?_; intro i a7 gb bv W
 refine s1 bv 2 (i6 0) ?_; intro gc bw
 apply bu
 refine s_ (sqH ?_); intro dW bx
 refine bt bw W 2 [0] [] [(14, str u0.Name)] ?_; intro ge bz
 refine fc bz W (sname_fun u0.Name _ _ W.fz) ?_; intro gf gg bA D
 refine s1 bA 16 (.bool (!(nameS u0.Name))) ?_; intro gh H
 apply bx
 refine c_ H V (fun _ dX => ?_) fun _ X => ?_
 ·
  refine sqB H D [] [] [(2, i6 1)] ?_; intro gi dY
  exact r_ (h_ (ra1 dY (i6 1) ⟨1, rfl, dX, D.below⟩))
 refine k_ (s_ (sqH ?_)); intro dZ bB
 refine bt H D 5 [0, 0] [] [(21, .agg #[i6 u0.ID, .bool u0.Long, .bool false, .bool false, i6 0, .slice none 0 0])] ?_; intro gj bC
 refine fc bC D (fcheckfr_fun (⟨u0.ID, u0.Long, false, false, 0, []⟩ : Frame) none 0 _ _ (SlR.nil _ _) D.fz) ?_; intro gk gl bD q
 refine s1 bD 3 (i6 (fcheckfr (⟨u0.ID, u0.Long, false, false, 0, []⟩ : Frame))) ?_; intro gm bE
 apply bB
 refine sqB bE q [] [] [(24, .bool ((fcheckfr (⟨u0.ID, u0.Long, false, false, 0, []⟩ : Frame)) != 0))] ?_; intro gn I
 refine c_ I X (fun _ d0 => ?_) fun _ Y => ?_
 ·
  refine sqB I q [] [] [(2, i6 (fcheckfr (⟨u0.ID, u0.Long, false, false, 0, []⟩ : Frame)))] ?_; intro go d1
  exact r_ (h_ (ra1 d1 (i6 (fcheckfr (⟨u0.ID, u0.Long, false, false, 0, []⟩ : Frame))) ⟨(fcheckfr (⟨u0.ID, u0.Long, false, false, 0, []⟩ : Frame)), rfl, d0, q.below⟩))
 refine k_ (s_ (sqB I q [0, 0] [] [(33, .bool ((decide (u0.Size < 0)) || (decide (u0.Size > 8))))] ?_)); intro gp J
 refine c_ J Y (fun _ d2 => ?_) fun _ aa => ?_
 ·
  refine sqB J q [] [] [(2, i6 3)] ?_; intro gq d3
  exact r_ (h_ (ra1 d3 (i6 3) ⟨3, rfl, d2, q.below⟩))
 refine k_ (s_ (sqB J q [0] [] [(37, .bool (decide ((u0.Signals.length : Int) > 16)))] ?_)); intro gr L
 refine c_ L aa (fun _ d4 => ?_) fun _ d6 => ?_
 ·
  refine sqB L q [] [] [(2, i6 2)] ?_; intro gs d5
  exact r_ (h_ (ra1 d5 (i6 2) ⟨2, rfl, d4, q.below⟩))
 refine k_ (s_ (sqB L q [0] [] [(39, .slice ao1 u0.Signals.length cap2), (40, i6 (u0.Signals.length : Int)), (41, i6 0)] ?_)); intro ab bF
 have bG : Fr 152 [] [⟨1, [], pt i 0⟩, ⟨39, [], .slice ao1 u0.Signals.length cap2⟩, ⟨40, [], i6 (u0.Signals.length : Int)⟩, ⟨41, [], i6 0⟩] ab := bF.reg
 obtain ⟨d7, d8, d9⟩ := d6
 refine wp_then_k fun KJ113 hKJ114 => ?_
 have ea : ∀ (_u : Unit), d7 → ∀ a1 w1, Fr 152 [] [⟨1, [], pt i 0⟩] a1 → Mem w.heap.size [] w Z [.row i (e24Mc u0 ao1 cap2) 24] Z w1 → KJ113 a1 w1 := by
  rintro _u eb gt gu bH x
  refine hKJ114 _ _ ?_
  have ac := d9  eb
  refine s_ (sqB bH x [0, 0, 0] [] [(101, .bool ((decide (u0.Chooser < (-1))) || (decide (u0.Chooser ≥ (u0.Signals.length : Int)))))] ?_); intro gv M
  refine c_ M ac (fun _ ec => ?_) fun _ ee => ?_
  ·
   refine sqB M x [] [] [(2, i6 8)] ?_; intro gw ed
   exact r_ (h_ (ra1 ed (i6 8) ⟨8, rfl, ec, x.below⟩))
  refine k_ (s_ (sqB M x [0] [] [(104, .bool (decide (u0.Chooser ≥ 0)))] ?_)); intro bI bJ
  have bK : Fr 152 [] [⟨1, [], pt i 0⟩, ⟨104, [], .bool (decide (u0.Chooser ≥ 0))⟩] bI := bJ.reg
  obtain ⟨ef, ad, eg⟩ := ee
  refine wp_then_k fun KJ164 hKJ165 => ?_
  have bL : ∀ (_u : Unit), ef → ∀ a1 w1, Fr 152 [] [⟨1, [], pt i 0⟩] a1 → Mem w.heap.size [] w Z [.row i (e24Mc u0 ao1 cap2) 24] Z w1 → KJ164 a1 w1 := by
   rintro _u eh gx gy bM ae
   refine hKJ165 _ _ ?_
   have ei := eg  eh
   refine s_ (sqB bM ae [0] [] [(124, .slice ao1 u0.Signals.length cap2), (125, i6 (u0.Signals.length : Int)), (126, i6 0)] ?_); intro af bN
   have bO : Fr 152 [] [⟨1, [], pt i 0⟩, ⟨124, [], .slice ao1 u0.Signals.length cap2⟩, ⟨125, [], i6 (u0.Signals.length : Int)⟩, ⟨126, [], i6 0⟩] af := bN.reg
   obtain ⟨ej, ek, el⟩ := ei
   refine wp_then_k fun KJ187 hKJ188 => ?_
   have em : ∀ (_u : Unit), ej → ∀ a1 w1, Fr 152 [] [] a1 → Mem w.heap.size [] w Z [.row i (e24Mc u0 ao1 cap2) 24] Z w1 → KJ187 a1 w1 := by
    rintro _u en gz gA bP bQ
    refine hKJ188 _ _ ?_
    have eo := el  en
    refine sqB bP bQ [] [] [(2, i6 0)] ?_; intro gB ep
    exact r_ (ra1 ep (i6 0) ⟨0, rfl, eo, bQ.below⟩)
   apply b_
   have bR : Fr 152 [] [⟨1, [], pt i 0⟩, ⟨124, [], .slice ao1 u0.Signals.length cap2⟩, ⟨125, [], i6 (u0.Signals.length : Int)⟩, ⟨126, [], i6 0⟩] af := bO.reg
   obtain ⟨eq, er, es, et⟩ := ek
   refine lp (ι := Int) (fun s => [⟨1, [], pt i 0⟩, ⟨124, [], .slice ao1 u0.Signals.length cap2⟩, ⟨125, [], i6 (u0.Signals.length : Int)⟩, ⟨126, [], i6 s⟩]) (fun s => [.row i (e24Mc u0 ao1 cap2) 24]) (fun s => Z) (fun s => eq s) (fun s => er s) 0 es (by exact bR.reg) (by exact ae) ?_
   rintro u eu ev ew bT bU
   have ag := et u eu
   refine sqB bT bU [] [] [(127, .bool (decide (u < (u0.Signals.length : Int))))] ?_; intro bW ah
   refine s_ (c_ ah ag (fun _ ex => ?_) fun _ e4 => ?_)
   ·
    apply k_
    have bX : Fr 152 [] [⟨1, [], pt i 0⟩, ⟨124, [], .slice ao1 u0.Signals.length cap2⟩, ⟨125, [], i6 (u0.Signals.length : Int)⟩, ⟨126, [], i6 u⟩] bW := ah.reg
    obtain ⟨ey, ez, eA⟩ := ex
    refine wp_seq_k fun KJ223 hKJ224 => ?_
    have bY : ∀ (_u : Unit), ey → ∀ a1 w1, Fr 152 [] [⟨1, [], pt i 0⟩, ⟨124, [], .slice ao1 u0.Signals.length cap2⟩, ⟨125, [], i6 (u0.Signals.length : Int)⟩, ⟨126, [], i6 u⟩] a1 → Mem w.heap.size [] w Z [.row i (e24Mc u0 ao1 cap2) 24] Z w1 → KJ223 a1 w1 := by
     rintro _u eB gC gD bZ b0
     refine hKJ224 _ _ ?_
     have b1 := eA  eB
     refine rgB bZ b0 [] [] [(126, i6 (w64 (u + 1)))] ?_; intro gE eC
     exact d_ ⟨w64 (u + 1), b1.1, b1.2, (eC.reg).anyβ _ (by kernel_rfl), b0.kp⟩
    refine b_ (sqH ?_); intro eD b2
    obtain ⟨eE, b3⟩ := ez
    refine ix_ bX hs3 u eE .i64 46 72 ?_; intro gF gG eF h gH eG eH eI b4
    have ai := b3 h eG
    obtain rfl : eF = ((e46Mc h) : List Value) := eI
    refine z2 b4 bU 129 eH 0 9 (e46Mc h) rfl ?_; intro gI b5
    refine nw b5 bU pb [str [], i6 0, i6 0, .bool false, .bool false, i6 0, i6 0, i6 0, i6 0] 46 ?_; intro y eJ gJ aS b7
    refine sx aS b7 0 (e46Mc h) 0 ?_; intro eK b8
    have aj : Mem w.heap.size [] w Z [.row y (e46Mc h) 46, .row i (e24Mc u0 ao1 cap2) 24] Z eK := b8
    apply b2
    have b9 : Fr 152 [] [⟨1, [], pt i 0⟩, ⟨12, [], pt y 0⟩, ⟨124, [], .slice ao1 u0.Signals.length cap2⟩, ⟨125, [], i6 (u0.Signals.length : Int)⟩, ⟨126, [], i6 u⟩] eJ := aS.reg
    refine sqQH mixed (by kernel_rfl) aj ?_; intro aT F
    refine q1 b9 130 (pt y 8) ?_; intro gK aU
    refine ql_ aU 0 8 (i6 h.Key) rfl rfl ?_; intro gL ca
    refine q1 ca 132 (.bool (decide (h.Key ≥ 0))) ?_; intro gM cb
    refine q1 cb 133 (.bool (decide (h.Key ≥ 0))) ?_; intro gN cc
    have aV := cc.atom ((decide (h.Key ≥ 0)) == true) (by kernel_rfl)
    refine qgd aV (pt i 4) (m := 0) (cj := []) (bj := decide (h.Key ≥ 0)) rfl rfl (by kernel_rfl) rfl (by kernel_rfl) (by kernel_rfl) (by kernel_rfl) (fun hg => qat_ok (fun v275 hC => pu aV (g := [0]) (by kernel_rfl) hg)) ?_; intro gO aW
    refine qgd aW (i6 u0.Chooser) (m := 0) (cj := []) (bj := decide (h.Key ≥ 0)) rfl rfl (by kernel_rfl) rfl (by kernel_rfl) (by kernel_rfl) (by kernel_rfl) (fun hg => qat_ok (fun v278 hC => ld aW hC 1 (g := [0]) (b := i) (off := 4) (cs := (e24Mc u0 ao1 cap2)) (ty := 24) rfl (by kernel_rfl) (by kernel_rfl) (by kernel_rfl) (by kernel_rfl) hg)) ?_; intro gP aX
    refine qgd aX (.bool (decide (u0.Chooser < 0))) (m := 0) (cj := []) (bj := decide (h.Key ≥ 0)) rfl rfl (by kernel_rfl) rfl (by kernel_rfl) (by kernel_rfl) (by kernel_rfl) (fun hg => qat_ok (fun v281 hC => pu aX (g := [0]) (by kernel_rfl) hg)) ?_; intro gQ aY
    refine qgd aY (.bool (decide (u0.Chooser < 0))) (m := 0) (cj := []) (bj := decide (h.Key ≥ 0)) rfl rfl (by kernel_rfl) rfl (by kernel_rfl) (by kernel_rfl) (by kernel_rfl) (fun hg => qat_ok (fun v284 hC => pu aY (g := [0]) (by kernel_rfl) hg)) ?_; intro gR ce
    have aZ := ce.atom ((decide (u0.Chooser < 0)) == false) (by kernel_rfl)
    refine qgd aZ (pt y 8) (m := 1) (cj := [0]) (bj := decide (u0.Chooser < 0)) rfl rfl (by kernel_rfl) rfl (by kernel_rfl) (by kernel_rfl) (by kernel_rfl) (fun hg => qat_ok (fun v288 hC => pu aZ (g := [1, 0]) (by kernel_rfl) hg)) ?_; intro gS a2
    refine qgd a2 (i6 h.Key) (m := 1) (cj := [0]) (bj := decide (u0.Chooser < 0)) rfl rfl (by kernel_rfl) rfl (by kernel_rfl) (by kernel_rfl) (by kernel_rfl) (fun hg => qat_ok (fun v291 hC => ld a2 hC 0 (g := [1, 0]) (b := y) (off := 8) (cs := (e46Mc h)) (ty := 46) rfl (by kernel_rfl) (by kernel_rfl) (by kernel_rfl) (by kernel_rfl) hg)) ?_; intro gT a3
    refine qgd a3 (pt i 5) (m := 1) (cj := [0]) (bj := decide (u0.Chooser < 0)) rfl rfl (by kernel_rfl) rfl (by kernel_rfl) (by kernel_rfl) (by kernel_rfl) (fun hg => qat_ok (fun v294 hC => pu a3 (g := [1, 0]) (by kernel_rfl) hg)) ?_; intro gU a4
    refine qgd a4 (.slice ao1 u0.Signals.length cap2) (m := 1) (cj := [0]) (bj := decide (u0.Chooser < 0)) rfl rfl (by kernel_rfl) rfl (by kernel_rfl) (by kernel_rfl) (by kernel_rfl) (fun hg => qat_ok (fun v297 hC => ld a4 hC 1 (g := [1, 0]) (b := i) (off := 5) (cs := (e24Mc u0 ao1 cap2)) (ty := 24) rfl (by kernel_rfl) (by kernel_rfl) (by kernel_rfl) (by kernel_rfl) hg)) ?_; intro gV a5
    refine qgd a5 (pt i 4) (m := 1) (cj := [0]) (bj := decide (u0.Chooser < 0)) rfl rfl (by kernel_rfl) rfl (by kernel_rfl) (by kernel_rfl) (by kernel_rfl) (fun hg => qat_ok (fun v300 hC => pu a5 (g := [1, 0]) (by kernel_rfl) hg)) ?_; intro gW a6
    refine qgd a6 (i6 u0.Chooser) (m := 1) (cj := [0]) (bj := decide (u0.Chooser < 0)) rfl rfl (by kernel_rfl) rfl (by kernel_rfl) (by kernel_rfl) (by kernel_rfl) (fun hg => qat_ok (fun v303 hC => ld a6 hC 1 (g := [1, 0]) (b := i) (off := 4) (cs := (e24Mc u0 ao1 cap2)) (ty := 24) rfl (by kernel_rfl) (by kernel_rfl) (by kernel_rfl) (by kernel_rfl) hg)) ?_; intro gX ak
    refine e_ ai (fun n al => ?_) fun n e2 => ?_
    ·
     have cf := ak.reval (d := 133) (c := []) (v := .bool (decide (h.Key ≥ 0))) (by kernel_rfl) (.bool true) (by rw [n])
     have cg := cf.setc (d := 134) (c := [0]) (v := pt i 4) (by kernel_rfl) (v' := pt i 4) (by rw [n]; kernel_rfl)
     have ch := cg.setc (d := 135) (c := [0]) (v := i6 u0.Chooser) (by kernel_rfl) (v' := i6 u0.Chooser) (by rw [n]; kernel_rfl)
     have ci := ch.setc (d := 136) (c := [0]) (v := .bool (decide (u0.Chooser < 0))) (by kernel_rfl) (v' := .bool (decide (u0.Chooser < 0))) (by rw [n]; kernel_rfl)
     have am := ci.setc (d := 137) (c := [0]) (v := .bool (decide (u0.Chooser < 0))) (by kernel_rfl) (v' := .bool (decide (u0.Chooser < 0))) (by rw [n]; kernel_rfl)
     refine e_ al (fun o eL => ?_) fun o eO => ?_
     ·
      have ck := am.reval (d := 137) (c := []) (v := .bool (decide (u0.Chooser < 0))) (by kernel_rfl) (.bool true) (by rw [o])
      have cl := ck.setc (d := 138) (c := [1, 0]) (v := pt y 8) (by kernel_rfl) (v' := undef) (by rw [o, n]; kernel_rfl)
      have cm := cl.setc (d := 139) (c := [1, 0]) (v := i6 h.Key) (by kernel_rfl) (v' := undef) (by rw [o, n]; kernel_rfl)
      have cn := cm.setc (d := 140) (c := [1, 0]) (v := pt i 5) (by kernel_rfl) (v' := undef) (by rw [o, n]; kernel_rfl)
      have co := cn.setc (d := 141) (c := [1, 0]) (v := .slice ao1 u0.Signals.length cap2) (by kernel_rfl) (v' := undef) (by rw [o, n]; kernel_rfl)
      have cp := co.setc (d := 142) (c := [1, 0]) (v := pt i 4) (by kernel_rfl) (v' := undef) (by rw [o, n]; kernel_rfl)
      have cq := cp.setc (d := 143) (c := [1, 0]) (v := i6 u0.Chooser) (by kernel_rfl) (v' := undef) (by rw [o, n]; kernel_rfl)
      refine qk_ cq true ?_; intro gY cr
      refine qk_ cr true ?_; intro gZ ct
      refine qk_ ct true ?_; intro g0 cu
      refine qk_ cu true ?_; intro g1 cv
      refine qk_ cv true ?_; intro g2 an
      refine qg_ an true (.bool true) ?_; intro g3 cw
      refine q1 cw 150 (.bool true) ?_; intro eM a8
      refine qnl (F _ ?_); intro g4 cx
      refine cdT a8 (by kernel_rfl) ?_
      have cy : Fr 152 [] [] eM := a8.reg
      refine sqB cy cx [] [] [(2, i6 4)] ?_; intro g5 eN
      exact r_ (i_ (h_ (h_ (i_ (h_ (ra1 eN (i6 4) ⟨4, rfl, eL, cx.below⟩))))))
     have cz := am.reval (d := 137) (c := []) (v := .bool (decide (u0.Chooser < 0))) (by kernel_rfl) (.bool false) (by rw [o])
     have cA := cz.setc (d := 138) (c := [1, 0]) (v := pt y 8) (by kernel_rfl) (v' := pt y 8) (by rw [o, n]; kernel_rfl)
     have cB := cA.setc (d := 139) (c := [1, 0]) (v := i6 h.Key) (by kernel_rfl) (v' := i6 h.Key) (by rw [o, n]; kernel_rfl)
     have cC := cB.setc (d := 140) (c := [1, 0]) (v := pt i 5) (by kernel_rfl) (v' := pt i 5) (by rw [o, n]; kernel_rfl)
     have cD := cC.setc (d := 141) (c := [1, 0]) (v := .slice ao1 u0.Signals.length cap2) (by kernel_rfl) (v' := .slice ao1 u0.Signals.length cap2) (by rw [o, n]; kernel_rfl)
     have cE := cD.setc (d := 142) (c := [1, 0]) (v := pt i 4) (by kernel_rfl) (v' := pt i 4) (by rw [o, n]; kernel_rfl)
     have a9 := cE.setc (d := 143) (c := [1, 0]) (v := i6 u0.Chooser) (by kernel_rfl) (v' := i6 u0.Chooser) (by rw [o, n]; kernel_rfl)
     obtain ⟨eP, cF⟩ := eO
     refine qix a9 (T := tySignal) (xs := u0.Signals) hs3 u0.Chooser eP (k := .i64) (e := 46) (bytes := 72) (wK a9 false) rfl (by kernel_rfl) rfl (by kernel_rfl) (by kernel_rfl) (by kernel_rfl) ?_; intro eQ eR eS p g6 eT eU eV ao
     have eW := cF p eT
     obtain rfl : eS = ((e46Mc p) : List Value) := eV
     refine qg_ ao false (.pointer (some ⟨eQ, eR + 2, none⟩)) ?_; intro g7 ap
     refine qst ap (i6 p.Size) (wK ap false) rfl (by kernel_rfl) (fun v368 hC => lz ap hC.fz eU 2 (g := []) rfl (by kernel_rfl) (by kernel_rfl) (by kernel_rfl) rfl) ?_; intro g8 aq
     obtain ⟨eX, ar⟩ := eW
     refine qst aq (i6 (bShr .i64 h.Key p.Size)) (wK aq false) rfl (by kernel_rfl) (fun v371 hC => shr_run aq (g := []) (k' := .i64) rfl (by kernel_rfl) (by kernel_rfl) eX rfl) ?_; intro g9 au
     refine qg_ au false (.bool ((bShr .i64 h.Key p.Size) != 0)) ?_; intro ha av
     refine qg_ av true (.bool ((bShr .i64 h.Key p.Size) != 0)) ?_; intro hb cG
     refine q1 cG 150 (.bool ((bShr .i64 h.Key p.Size) != 0)) ?_; intro eY aw
     refine qnl (F _ ?_); intro hc ba
     refine c_ aw ar (fun _ eZ => ?_) fun _ e1 => ?_
     ·
      have cH : Fr 152 [] [] eY := aw.reg
      refine sqB cH ba [] [] [(2, i6 4)] ?_; intro hd e0
      exact r_ (i_ (h_ (h_ (i_ (h_ (ra1 e0 (i6 4) ⟨4, rfl, eZ, ba.below⟩))))))
     exact l_ (j_ (d_ (bY () e1 _ _ ((aw.reg).anyβ _ (by kernel_rfl)) (ba.kp))))
    have cI := ak.reval (d := 133) (c := []) (v := .bool (decide (h.Key ≥ 0))) (by kernel_rfl) (.bool false) (by rw [n])
    have cJ := cI.setc (d := 134) (c := [0]) (v := pt i 4) (by kernel_rfl) (v' := undef) (by rw [n]; kernel_rfl)
    have cK := cJ.setc (d := 135) (c := [0]) (v := i6 u0.Chooser) (by kernel_rfl) (v' := undef) (by rw [n]; kernel_rfl)
    have cL := cK.setc (d := 136) (c := [0]) (v := .bool (decide (u0.Chooser < 0))) (by kernel_rfl) (v' := undef) (by rw [n]; kernel_rfl)
    have cM := cL.setc (d := 137) (c := [0]) (v := .bool (decide (u0.Chooser < 0))) (by kernel_rfl) (v' := undef) (by rw [n]; kernel_rfl)
    have cN := cM.setu (d := 138) (c := [1, 0]) (v := pt y 8) (by kernel_rfl) 0 (by kernel_rfl) (by rw [n]; kernel_rfl)
    have cO := cN.setu (d := 139) (c := [1, 0]) (v := i6 h.Key) (by kernel_rfl) 0 (by kernel_rfl) (by rw [n]; kernel_rfl)
    have cP := cO.setu (d := 140) (c := [1, 0]) (v := pt i 5) (by kernel_rfl) 0 (by kernel_rfl) (by rw [n]; kernel_rfl)
    have cQ := cP.setu (d := 141) (c := [1, 0]) (v := .slice ao1 u0.Signals.length cap2) (by kernel_rfl) 0 (by kernel_rfl) (by rw [n]; kernel_rfl)
    have cR := cQ.setu (d := 142) (c := [1, 0]) (v := pt i 4) (by kernel_rfl) 0 (by kernel_rfl) (by rw [n]; kernel_rfl)
    have cS := cR.setu (d := 143) (c := [1, 0]) (v := i6 u0.Chooser) (by kernel_rfl) 0 (by kernel_rfl) (by rw [n]; kernel_rfl)
    refine qsku cS rfl rfl (by kernel_rfl) (by kernel_rfl) rfl (by kernel_rfl) ?_; intro he cT
    refine qsku cT rfl rfl (by kernel_rfl) (by kernel_rfl) rfl (by kernel_rfl) ?_; intro hf cU
    refine qsku cU rfl rfl (by kernel_rfl) (by kernel_rfl) rfl (by kernel_rfl) ?_; intro hh cV
    refine qsku cV rfl rfl (by kernel_rfl) (by kernel_rfl) rfl (by kernel_rfl) ?_; intro hi cW
    refine qsku cW rfl rfl (by kernel_rfl) (by kernel_rfl) rfl (by kernel_rfl) ?_; intro hj cX
    refine qk_ cX false ?_; intro hk cY
    refine q1 cY 150 (.bool false) ?_; intro hl cZ
    refine qnl (F _ ?_); intro hm e3
    refine cdF cZ (by kernel_rfl) ?_
    exact l_ (j_ (d_ (bY () e2 _ _ ((cZ.reg).anyβ _ (by kernel_rfl)) (e3.kp))))
   exact x_ (y_ (y_ (z_ (d_ (em () e4 _ _ ((ah.reg).anyβ _ (by kernel_rfl)) (bU.kp))))))
  refine c_ bK ad (fun _ e5 => ?_) fun _ fi => ?_
  ·
   refine sqH ?_; intro e6 c0
   refine bt bK x 4 [0, 0] [] [(106, .slice ao1 u0.Signals.length cap2), (108, i6 u0.Chooser)] ?_; intro hn c1
   obtain ⟨e7, c2⟩ := e5
   refine ix_ c1 hs3 u0.Chooser e7 .i64 46 72 ?_; intro ho hq e8 j hr e9 fa fb c3
   have ax := c2 j e9
   obtain rfl : e8 = ((e46Mc j) : List Value) := fb
   refine z2 c3 x 110 fa 0 9 (e46Mc j) rfl ?_; intro hs c4
   refine nw c4 x pb [str [], i6 0, i6 0, .bool false, .bool false, i6 0, i6 0, i6 0, i6 0] 46 ?_; intro fd ht hu bd c5
   refine sx bd c5 0 (e46Mc j) 0 ?_; intro fe c6
   have ay : Mem w.heap.size [] w Z [.row fd (e46Mc j) 46, .row i (e24Mc u0 ao1 cap2) 24] Z fe := c6
   apply c0
   refine sqB bd ay [0, 0, 0] [] [(122, .bool ((j.Signed || (decide (j.Key ≥ 0))) || (decide (j.Size > 8))))] ?_; intro hv az
   refine c_ az ax (fun _ ff => ?_) fun _ fh => ?_
   ·
    refine sqB az ay [] [] [(2, i6 4)] ?_; intro hw fg
    exact r_ (h_ (ra1 fg (i6 4) ⟨4, rfl, ff, ay.below⟩))
   exact l_ (d_ (bL () fh _ _ ((az.reg).anyβ _ (by kernel_rfl)) (ay.kp)))
  exact l_ (d_ (bL () fi _ _ ((bK.reg).anyβ _ (by kernel_rfl)) (x.kp)))
 apply b_
 have c7 : Fr 152 [] [⟨1, [], pt i 0⟩, ⟨39, [], .slice ao1 u0.Signals.length cap2⟩, ⟨40, [], i6 (u0.Signals.length : Int)⟩, ⟨41, [], i6 0⟩] ab := bG.reg
 obtain ⟨fj, fk, fl, fm⟩ := d8
 refine lp (ι := Int) (fun s => [⟨1, [], pt i 0⟩, ⟨39, [], .slice ao1 u0.Signals.length cap2⟩, ⟨40, [], i6 (u0.Signals.length : Int)⟩, ⟨41, [], i6 s⟩]) (fun s => [.row i (e24Mc u0 ao1 cap2) 24]) (fun s => Z) (fun s => fj s) (fun s => fk s) 0 fl (by exact c7.reg) (by exact q) ?_
 rintro l fn fo fp c9 da
 have aA := fm l fn
 refine sqB c9 da [] [] [(42, .bool (decide (l < (u0.Signals.length : Int))))] ?_; intro dc aB
 refine s_ (c_ aB aA (fun _ fq => ?_) fun _ f9 => ?_)
 ·
  apply k_
  have dd : Fr 152 [] [⟨1, [], pt i 0⟩, ⟨39, [], .slice ao1 u0.Signals.length cap2⟩, ⟨40, [], i6 (u0.Signals.length : Int)⟩, ⟨41, [], i6 l⟩] dc := aB.reg
  obtain ⟨fr, fs, ft⟩ := fq
  refine wp_seq_k fun KJ515 hKJ516 => ?_
  have fu : ∀ (_u : Unit), fr → ∀ a1 w1, Fr 152 [] [⟨1, [], pt i 0⟩, ⟨39, [], .slice ao1 u0.Signals.length cap2⟩, ⟨40, [], i6 (u0.Signals.length : Int)⟩, ⟨41, [], i6 l⟩] a1 → Mem w.heap.size [] w Z [.row i (e24Mc u0 ao1 cap2) 24] Z w1 → KJ515 a1 w1 := by
   rintro _u fv hx hy de df
   refine hKJ516 _ _ ?_
   have dg := ft  fv
   refine rgB de df [] [] [(41, i6 (w64 (l + 1)))] ?_; intro hz fw
   exact d_ ⟨w64 (l + 1), dg.1, dg.2, (fw.reg).anyβ _ (by kernel_rfl), df.kp⟩
  refine b_ (sqH ?_); intro fx dh
  refine s1 dd 43 (i6 l) ?_; intro hA di
  obtain ⟨fy, dj⟩ := fs
  refine ix_ di hs3 l fy .i64 46 72 ?_; intro hB hD fA a hE fB fC fD dk
  have aC := dj a fB
  obtain rfl : fA = ((e46Mc a) : List Value) := fD
  refine z2 dk da 45 fC 0 9 (e46Mc a) rfl ?_; intro hF dl
  refine nw dl da pb [str [], i6 0, i6 0, .bool false, .bool false, i6 0, i6 0, i6 0, i6 0] 46 ?_; intro z hG hH dm dn
  refine s1 dm 4 (i6 l) ?_; intro hI bh
  refine sx bh dn 0 (e46Mc a) 0 ?_; intro fE dp
  have aD : Mem w.heap.size [] w Z [.row z (e46Mc a) 46, .row i (e24Mc u0 ao1 cap2) 24] Z fE := dp
  apply dh
  refine s_ (sqH ?_); intro fF dq
  refine bt bh aD 3 [0, 1] [] [(46, .agg (e46Mc a).toArray), (48, i6 u0.Size)] ?_; intro hJ dr
  refine fc dr aD (scheck_fun a u0.Size _ _ aD.fz) ?_; intro hK hL ds C
  refine s1 ds 6 (i6 (checkS a u0.Size)) ?_; intro hM dt
  apply dq
  refine sqB dt C [] [] [(51, .bool ((checkS a u0.Size) != 0))] ?_; intro hN O
  refine c_ O aC (fun _ fG => ?_) fun _ fI => ?_
  ·
   refine sqB O C [] [] [(2, i6 (checkS a u0.Size))] ?_; intro hO fH
   exact r_ (h_ (i_ (h_ (h_ (i_ (h_ (ra1 fH (i6 (checkS a u0.Size)) ⟨(checkS a u0.Size), rfl, fG, C.below⟩)))))))
  refine k_ (sqH ?_); intro fJ du
  refine bt O C 3 [1] [] [(54, .slice ao1 u0.Signals.length cap2), (55, i6 l)] ?_; intro hP dv
  obtain ⟨fK, fL⟩ := fI
  refine slH dv (T := tySignal) (xs := u0.Signals) hs3 l fK (k' := .i64) (e := 46) (bytes := 72) (nog rfl _) rfl (by kernel_rfl) rfl (by kernel_rfl) (by kernel_rfl) (by kernel_rfl) ?_; intro P Q hQ hR fM dw
  refine bt dw C 2 [] [] [(57, i6 ((u0.Signals.take l.toNat).length : Int)), (58, i6 0)] ?_; intro dx dy
  apply du
  apply b_
  have dz : Fr 152 [] [⟨1, [], pt i 0⟩, ⟨5, [], pt z 0⟩, ⟨39, [], .slice ao1 u0.Signals.length cap2⟩, ⟨40, [], i6 (u0.Signals.length : Int)⟩, ⟨41, [], i6 l⟩, ⟨56, [], .slice P (u0.Signals.take l.toNat).length Q⟩, ⟨57, [], i6 ((u0.Signals.take l.toNat).length : Int)⟩, ⟨58, [], i6 0⟩] dx := dy.reg
  obtain ⟨fN, fO, fP, fQ⟩ := fL
  refine lp (ι := Int) (fun s => [⟨1, [], pt i 0⟩, ⟨5, [], pt z 0⟩, ⟨39, [], .slice ao1 u0.Signals.length cap2⟩, ⟨40, [], i6 (u0.Signals.length : Int)⟩, ⟨41, [], i6 l⟩, ⟨56, [], .slice P (u0.Signals.take l.toNat).length Q⟩, ⟨57, [], i6 ((u0.Signals.take l.toNat).length : Int)⟩, ⟨58, [], i6 s⟩]) (fun s => [.row z (e46Mc a) 46, .row i (e24Mc u0 ao1 cap2) 24]) (fun s => Z) (fun s => fN s) (fun s => fO s) 0 fP (by exact dz.reg) (by exact C) ?_
  rintro B fR fS fT dB dC
  have aE := fQ B fR
  refine sqB dB dC [] [] [(59, .bool (decide (B < ((u0.Signals.take l.toNat).length : Int))))] ?_; intro hS aF
  refine s_ (c_ aF aE (fun _ fU => ?_) fun _ f8 => ?_)
  ·
   refine k_ (s_ (b_ (sqH ?_))); intro fV dE
   obtain ⟨fW, dF⟩ := fU
   refine ix_ aF fM B fW .i64 46 72 ?_; intro hT hU fX f hV fY fZ f0 dG
   have aG := dF f fY
   obtain rfl : fX = ((e46Mc f) : List Value) := f0
   refine z2 dG dC 61 fZ 0 9 (e46Mc f) rfl ?_; intro hW dH
   refine nw dH dC pb [str [], i6 0, i6 0, .bool false, .bool false, i6 0, i6 0, i6 0, i6 0] 46 ?_; intro dI hX hY bl dJ
   refine sx bl dJ 0 (e46Mc f) 0 ?_; intro f1 dK
   have A : Mem w.heap.size [] w Z [.row dI (e46Mc f) 46, .row z (e46Mc a) 46, .row i (e24Mc u0 ao1 cap2) 24] Z f1 := dK
   apply dE
   refine s_ (sqB bl A [0, 1] [218] [(66, .bool (f.Name == a.Name))] ?_); intro h0 S
   refine c_ S aG (fun _ f2 => ?_) fun _ aH => ?_
   ·
    refine sqB S A [] [] [(2, i6 9)] ?_; intro h1 f3
    exact r_ (h_ (i_ (h_ (h_ (i_ (i_ (h_ (h_ (i_ (h_ (ra1 f3 (i6 9) ⟨9, rfl, f2, A.below⟩)))))))))))
   refine k_ (sqB S A [0, 1, 0, 1] [] [(9, .bool (((decide (f.Key ≥ 0)) && (decide (a.Key ≥ 0))) && (f.Key != a.Key)))] ?_); intro h2 dL
   refine sqH ?_; intro f4 dM
   refine s1 dL 82 (.bool (((decide (f.Key ≥ 0)) && (decide (a.Key ≥ 0))) && (f.Key != a.Key))) ?_; intro h3 dN
   refine s1 dN 83 (.bool (!(((decide (f.Key ≥ 0)) && (decide (a.Key ≥ 0))) && (f.Key != a.Key)))) ?_; intro h4 dO
   refine s1 dO 84 (.bool (!(((decide (f.Key ≥ 0)) && (decide (a.Key ≥ 0))) && (f.Key != a.Key)))) ?_; intro h5 dP
   have bn := dP.atom ((!(((decide (f.Key ≥ 0)) && (decide (a.Key ≥ 0))) && (f.Key != a.Key))) == true) (by kernel_rfl)
   refine gd bn (.agg (e46Mc f).toArray) (m := 0) (cj := []) (bj := !(((decide (f.Key ≥ 0)) && (decide (a.Key ≥ 0))) && (f.Key != a.Key))) rfl rfl (by kernel_rfl) rfl (by kernel_rfl) (by kernel_rfl) (by kernel_rfl) (fun hg => lda bn A 0 (g := [0]) (b := dI) (off := 0) (k := 9) (cs := (e46Mc f)) (vs := (e46Mc f)) (ty := 46) rfl (by kernel_rfl) (by kernel_rfl) (by kernel_rfl) (by kernel_rfl) (by kernel_rfl) hg) ?_; intro h6 bo
   refine gd bo (.agg (e46Mc a).toArray) (m := 0) (cj := []) (bj := !(((decide (f.Key ≥ 0)) && (decide (a.Key ≥ 0))) && (f.Key != a.Key))) rfl rfl (by kernel_rfl) rfl (by kernel_rfl) (by kernel_rfl) (by kernel_rfl) (fun hg => lda bo A 1 (g := [0]) (b := z) (off := 0) (k := 9) (cs := (e46Mc a)) (vs := (e46Mc a)) (ty := 46) rfl (by kernel_rfl) (by kernel_rfl) (by kernel_rfl) (by kernel_rfl) (by kernel_rfl) hg) ?_; intro h7 dQ
   refine gcl dQ A (.bool (overS f a)) 59 #[.agg (e46Mc f).toArray, .agg (e46Mc a).toArray] (m := 0) (cj := []) (bj := !(((decide (f.Key ≥ 0)) && (decide (a.Key ≥ 0))) && (f.Key != a.Key))) rfl rfl (by kernel_rfl) rfl (by kernel_rfl) (by kernel_rfl) (by kernel_rfl) (fun _ => by kernel_rfl) (fun hg => sover_fun f a _ _ A.fz) ?_; intro h8 h9 bp aI
   refine u_ bp (.bool ((!(((decide (f.Key ≥ 0)) && (decide (a.Key ≥ 0))) && (f.Key != a.Key))) && (overS f a))) (pk_and bp (g := []) (m := 0) (b := !(((decide (f.Key ≥ 0)) && (decide (a.Key ≥ 0))) && (f.Key != a.Key))) (v := (overS f a)) rfl (by kernel_rfl) (by kernel_rfl) (by kernel_rfl) rfl) ?_; intro dR U
   apply dM
   refine c_ U aH (fun _ f5 => ?_) fun _ dT => ?_
   ·
    have dS : Fr 152 [] [] dR := U.reg
    refine sqB dS aI [] [] [(2, i6 10)] ?_; intro ia f6
    exact r_ (i_ (h_ (h_ (i_ (i_ (h_ (h_ (i_ (h_ (ra1 f6 (i6 10) ⟨10, rfl, f5, aI.below⟩))))))))))
   refine l_ (j_ (t_ ?_))
   have dU : Fr 152 [] [⟨1, [], pt i 0⟩, ⟨5, [], pt z 0⟩, ⟨39, [], .slice ao1 u0.Signals.length cap2⟩, ⟨40, [], i6 (u0.Signals.length : Int)⟩, ⟨41, [], i6 l⟩, ⟨56, [], .slice P (u0.Signals.take l.toNat).length Q⟩, ⟨57, [], i6 ((u0.Signals.take l.toNat).length : Int)⟩, ⟨58, [], i6 B⟩] dR := U.reg
   refine rgB dU aI [] [] [(58, i6 (w64 (B + 1)))] ?_; intro ib f7
   exact d_ ⟨w64 (B + 1), dT.1, dT.2, (f7.reg).anyβ _ (by kernel_rfl), aI.kp⟩
  exact x_ (y_ (y_ (z_ (j_ (d_ (fu () f8 _ _ ((aF.reg).anyβ _ (by kernel_rfl)) (dC.kp)))))))
 exact x_ (y_ (y_ (z_ (d_ (ea () f9 _ _ ((aB.reg).anyβ _ (by kernel_rfl)) (da.kp))))))
end Go.Proofs.YtdndfbamhnchfaaGreatDoor
set_option linter.unusedVariables false
set_option linter.unusedSimpArgs false
set_option linter.defProp false
set_option maxRecDepth 100000
set_option maxHeartbeats 0
namespace Go.Proofs.YtdndfbamhnchfaaGreatDoor
open Go.Sy Go.RowKit
abbrev e46Md (X : Signal) : List Value := [str X.Name, i6 X.Start, i6 X.Size, .bool X.Back, .bool X.Signed, i6 X.Mul, i6 X.Div, i6 X.Add, i6 X.Key]
abbrev e27Md (X : Frame) (A0 : Option Addr) (C0 : Nat) : List Value := [i6 X.ID, .bool X.Long, .bool X.Fast, .bool X.Remote, i6 X.Size, .slice A0 X.Data.length C0]
abbrev e24Md (X : Message) (A0 : Option Addr) (C0 : Nat) : List Value := [i6 X.ID, .bool X.Long, str X.Name, i6 X.Size, i6 X.Chooser, .slice A0 X.Signals.length C0]
abbrev e37Md (X : Reading) : List Value := [str X.Name, i6 X.Num, i6 X.Den]
def mcheck_fun (u0 : Message) (ao1 : Option Addr) (cap2 : Nat) (Z : Fz) (w : World) (hs3 : SlR tySignal Z ao1 cap2 u0.Signals) (hZ : Z.on w) := f_ (mcheck_walk u0 ao1 cap2 Z w hs3 hZ (mcheck_ok u0))
def mthere_fun (u0 : Message) (u1 : Signal) (u2 : List Int) (hpre : therepre u0 u1 u2) (ao1 : Option Addr) (cap2 : Nat) (ao4 : Option Addr) (cap5 : Nat) (Z : Fz) (w : World) (hs3 : SlR tySignal Z ao1 cap2 u0.Signals) (hs6 : SlR t8 Z ao4 cap5 u2) (hZ : Z.on w) := f_ (mthere_walk u0 u1 u2 ao1 cap2 ao4 cap5 Z w hs3 hs6 hZ (mthere_ok u0 u1 u2 hpre))
theorem mread_walk (u0 : Message) (u1 : Frame) (ao1 : Option Addr) (cap2 : Nat) (ao4 : Option Addr) (cap5 : Nat) (Z : Fz) (w : World) (hs3 : SlR tySignal Z ao1 cap2 u0.Signals) (hs6 : SlR t8 Z ao4 cap5 u1.Data) (hZ : Z.on w) {K : ((List Reading) × Int) → Prop} (hp : mread_vc u0 u1 K) : Calls Tryz.prog 6 #[.agg #[i6 u0.ID, .bool u0.Long, str u0.Name, i6 u0.Size, i6 u0.Chooser, .slice ao1 u0.Signals.length cap2], .agg #[i6 u1.ID, .bool u1.Long, .bool u1.Fast, .bool u1.Remote, i6 u1.Size, .slice ao4 u1.Data.length cap5]] w fun e w' => ∃ (r : (List Reading) × Int) (ao1001 : Option Addr) (cap1002 : Nat) (Z' : Fz), e = .returned (.tuple #[.slice ao1001 r.1.length cap1002, i6 r.2]) ∧ K r ∧ Mem w.heap.size [] w Z [.own tyReading 37 ao1001 cap1002 r.1] Z' w' := by
 refine enter0 Tryz.func6 rfl rfl (by kernel_rfl) ?_; intro a0 ab; have ac := Mem.start w Z hZ
 have z := hp (hs3.small) (hs6.small)
 refine sqH ?_; intro a3 ae
 refine nw ab ac pb (e24Md u0 ao1 cap2) 24 ?_; intro f bW bX af ag
 refine nw af ag pb (e27Md u1 ao4 cap5) 27 ?_; intro d bY bZ ah n
 refine bt ah n 2 [] [] [] ?_; intro b0 ai
 apply ae
 refine s_ (sqH ?_); intro a4 aj
 refine l2 ai n 11 1 0 6 (e24Md u0 ao1 cap2) rfl rfl ?_; intro b1 ak
 refine fc ak n (mcheck_fun u0 ao1 cap2 _ _ hs3 n.fz) ?_; intro b2 a5 al l
 refine s1 al 6 (i6 (mcheckS u0)) ?_; intro b3 am
 apply aj
 refine sqB am l [] [] [(14, .bool ((mcheckS u0) != 0))] ?_; intro b4 o
 refine c_ o z (fun _ a6 => ?_) fun _ A => ?_
 ·
  refine sqB o l [] [] [(4, .slice none 0 0), (5, i6 (mcheckS u0))] ?_; intro b5 a7
  refine r_ (h_ ?_)
  have a8 : Mem w.heap.size [] w Z [.own tyReading 37 none 0 ([] : List Reading), .row d (e27Md u1 ao4 cap5) 27, .row f (e24Md u0 ao1 cap2) 24] Z a5 := l.addNil tyReading 37 (by decide)
  exact ra2 a7 (.tuple #[.slice none ([] : List Reading).length 0, i6 (mcheckS u0)]) ⟨(([] : List Reading), (mcheckS u0)), none, 0, Z, rfl, a6, a8.kp⟩
 refine k_ (s_ (sqH ?_)); intro a9 an
 refine l2 o l 16 0 0 6 (e27Md u1 ao4 cap5) rfl rfl ?_; intro b6 aq
 refine fc aq l (fcheckfr_fun u1 ao4 cap5 _ _ hs6 l.fz) ?_; intro b7 B ar c
 refine s1 ar 7 (i6 (fcheckfr u1)) ?_; intro b8 au
 apply an
 refine sqB au c [] [] [(19, .bool ((fcheckfr u1) != 0))] ?_; intro b9 p
 refine c_ p A (fun _ ba => ?_) fun _ C => ?_
 ·
  refine sqB p c [] [] [(4, .slice none 0 0), (5, i6 (fcheckfr u1))] ?_; intro ca bb
  refine r_ (h_ ?_)
  have bc : Mem w.heap.size [] w Z [.own tyReading 37 none 0 ([] : List Reading), .row d (e27Md u1 ao4 cap5) 27, .row f (e24Md u0 ao1 cap2) 24] Z B := c.addNil tyReading 37 (by decide)
  exact ra2 bb (.tuple #[.slice none ([] : List Reading).length 0, i6 (fcheckfr u1)]) ⟨(([] : List Reading), (fcheckfr u1)), none, 0, Z, rfl, ba, bc.kp⟩
 refine k_ (s_ (sqB p c [0, 1, 0, 1, 0] [] [(36, .bool (((u1.ID != u0.ID) || (u1.Long != u0.Long)) || u1.Remote))] ?_)); intro cb q
 refine c_ q C (fun _ bd => ?_) fun _ D => ?_
 ·
  refine sqB q c [] [] [(4, .slice none 0 0), (5, i6 8)] ?_; intro cc be
  refine r_ (h_ ?_)
  have bf : Mem w.heap.size [] w Z [.own tyReading 37 none 0 ([] : List Reading), .row d (e27Md u1 ao4 cap5) 27, .row f (e24Md u0 ao1 cap2) 24] Z B := c.addNil tyReading 37 (by decide)
  exact ra2 be (.tuple #[.slice none ([] : List Reading).length 0, i6 8]) ⟨(([] : List Reading), 8), none, 0, Z, rfl, bd, bf.kp⟩
 refine k_ (s_ (sqB q c [0, 1] [] [(42, .bool (decide ((u1.Data.length : Int) < u0.Size)))] ?_)); intro ce u
 refine c_ u D (fun _ bg => ?_) fun _ bj => ?_
 ·
  refine sqB u c [] [] [(4, .slice none 0 0), (5, i6 7)] ?_; intro cf bh
  refine r_ (h_ ?_)
  have bi : Mem w.heap.size [] w Z [.own tyReading 37 none 0 ([] : List Reading), .row d (e27Md u1 ao4 cap5) 27, .row f (e24Md u0 ao1 cap2) 24] Z B := c.addNil tyReading 37 (by decide)
  exact ra2 bh (.tuple #[.slice none ([] : List Reading).length 0, i6 7]) ⟨(([] : List Reading), 7), none, 0, Z, rfl, bg, bi.kp⟩
 refine k_ (sqB u c [] [] [(8, .slice none 0 0)] ?_); intro cg av
 refine s_ (sqB av c [1] [] [(44, .slice ao1 u0.Signals.length cap2), (45, i6 (u0.Signals.length : Int)), (46, i6 0)] ?_); intro aw ax
 apply b_
 have ay : Fr 66 [] [⟨2, [], pt f 0⟩, ⟨3, [], pt d 0⟩, ⟨8, [], .slice none 0 0⟩, ⟨44, [], .slice ao1 u0.Signals.length cap2⟩, ⟨45, [], i6 (u0.Signals.length : Int)⟩, ⟨46, [], i6 0⟩] aw := ax.reg
 have az : Mem w.heap.size [] w Z [.own tyReading 37 none 0 ([] : List Reading), .row d (e27Md u1 ao4 cap5) 27, .row f (e24Md u0 ao1 cap2) 24] Z B := c.addNil tyReading 37 (by decide)
 have aA : Fr 66 [] [⟨2, [], pt f 0⟩, ⟨3, [], pt d 0⟩, ⟨8, [], .slice none ([] : List Reading).length 0⟩, ⟨44, [], .slice ao1 u0.Signals.length cap2⟩, ⟨45, [], i6 (u0.Signals.length : Int)⟩, ⟨46, [], i6 0⟩] aw := ay.reg
 obtain ⟨bk, bl, bm, bn⟩ := bj
 refine lp (ι := (List Reading) × Int × (Option Addr) × Nat) (fun s => [⟨2, [], pt f 0⟩, ⟨3, [], pt d 0⟩, ⟨8, [], .slice s.2.2.1 s.1.length s.2.2.2⟩, ⟨44, [], .slice ao1 u0.Signals.length cap2⟩, ⟨45, [], i6 (u0.Signals.length : Int)⟩, ⟨46, [], i6 s.2.1⟩]) (fun s => [.own tyReading 37 s.2.2.1 s.2.2.2 s.1, .row d (e27Md u1 ao4 cap5) 27, .row f (e24Md u0 ao1 cap2) 24]) (fun s => Z) (fun s => bk s.1 s.2.1) (fun s => bl s.1 s.2.1) ⟨([] : List Reading), 0, none, 0⟩ bm (by exact aA.reg) (by exact az) ?_
 rintro ⟨g, h, i, j⟩ bo bp bq aB aC
 have E := bn g h bo
 refine sqB aB aC [] [] [(47, .bool (decide (h < (u0.Signals.length : Int))))] ?_; intro ch v
 refine s_ (c_ v E (fun _ br => ?_) fun _ bT => ?_)
 ·
  refine k_ (s_ (b_ (sqH ?_))); intro bs aE
  obtain ⟨bu, aF⟩ := br
  refine ix_ v hs3 h bu .i64 46 72 ?_; intro ci cj bv a ck bw bx bz aG
  have bA := aF a bw
  obtain rfl : bv = ((e46Md a) : List Value) := bz
  refine z2 aG aC 49 bx 0 9 (e46Md a) rfl ?_; intro cl aH
  refine nw aH aC pb [str [], i6 0, i6 0, .bool false, .bool false, i6 0, i6 0, i6 0, i6 0] 46 ?_; intro F cm cn S aI
  refine sx S aI 0 (e46Md a) 0 ?_; intro bB aJ
  have G : Mem w.heap.size [] w Z [.row F (e46Md a) 46, .own tyReading 37 i j g, .row d (e27Md u1 ao4 cap5) 27, .row f (e24Md u0 ao1 cap2) 24] Z bB := aJ
  apply aE
  refine sqH ?_; intro bC aK
  refine bt S G 4 [3, 0, 2] [] [(50, .agg (e24Md u0 ao1 cap2).toArray), (51, .agg (e46Md a).toArray), (53, .slice ao4 u1.Data.length cap5)] ?_; intro co aL
  obtain ⟨bD, H⟩ := bA
  refine fc aL G (mthere_fun u0 a u1.Data bD ao1 cap2 ao4 cap5 _ _ hs3 hs6 G.fz) ?_; intro bE cp y I
  apply aK
  refine c_ y H (fun _ bF => ?_) fun _ a2 => ?_
  ·
   have aM : Fr 66 [] [⟨2, [], pt f 0⟩, ⟨3, [], pt d 0⟩, ⟨8, [], .slice i g.length j⟩, ⟨10, [], pt F 0⟩, ⟨44, [], .slice ao1 u0.Signals.length cap2⟩, ⟨45, [], i6 (u0.Signals.length : Int)⟩, ⟨46, [], i6 h⟩] bE := y.reg
   refine rgS mixed I [(0, true), (1, true), (2, true), (3, true), (4, true), (5, false), (6, false), (7, false), (8, false), (9, true)] [] [0, 2] [.row F (e46Md a) 46, .row d (e27Md u1 ao4 cap5) 27] ?_
   intro bG aN cq V
   have J := Fz.le.refl Z
   refine cS aM 5 [0, 0, 1] [] [(55, .slice i g.length j), (56, .agg (e46Md a).toArray), (57, .agg (e46Md a).toArray), (59, .slice ao4 u1.Data.length cap5)] ?_; intro cr aO
   refine eS rfl ?_; intro bH aP
   obtain ⟨bI, bJ⟩ := bF
   refine fc aO V (sget_fun a u1.Data bI ao4 cap5 _ _ hs6 V.fz) ?_; intro cs ct aQ L
   refine nl (qnI (aP _ _ (L.cst J [0, 2]) ?_))
   refine eS rfl ?_; intro bK aR
   obtain ⟨bL, bM⟩ := bJ
   refine fc aQ L (smean_fun a (getS a u1.Data) bL _ _ L.fz) ?_; intro cu cv aS W
   refine nl (qnI (aR _ _ (W.cst J [0, 2]) ?_))
   refine eS rfl ?_; intro bN aT
   refine nw aS W (fun b => .slice (sm b) 1 1) (e37Md (meanS a (getS a u1.Data))) 37 ?_; intro aU cw cx aV M
   refine nl (qnI (aT _ _ (M.cst J [1, 3]) ?_))
   refine eS rfl ?_; intro bO aW
   obtain ⟨bP, aX⟩ := bM
   refine ap aV M 2 (T := tyReading) (xs := g) (ys := [(meanS a (getS a u1.Data))]) (ao := i) (cap := j) (ao2 := (sm aU)) (cap2 := 1) (t := 28) (e := 37) (bytes := 32) (nog rfl _) rfl (by kernel_rfl) rfl (by kernel_rfl) (by kernel_rfl) (by kernel_rfl) rfl (Src.row M 0 rfl (RepAll.one (T := tyReading) (x := (meanS a (getS a u1.Data))) rfl)) bP ?_; intro X Y cy bQ cz aY aZ
   have aa : Mem w.heap.size [] w Z [.row aU (e37Md (meanS a (getS a u1.Data))) 37, .row F (e46Md a) 46, .own tyReading 37 X Y (g ++ [(meanS a (getS a u1.Data))]), .row d (e27Md u1 ao4 cap5) 27, .row f (e24Md u0 ao1 cap2) 24] Z bQ := aZ
   refine nl (qnI (aW _ _ (aa.cst J [1, 3]) ?_))
   refine cS aY 1 [] [] [(8, .slice X (g ++ [(meanS a (getS a u1.Data))]).length Y)] ?_; intro cA a1
   refine nS (aN _ _ ?_)
   refine j_ (t_ (rgB a1 aa [] [] [(46, i6 (w64 (h + 1)))] ?_)); intro cB bR
   exact d_ ⟨⟨g ++ [(meanS a (getS a u1.Data))], w64 (h + 1), X, Y⟩, aX.1, aX.2, (bR.reg).anyβ _ (by kernel_rfl), aa.kp⟩
  refine l_ (j_ (t_ (rgB y I [] [] [(46, i6 (w64 (h + 1)))] ?_))); intro cC bS
  exact d_ ⟨⟨g, w64 (h + 1), i, j⟩, a2.1, a2.2, (bS.reg).anyβ _ (by kernel_rfl), I.kp⟩
 refine x_ (y_ (y_ (z_ (t_ (sqB v aC [] [] [(4, .slice i g.length j), (5, i6 0)] ?_))))); intro cD bU
 exact r_ (ra2 bU (.tuple #[.slice i g.length j, i6 0]) ⟨(g, 0), i, j, Z, rfl, bT, aC.kp⟩)
theorem mwrite_walk (u0 : Message) (u1 : List Reading) (ao1 : Option Addr) (cap2 : Nat) (ao4 : Option Addr) (cap5 : Nat) (Z : Fz) (w : World) (hs3 : SlR tySignal Z ao1 cap2 u0.Signals) (hs6 : SlR tyReading Z ao4 cap5 u1) (hZ : Z.on w) {K : (Frame × Int) → Prop} (hp : mwrite_vc u0 u1 K) : Calls Tryz.prog 12 #[.agg #[i6 u0.ID, .bool u0.Long, str u0.Name, i6 u0.Size, i6 u0.Chooser, .slice ao1 u0.Signals.length cap2], .slice ao4 u1.length cap5] w fun e w' => ∃ (r : Frame × Int) (ao1001 : Option Addr) (cap1002 : Nat) (Z' : Fz), e = .returned (.tuple #[.agg #[i6 r.1.ID, .bool r.1.Long, .bool r.1.Fast, .bool r.1.Remote, i6 r.1.Size, .slice ao1001 r.1.Data.length cap1002], i6 r.2]) ∧ K r ∧ SlR t8 Z' ao1001 cap1002 r.1.Data ∧ Mem w.heap.size [] w Z [] Z' w' := by
 refine enter0 Tryz.func12 rfl rfl (by kernel_rfl) ?_; intro a0 ci; have cj := Mem.start w Z hZ
 have aM := hp (hs3.small) (hs6.small)
 refine sqH ?_; intro f0 cm
 refine nw ci cj pb (e24Md u0 ao1 cap2) 24 ?_; intro p iP iQ cn co
 refine nw cn co pb [i6 0, .bool false, .bool false, .bool false, i6 0, .slice none 0 0] 27 ?_; intro n iR iS cp aN
 refine s1 cp 5 (i6 0) ?_; intro iT cq
 apply cm
 refine s_ (sqH ?_); intro f1 cr
 refine l2 cq aN 18 1 0 6 (e24Md u0 ao1 cap2) rfl rfl ?_; intro iU cs
 refine fc cs aN (mcheck_fun u0 ao1 cap2 _ _ hs3 aN.fz) ?_; intro iV iW ct ae
 refine s1 ct 6 (i6 (mcheckS u0)) ?_; intro iX cu
 apply cr
 refine sqB cu ae [] [] [(21, .bool ((mcheckS u0) != 0))] ?_; intro f2 ao
 refine c_ ao aM (fun _ f3 => ?_) fun _ f6 => ?_
 ·
  refine sqH ?_; intro f4 cv
  refine bt ao ae 2 [] [] [(22, .agg #[i6 0, .bool false, .bool false, .bool false, i6 0, .slice none 0 0]), (23, i6 (mcheckS u0))] ?_; intro iY bv
  refine sx bv ae 0 [i6 0, .bool false, .bool false, .bool false, i6 0, .slice none 0 0] 0 ?_; intro f5 cw
  refine s1 bv 5 (i6 (mcheckS u0)) ?_; intro iZ cx
  have cy : Mem w.heap.size [] w Z [.row n [i6 0, .bool false, .bool false, .bool false, i6 0, .slice none 0 0] 27, .row p (e24Md u0 ao1 cap2) 24] Z f5 := cw
  apply cv
  refine r_ (h_ (rt (fn := Tryz.f12) (v := .tuple #[.agg #[i6 0, .bool false, .bool false, .bool false, i6 0, .slice none 0 0], i6 (mcheckS u0)]) cx (re2c cx (fn := Tryz.f12) rfl (ad := ⟨n, 0, none⟩) (by kernel_rfl) (loadVar_run cy 0 (b := n) (k := 6) (vs := [i6 0, .bool false, .bool false, .bool false, i6 0, .slice none 0 0]) (ty := 27) rfl (by kernel_rfl) (by kernel_rfl)) (by kernel_rfl)) ?_))
  exact ⟨((⟨0, false, false, false, 0, []⟩ : Frame), (mcheckS u0)), none, 0, Z, rfl, f3, (SlR.nil _ _), cy.kp⟩
 apply k_
 have cz : Fr 102 [] [⟨1, [], .slice ao4 u1.length cap5⟩, ⟨2, [], pt p 0⟩, ⟨4, [], pt n 0⟩] f2 := ao.reg
 refine wp_seq (rgF mixed ae [0, 1, 2, 3, 4, 5] [6, 7, 9] [8] [1] [.row p (e24Md u0 ao1 cap2) 24] ?_)
 intro f7 cA f8 cB
 have S := Fz.le.refl Z
 refine cS cz 6 [0, 0, 0] [] [(25, i6 u0.ID), (27, .bool u0.Long), (29, i6 u0.Size)] ?_; intro i0 cC
 refine nS ⟨[⟨8, 7, fun b => pt b 0, [i6 0, .bool false, .bool false, .bool false, i6 0, .slice none 0 0], 27⟩], rfl, ?_⟩; intro f9 ga gb
 have cD : Mem w.heap.size [] w Z ((.row n [i6 0, .bool false, .bool false, .bool false, i6 0, .slice none 0 0] 27) :: (.row p (e24Md u0 ao1 cap2) 24) :: (rowsF f9 ++ [])) Z f8 := by rw [gb]; exact cB
 refine eF 2 [1] [] ga cC cD S (fO fN) ?_; intro gc i1 i2 gd cE cF ge cG
 obtain ⟨i3, gf⟩ := f6
 refine mks cE cF (T := t8) u0.Size u0.Size (k := .i64) (k' := .i64) (e := 5) (bytes := 1) (zs := [y8 0]) (z := 0) (by simp only [lim]; omega) (nog rfl _) rfl (by kernel_rfl) rfl (by kernel_rfl) (by kernel_rfl) (by kernel_rfl) (by kernel_rfl) rfl ?_; intro i i4 gg cH cI
 have bw : Mem w.heap.size [] w Z ((.own t8 5 (sm i) u0.Size.toNat (List.replicate u0.Size.toNat (0 : Int))) :: (.row n [i6 0, .bool false, .bool false, .bool false, i6 0, .slice none 0 0] 27) :: (.row p (e24Md u0 ao1 cap2) 24) :: (rowsF gc ++ [])) Z gg := cI
 refine nl (qnI (cG _ _ (fun _ => bw.cst S [2]) ?_))
 refine eF 3 [2] [] gd cH bw S (fO fN) ?_; intro i5 i7 i8 gh cJ bx gi cK
 refine s1 cJ 31 (.agg #[i6 u0.ID, .bool u0.Long, .bool false, .bool false, i6 0, .slice (sm i) (List.replicate u0.Size.toNat (0 : Int)).length u0.Size.toNat]) ?_; intro i9 cL
 refine nl (qnI (cK _ _ (fun _ => bx.cst S [2]) ?_))
 refine tkF 0 3 [2] [] gh cL bx S (fO fN) ?_; intro j ja jb jc cM cN cO
 obtain rfl := nilF cM
 refine eF 4 [3] [] cM cN cO S fN ?_; intro jd je jf cP bz cQ gj cR
 obtain rfl := nilF cP
 refine sx bz cQ 0 [i6 u0.ID, .bool u0.Long, .bool false, .bool false, i6 0, .slice (sm i) (List.replicate u0.Size.toNat (0 : Int)).length u0.Size.toNat] 0 ?_; intro gk cT
 have bA : Mem w.heap.size [] w Z [.row j [i6 u0.ID, .bool u0.Long, .bool false, .bool false, i6 0, .slice (sm i) (List.replicate u0.Size.toNat (0 : Int)).length u0.Size.toNat] 27, .own t8 5 (sm i) u0.Size.toNat (List.replicate u0.Size.toNat (0 : Int)), .row n [i6 0, .bool false, .bool false, .bool false, i6 0, .slice none 0 0] 27, .row p (e24Md u0 ao1 cap2) 24] Z gk := cT
 refine nl (qnI (cR _ _ (fun _ => bA.cst S [3]) ?_))
 refine nF cP (cA _ _ ?_)
 refine t_ (sqH ?_); intro gl cU
 refine mkm bz bA (fun x : List UInt8 => str x) (fun x : Reading => .agg (e37Md x).toArray) (t := 63) (nog rfl _) rfl (by kernel_rfl) rfl ?_; intro l jg gm cV cW
 have cX : Mem w.heap.size [] w Z [.map (fun x : List UInt8 => str x) (fun x : Reading => .agg (e37Md x).toArray) l ([] : List (List UInt8 × Reading)), .row j [i6 u0.ID, .bool u0.Long, .bool false, .bool false, i6 0, .slice (sm i) (List.replicate u0.Size.toNat (0 : Int)).length u0.Size.toNat] 27, .own t8 5 (sm i) u0.Size.toNat (List.replicate u0.Size.toNat (0 : Int)), .row n [i6 0, .bool false, .bool false, .bool false, i6 0, .slice none 0 0] 27, .row p (e24Md u0 ao1 cap2) 24] Z gm := cW
 refine nw cV cX pb [.map none] 63 ?_; intro o jh ji bB cY
 refine sx bB cY 0 [.map (some l)] 0 ?_; intro gn cZ
 have aO : Mem w.heap.size [] w Z [.row o [.map (some l)] 63, .map (fun x : List UInt8 => str x) (fun x : Reading => .agg (e37Md x).toArray) l ([] : List (List UInt8 × Reading)), .row j [i6 u0.ID, .bool u0.Long, .bool false, .bool false, i6 0, .slice (sm i) (List.replicate u0.Size.toNat (0 : Int)).length u0.Size.toNat] 27, .own t8 5 (sm i) u0.Size.toNat (List.replicate u0.Size.toNat (0 : Int)), .row n [i6 0, .bool false, .bool false, .bool false, i6 0, .slice none 0 0] 27, .row p (e24Md u0 ao1 cap2) 24] Z gn := cZ
 apply cU
 refine s_ (sqB bB aO [] [] [(33, .slice ao4 u1.length cap5), (34, i6 (u1.length : Int)), (35, i6 0)] ?_); intro aP c0
 have c1 : Fr 102 [] [⟨2, [], pt p 0⟩, ⟨4, [], pt n 0⟩, ⟨7, [], pt j 0⟩, ⟨8, [], pt o 0⟩, ⟨33, [], .slice ao4 u1.length cap5⟩, ⟨34, [], i6 (u1.length : Int)⟩, ⟨35, [], i6 0⟩] aP := c0.reg
 obtain ⟨go, gp, gq⟩ := gf
 refine wp_then_k fun KJ138 hKJ139 => ?_
 have gr : ∀ (h : List (List UInt8 × Reading)), go h → ∀ a1 w1, Fr 102 [] [⟨2, [], pt p 0⟩, ⟨4, [], pt n 0⟩, ⟨7, [], pt j 0⟩, ⟨8, [], pt o 0⟩] a1 → Mem w.heap.size [] w Z [.row o [.map (some l)] 63, .map (fun x : List UInt8 => str x) (fun x : Reading => .agg (e37Md x).toArray) l h, .row j [i6 u0.ID, .bool u0.Long, .bool false, .bool false, i6 0, .slice (sm i) (List.replicate u0.Size.toNat (0 : Int)).length u0.Size.toNat] 27, .own t8 5 (sm i) u0.Size.toNat (List.replicate u0.Size.toNat (0 : Int)), .row n [i6 0, .bool false, .bool false, .bool false, i6 0, .slice none 0 0] 27, .row p (e24Md u0 ao1 cap2) 24] Z w1 → KJ138 a1 w1 := by
  rintro h gs jj jk c2 O
  refine hKJ139 _ _ ?_
  have gt := gq h gs
  refine sqB c2 O [] [] [(13, .func (.func 35) #[] #[pt o 0, pt j 0])] ?_; intro jl c3
  refine s_ (sqB c3 O [5] [] [(56, .bool (decide (u0.Chooser ≥ 0)))] ?_); intro c4 c5
  have c6 : Fr 102 [] [⟨2, [], pt p 0⟩, ⟨4, [], pt n 0⟩, ⟨7, [], pt j 0⟩, ⟨8, [], pt o 0⟩, ⟨13, [], .func (.func 35) #[] #[pt o 0, pt j 0]⟩, ⟨56, [], .bool (decide (u0.Chooser ≥ 0))⟩] c4 := c5.reg
  obtain ⟨gu, aQ, gv⟩ := gt
  refine wp_then_k fun KJ164 hKJ165 => ?_
  have c7 : ∀ (y : List (List UInt8 × Reading)) (af : List Int) (U : Fz), gu y af ∧ Fz.le Z U → ∀ a1 w1, Fr 102 [] [⟨2, [], pt p 0⟩, ⟨4, [], pt n 0⟩, ⟨7, [], pt j 0⟩, ⟨8, [], pt o 0⟩, ⟨13, [], .func (.func 35) #[] #[pt o 0, pt j 0]⟩] a1 → Mem w.heap.size [] w Z [.row o [.map (some l)] 63, .map (fun x : List UInt8 => str x) (fun x : Reading => .agg (e37Md x).toArray) l y, .row j [i6 u0.ID, .bool u0.Long, .bool false, .bool false, i6 0, .slice (sm i) af.length u0.Size.toNat] 27, .own t8 5 (sm i) u0.Size.toNat af, .row n [i6 0, .bool false, .bool false, .bool false, i6 0, .slice none 0 0] 27, .row p (e24Md u0 ao1 cap2) 24] U w1 → KJ164 a1 w1 := by
   rintro y af U ⟨gw, aq⟩ jm jn c8 aR
   refine hKJ165 _ _ ?_
   have gx := gv y af gw
   have c9 := hs3.mono aq
   refine s_ (sqB c8 aR [5] [] [(70, .slice ao1 u0.Signals.length cap2), (71, i6 (u0.Signals.length : Int)), (72, i6 0)] ?_); intro aS db
   have dc : Fr 102 [] [⟨2, [], pt p 0⟩, ⟨4, [], pt n 0⟩, ⟨7, [], pt j 0⟩, ⟨8, [], pt o 0⟩, ⟨13, [], .func (.func 35) #[] #[pt o 0, pt j 0]⟩, ⟨70, [], .slice ao1 u0.Signals.length cap2⟩, ⟨71, [], i6 (u0.Signals.length : Int)⟩, ⟨72, [], i6 0⟩] aS := db.reg
   obtain ⟨gy, gz, gA⟩ := gx
   refine wp_then_k fun KJ189 hKJ190 => ?_
   have gB : ∀ (I : List (List UInt8 × Reading)) (A : List Int) (ag : Fz), gy I A ∧ Fz.le U ag → ∀ a1 w1, Fr 102 [] [⟨4, [], pt n 0⟩, ⟨7, [], pt j 0⟩, ⟨8, [], pt o 0⟩] a1 → Mem w.heap.size [] w Z [.row o [.map (some l)] 63, .map (fun x : List UInt8 => str x) (fun x : Reading => .agg (e37Md x).toArray) l I, .row j [i6 u0.ID, .bool u0.Long, .bool false, .bool false, i6 0, .slice (sm i) A.length u0.Size.toNat] 27, .own t8 5 (sm i) u0.Size.toNat A, .row n [i6 0, .bool false, .bool false, .bool false, i6 0, .slice none 0 0] 27, .row p (e24Md u0 ao1 cap2) 24] ag w1 → KJ189 a1 w1 := by
    rintro I A ag ⟨gC, ah⟩ jo jp dd V
    refine hKJ190 _ _ ?_
    have aT := gA I A gC
    refine s_ (sqH ?_); intro gD dh
    refine l1 dd V 97 0 0 (.map (some l)) rfl rfl ?_; intro jq di
    refine mln di V 1 (t := 63) (kt := 9) (et := 37) (nog rfl _) rfl (by kernel_rfl) rfl (by kernel_rfl) rfl (by kernel_rfl) ?_; intro jr dj
    refine s1 dj 99 (.bool (decide ((I.length : Int) > 0))) ?_; intro js ar
    apply dh
    refine c_ ar aT (fun _ gE => ?_) fun _ gH => ?_
    ·
     refine sqH ?_; intro gF dk
     refine s1 ar 100 (.agg #[i6 0, .bool false, .bool false, .bool false, i6 0, .slice none 0 0]) ?_; intro jt bF
     refine sx bF V 4 [i6 0, .bool false, .bool false, .bool false, i6 0, .slice none 0 0] 0 ?_; intro gG dl
     refine s1 bF 5 (i6 8) ?_; intro ju dm
     have dn : Mem w.heap.size [] w Z [.row o [.map (some l)] 63, .map (fun x : List UInt8 => str x) (fun x : Reading => .agg (e37Md x).toArray) l I, .row j [i6 u0.ID, .bool u0.Long, .bool false, .bool false, i6 0, .slice (sm i) A.length u0.Size.toNat] 27, .own t8 5 (sm i) u0.Size.toNat A, .row n [i6 0, .bool false, .bool false, .bool false, i6 0, .slice none 0 0] 27, .row p (e24Md u0 ao1 cap2) 24] ag gG := dl
     apply dk
     refine r_ (h_ (rt (fn := Tryz.f12) (v := .tuple #[.agg #[i6 0, .bool false, .bool false, .bool false, i6 0, .slice none 0 0], i6 8]) dm (re2c dm (fn := Tryz.f12) rfl (ad := ⟨n, 0, none⟩) (by kernel_rfl) (loadVar_run dn 4 (b := n) (k := 6) (vs := [i6 0, .bool false, .bool false, .bool false, i6 0, .slice none 0 0]) (ty := 27) rfl (by kernel_rfl) (by kernel_rfl)) (by kernel_rfl)) ?_))
     exact ⟨((⟨0, false, false, false, 0, []⟩ : Frame), 8), none, 0, ag, rfl, gE, (SlR.nil _ _), dn.kp⟩
    refine k_ (sqH ?_); intro gI dp
    refine l2 ar V 101 2 0 6 [i6 u0.ID, .bool u0.Long, .bool false, .bool false, i6 0, .slice (sm i) A.length u0.Size.toNat] rfl rfl ?_; intro jv bG
    refine sx bG V 4 [i6 u0.ID, .bool u0.Long, .bool false, .bool false, i6 0, .slice (sm i) A.length u0.Size.toNat] 0 ?_; intro dq dr
    refine s1 bG 5 (i6 0) ?_; intro jw ds
    have gJ : Mem w.heap.size [] w Z [.row o [.map (some l)] 63, .map (fun x : List UInt8 => str x) (fun x : Reading => .agg (e37Md x).toArray) l I, .row j [i6 u0.ID, .bool u0.Long, .bool false, .bool false, i6 0, .slice (sm i) A.length u0.Size.toNat] 27, .own t8 5 (sm i) u0.Size.toNat A, .row n [i6 u0.ID, .bool u0.Long, .bool false, .bool false, i6 0, .slice (sm i) A.length u0.Size.toNat] 27, .row p (e24Md u0 ao1 cap2) 24] ag dq := dr
    apply dp
    apply r_
    obtain ⟨dt, au, du, gK⟩ := gJ.freeze 3 rfl
    have dv : Mem w.heap.size [] w Z [.row o [.map (some l)] 63, .map (fun x : List UInt8 => str x) (fun x : Reading => .agg (e37Md x).toArray) l I, .row j [i6 u0.ID, .bool u0.Long, .bool false, .bool false, i6 0, .slice (sm i) A.length u0.Size.toNat] 27, .row n [i6 u0.ID, .bool u0.Long, .bool false, .bool false, i6 0, .slice (sm i) A.length u0.Size.toNat] 27, .row p (e24Md u0 ao1 cap2) 24] dt dq := du
    refine rt (fn := Tryz.f12) (v := .tuple #[.agg #[i6 u0.ID, .bool u0.Long, .bool false, .bool false, i6 0, .slice (sm i) A.length u0.Size.toNat], i6 0]) ds (re2c ds (fn := Tryz.f12) rfl (ad := ⟨n, 0, none⟩) (by kernel_rfl) (loadVar_run dv 3 (b := n) (k := 6) (vs := [i6 u0.ID, .bool u0.Long, .bool false, .bool false, i6 0, .slice (sm i) A.length u0.Size.toNat]) (ty := 27) rfl (by kernel_rfl) (by kernel_rfl)) (by kernel_rfl)) ?_
    exact ⟨((⟨u0.ID, u0.Long, false, false, 0, A⟩ : Frame), 0), (sm i), u0.Size.toNat, dt, rfl, gH, gK, dv.kp⟩
   have gL := Fz.le.refl U
   apply b_
   have dw : Fr 102 [] [⟨2, [], pt p 0⟩, ⟨4, [], pt n 0⟩, ⟨7, [], pt j 0⟩, ⟨8, [], pt o 0⟩, ⟨13, [], .func (.func 35) #[] #[pt o 0, pt j 0]⟩, ⟨70, [], .slice ao1 u0.Signals.length cap2⟩, ⟨71, [], i6 (u0.Signals.length : Int)⟩, ⟨72, [], i6 0⟩] aS := dc.reg
   obtain ⟨gM, gN, gO, gP⟩ := gz
   refine lp (ι := Int × (List (List UInt8 × Reading)) × (List Int) × Fz) (fun s => [⟨2, [], pt p 0⟩, ⟨4, [], pt n 0⟩, ⟨7, [], pt j 0⟩, ⟨8, [], pt o 0⟩, ⟨13, [], .func (.func 35) #[] #[pt o 0, pt j 0]⟩, ⟨70, [], .slice ao1 u0.Signals.length cap2⟩, ⟨71, [], i6 (u0.Signals.length : Int)⟩, ⟨72, [], i6 s.1⟩]) (fun s => [.row o [.map (some l)] 63, .map (fun x : List UInt8 => str x) (fun x : Reading => .agg (e37Md x).toArray) l s.2.1, .row j [i6 u0.ID, .bool u0.Long, .bool false, .bool false, i6 0, .slice (sm i) s.2.2.1.length u0.Size.toNat] 27, .own t8 5 (sm i) u0.Size.toNat s.2.2.1, .row n [i6 0, .bool false, .bool false, .bool false, i6 0, .slice none 0 0] 27, .row p (e24Md u0 ao1 cap2) 24]) (fun s => s.2.2.2) (fun s => gM s.1 s.2.1 s.2.2.1 ∧ Fz.le U s.2.2.2) (fun s => gN s.1 s.2.1 s.2.2.1) ⟨0, y, af, U⟩ ⟨gO, Fz.le.refl _⟩ (by exact dw.reg) (by exact aR) ?_
   rintro ⟨C, g, u, D⟩ ⟨gQ, J⟩ gR gS dy dz
   have aU := gP C g u gQ
   have aj := c9.mono J
   have av := gL.mono J
   refine sqB dy dz [] [] [(73, .bool (decide (C < (u0.Signals.length : Int))))] ?_; intro dB aX
   refine s_ (c_ aX aU (fun _ gT => ?_) fun _ hM => ?_)
   ·
    apply k_
    have dC : Fr 102 [] [⟨2, [], pt p 0⟩, ⟨4, [], pt n 0⟩, ⟨7, [], pt j 0⟩, ⟨8, [], pt o 0⟩, ⟨13, [], .func (.func 35) #[] #[pt o 0, pt j 0]⟩, ⟨70, [], .slice ao1 u0.Signals.length cap2⟩, ⟨71, [], i6 (u0.Signals.length : Int)⟩, ⟨72, [], i6 C⟩] dB := aX.reg
    obtain ⟨gU, gV, gW⟩ := gT
    refine wp_seq_k fun KJ261 hKJ262 => ?_
    have bJ : ∀ (aw : List (List UInt8 × Reading)) (ak : List Int) (aY : Fz), gU aw ak ∧ Fz.le D aY → ∀ a1 w1, Fr 102 [] [⟨2, [], pt p 0⟩, ⟨4, [], pt n 0⟩, ⟨7, [], pt j 0⟩, ⟨8, [], pt o 0⟩, ⟨13, [], .func (.func 35) #[] #[pt o 0, pt j 0]⟩, ⟨70, [], .slice ao1 u0.Signals.length cap2⟩, ⟨71, [], i6 (u0.Signals.length : Int)⟩, ⟨72, [], i6 C⟩] a1 → Mem w.heap.size [] w Z [.row o [.map (some l)] 63, .map (fun x : List UInt8 => str x) (fun x : Reading => .agg (e37Md x).toArray) l aw, .row j [i6 u0.ID, .bool u0.Long, .bool false, .bool false, i6 0, .slice (sm i) ak.length u0.Size.toNat] 27, .own t8 5 (sm i) u0.Size.toNat ak, .row n [i6 0, .bool false, .bool false, .bool false, i6 0, .slice none 0 0] 27, .row p (e24Md u0 ao1 cap2) 24] aY w1 → KJ261 a1 w1 := by
     rintro aw ak aY ⟨gX, al⟩ jy jz dD dE
     refine hKJ262 _ _ ?_
     have dF := gW aw ak gX
     have gY := J.mono al
     refine rgB dD dE [] [] [(72, i6 (w64 (C + 1)))] ?_; intro jE gZ
     exact d_ ⟨⟨w64 (C + 1), aw, ak, aY⟩, ⟨dF.1, gY⟩, dF.2, (gZ.reg).anyβ _ (by kernel_rfl), dE.kp⟩
    have ax := Fz.le.refl D
    refine b_ (sqH ?_); intro g0 dG
    refine s1 dC 74 (i6 C) ?_; intro jF dH
    obtain ⟨g1, dI⟩ := gV
    refine ix_ dH aj C g1 .i64 46 72 ?_; intro g2 g3 g4 a jG g5 aZ g6 dJ
    have a2 := dI a g5
    obtain rfl : g4 = ((e46Md a) : List Value) := g6
    refine z2 dJ dz 76 aZ 0 9 (e46Md a) rfl ?_; intro jH dK
    refine nw dK dz pb [str [], i6 0, i6 0, .bool false, .bool false, i6 0, i6 0, i6 0, i6 0] 46 ?_; intro H jI jJ dL dM
    refine s1 dL 15 (i6 C) ?_; intro jK bK
    refine sx bK dM 0 (e46Md a) 0 ?_; intro g7 dN
    have W : Mem w.heap.size [] w Z [.row H (e46Md a) 46, .row o [.map (some l)] 63, .map (fun x : List UInt8 => str x) (fun x : Reading => .agg (e37Md x).toArray) l g, .row j [i6 u0.ID, .bool u0.Long, .bool false, .bool false, i6 0, .slice (sm i) u.length u0.Size.toNat] 27, .own t8 5 (sm i) u0.Size.toNat u, .row n [i6 0, .bool false, .bool false, .bool false, i6 0, .slice none 0 0] 27, .row p (e24Md u0 ao1 cap2) 24] D g7 := dN
    apply dG
    refine s_ (sqH ?_); intro dO a3
    refine bt bK W 5 [6] [] [(81, .bool (C == u0.Chooser))] ?_; intro jL a4
    refine e_ a2 (fun ay g8 => ?_) fun ay g9 => ?_
    ·
     have dP := a4.reval (d := 81) (c := []) (v := .bool (C == u0.Chooser)) (by kernel_rfl) (.bool true) (by rw [ay])
     refine bt dP W 7 [] [82, 83, 84, 85, 86, 87, 88] [(88, .bool true)] ?_; intro jM dQ
     apply a3
     refine cdT dQ (by kernel_rfl) ?_
     exact x_ (y_ (z_ (d_ (bJ g u D ⟨g8, ax⟩ _ _ ((dQ.reg).anyβ _ (by kernel_rfl)) (W.kp)))))
    have dR := a4.reval (d := 81) (c := []) (v := .bool (C == u0.Chooser)) (by kernel_rfl) (.bool false) (by rw [ay])
    refine bt dR W 4 [6, 0, 3] [82, 83, 84, 85] [(82, .agg (e24Md u0 ao1 cap2).toArray), (83, .agg (e46Md a).toArray), (85, .slice (sm i) u.length u0.Size.toNat)] ?_; intro jN bL
    obtain ⟨ha, a5⟩ := g9
    refine fcl bL W (.bool (mthereS u0 a u)) 23 #[.agg (e24Md u0 ao1 cap2).toArray, .agg (e46Md a).toArray, .slice (sm i) u.length u0.Size.toNat] (wK bL false) rfl (by kernel_rfl) (fun _ => by kernel_rfl) ((by obtain ⟨Z9, hb, hc, hd⟩ := W.lend 4 rfl; exact mthere_fun u0 a u ha ao1 cap2 (sm i) u0.Size.toNat _ _ (SlR.mono aj hb) hd hc)) ?_; intro jO jP dS az
    refine bt dS az 2 [] [87, 88] [(88, .bool (!(mthereS u0 a u)))] ?_; intro jQ a6
    apply a3
    refine c_ a6 a5 (fun _ he => ?_) fun _ a7 => ?_
    ·
     exact x_ (y_ (z_ (d_ (bJ g u D ⟨he, ax⟩ _ _ ((a6.reg).anyβ _ (by kernel_rfl)) (az.kp)))))
    refine k_ (sqH ?_); intro dT a8
    refine bt a6 az 2 [0] [] [(89, .func (.func 35) #[] #[pt o 0, pt j 0]), (90, .agg (e46Md a).toArray)] ?_; intro jR bN
    refine ck bN 35 #[.agg (e46Md a).toArray, pt o 0, pt j 0] ?_
    refine enter0 Tryz.func35 rfl rfl (by kernel_rfl) ?_; intro jS dU
    refine sqH ?_; intro hf dV
    refine nw dU az pb (e46Md a) 46 ?_; intro E jT jU dW aA
    refine s1 dW 4 (i6 0) ?_; intro hg dX
    apply dV
    have dY : Fr 38 [] [⟨1, [], pt o 0⟩, ⟨2, [], pt j 0⟩, ⟨3, [], pt E 0⟩] hg := dX.reg
    refine sqH ?_; intro hh dZ
    refine bt dY aA 3 [2, 0] [] [(10, .map (some l)), (12, str a.Name)] ?_; intro jV d0
    refine lkO d0 aA 3 (m := g) a.Name ((⟨[], 0, 0⟩ : Reading) : Reading) (t := 63) (kt := 9) (et := 37) (nog rfl _) rfl (by kernel_rfl) rfl (by kernel_rfl) (by kernel_rfl) rfl (MKey.str (by kernel_rfl)) (by kernel_rfl) (by kernel_rfl) ?_; intro jW d1
    refine bt d1 aA 3 [] [] [(14, .agg (e37Md ((mget g a.Name).getD ((⟨[], 0, 0⟩ : Reading) : Reading))).toArray), (15, .bool (mget g a.Name).isSome)] ?_; intro jX d2
    refine nw d2 aA pb [str [], i6 0, i6 0] 37 ?_; intro L jY jZ bO d3
    refine sx bO d3 0 (e37Md ((mget g a.Name).getD ((⟨[], 0, 0⟩ : Reading) : Reading))) 0 ?_; intro d4 d5
    refine s1 bO 6 (.bool (mget g a.Name).isSome) ?_; intro j0 d6
    have X : Mem w.heap.size [] w Z [.row L (e37Md ((mget g a.Name).getD ((⟨[], 0, 0⟩ : Reading) : Reading))) 37, .row E (e46Md a) 46, .row H (e46Md a) 46, .row o [.map (some l)] 63, .map (fun x : List UInt8 => str x) (fun x : Reading => .agg (e37Md x).toArray) l g, .row j [i6 u0.ID, .bool u0.Long, .bool false, .bool false, i6 0, .slice (sm i) u.length u0.Size.toNat] 27, .own t8 5 (sm i) u0.Size.toNat u, .row n [i6 0, .bool false, .bool false, .bool false, i6 0, .slice none 0 0] 27, .row p (e24Md u0 ao1 cap2) 24] D d4 := d5
    apply dZ
    refine s_ (sqB d6 X [] [] [(17, .bool (!(mget g a.Name).isSome))] ?_); intro j1 aB
    refine c_ aB a7 (fun _ hi => ?_) fun _ hl => ?_
    ·
     refine sqB aB X [] [] [(4, i6 14)] ?_; intro j2 d7
     refine r_ (h_ (ra1 d7 (i6 14) ?_))
     refine ⟨_, rfl, ?_⟩; intro j3 d8
     refine s1 d8 17 (i6 14) ?_; intro j4 d9
     have a9 : Mem w.heap.size [] w Z [.row L (e37Md ((mget g a.Name).getD ((⟨[], 0, 0⟩ : Reading) : Reading))) 37, .row E (e46Md a) 46, .row H (e46Md a) 46, .row o [.map (some l)] 63, .map (fun x : List UInt8 => str x) (fun x : Reading => .agg (e37Md x).toArray) l g, .row j [i6 u0.ID, .bool u0.Long, .bool false, .bool false, i6 0, .slice (sm i) u.length u0.Size.toNat] 27, .own t8 5 (sm i) u0.Size.toNat u, .row n [i6 0, .bool false, .bool false, .bool false, i6 0, .slice none 0 0] 27, .row p (e24Md u0 ao1 cap2) 24] D d4 := X
     apply a8
     refine sqB d9 a9 [] [] [(93, .bool true)] ?_; intro j5 bQ
     refine cdT bQ (by kernel_rfl) ?_
     refine sqH ?_; intro hj ea
     refine bt bQ a9 2 [] [] [(94, .agg #[i6 0, .bool false, .bool false, .bool false, i6 0, .slice none 0 0]), (95, i6 14)] ?_; intro j6 bR
     refine sx bR a9 7 [i6 0, .bool false, .bool false, .bool false, i6 0, .slice none 0 0] 0 ?_; intro hk eb
     refine s1 bR 5 (i6 14) ?_; intro j7 ec
     have ed : Mem w.heap.size [] w Z [.row L (e37Md ((mget g a.Name).getD ((⟨[], 0, 0⟩ : Reading) : Reading))) 37, .row E (e46Md a) 46, .row H (e46Md a) 46, .row o [.map (some l)] 63, .map (fun x : List UInt8 => str x) (fun x : Reading => .agg (e37Md x).toArray) l g, .row j [i6 u0.ID, .bool u0.Long, .bool false, .bool false, i6 0, .slice (sm i) u.length u0.Size.toNat] 27, .own t8 5 (sm i) u0.Size.toNat u, .row n [i6 0, .bool false, .bool false, .bool false, i6 0, .slice none 0 0] 27, .row p (e24Md u0 ao1 cap2) 24] D hk := eb
     apply ea
     refine r_ (i_ (h_ (h_ (i_ (h_ (rt (fn := Tryz.f12) (v := .tuple #[.agg #[i6 0, .bool false, .bool false, .bool false, i6 0, .slice none 0 0], i6 14]) ec (re2c ec (fn := Tryz.f12) rfl (ad := ⟨n, 0, none⟩) (by kernel_rfl) (loadVar_run ed 7 (b := n) (k := 6) (vs := [i6 0, .bool false, .bool false, .bool false, i6 0, .slice none 0 0]) (ty := 27) rfl (by kernel_rfl) (by kernel_rfl)) (by kernel_rfl)) ?_))))))
     exact ⟨((⟨0, false, false, false, 0, []⟩ : Frame), 14), none, 0, D, rfl, hi, (SlR.nil _ _), ed.kp⟩
    refine k_ (sqH ?_); intro hn ee
    refine bt aB X 3 [3, 1] [] [(18, .map (some l)), (20, str a.Name)] ?_; intro j8 bS
    refine mdl bS X 4 (m := g) a.Name (t := 63) (kt := 9) (et := 37) (nog rfl _) rfl rfl (by kernel_rfl) (by kernel_rfl) rfl (MKey.str (by kernel_rfl)) (by kernel_rfl) ?_; intro ho ef
    have ba : Mem w.heap.size [] w Z [.row L (e37Md ((mget g a.Name).getD ((⟨[], 0, 0⟩ : Reading) : Reading))) 37, .row E (e46Md a) 46, .row H (e46Md a) 46, .row o [.map (some l)] 63, .map (fun x : List UInt8 => str x) (fun x : Reading => .agg (e37Md x).toArray) l (mdel g a.Name), .row j [i6 u0.ID, .bool u0.Long, .bool false, .bool false, i6 0, .slice (sm i) u.length u0.Size.toNat] 27, .own t8 5 (sm i) u0.Size.toNat u, .row n [i6 0, .bool false, .bool false, .bool false, i6 0, .slice none 0 0] 27, .row p (e24Md u0 ao1 cap2) 24] D ho := ef
    apply ee
    refine sqH ?_; intro hq eg
    refine bt bS ba 5 [1, 0, 0] [] [(22, .agg (e46Md a).toArray), (24, i6 ((mget g a.Name).getD ((⟨[], 0, 0⟩ : Reading) : Reading)).Num), (26, i6 ((mget g a.Name).getD ((⟨[], 0, 0⟩ : Reading) : Reading)).Den)] ?_; intro j9 eh
    refine fc eh ba (sraw_fun a ((mget g a.Name).getD ((⟨[], 0, 0⟩ : Reading) : Reading)).Num ((mget g a.Name).getD ((⟨[], 0, 0⟩ : Reading) : Reading)).Den _ _ ba.fz) ?_; intro ka kb ei P
    refine bt ei P 5 [] [] [(7, i6 (rawS a ((mget g a.Name).getD ((⟨[], 0, 0⟩ : Reading) : Reading)).Num ((mget g a.Name).getD ((⟨[], 0, 0⟩ : Reading) : Reading)).Den).1), (8, i6 (rawS a ((mget g a.Name).getD ((⟨[], 0, 0⟩ : Reading) : Reading)).Num ((mget g a.Name).getD ((⟨[], 0, 0⟩ : Reading) : Reading)).Den).2)] ?_; intro kc ej
    apply eg
    refine s_ (sqB ej P [] [] [(31, .bool ((rawS a ((mget g a.Name).getD ((⟨[], 0, 0⟩ : Reading) : Reading)).Num ((mget g a.Name).getD ((⟨[], 0, 0⟩ : Reading) : Reading)).Den).2 == 0))] ?_); intro ek el
    have em : Fr 38 [] [⟨2, [], pt j 0⟩, ⟨3, [], pt E 0⟩, ⟨7, [], i6 (rawS a ((mget g a.Name).getD ((⟨[], 0, 0⟩ : Reading) : Reading)).Num ((mget g a.Name).getD ((⟨[], 0, 0⟩ : Reading) : Reading)).Den).1⟩, ⟨8, [], i6 (rawS a ((mget g a.Name).getD ((⟨[], 0, 0⟩ : Reading) : Reading)).Num ((mget g a.Name).getD ((⟨[], 0, 0⟩ : Reading) : Reading)).Den).2⟩, ⟨31, [], .bool ((rawS a ((mget g a.Name).getD ((⟨[], 0, 0⟩ : Reading) : Reading)).Num ((mget g a.Name).getD ((⟨[], 0, 0⟩ : Reading) : Reading)).Den).2 == 0)⟩] ek := el.reg
    obtain ⟨hr, bb, hs⟩ := hl
    refine wp_then_k fun KJ478 hKJ479 => ?_
    have en : ∀ (F : List Int) (Y : Fz), hr F ∧ F.length = u.length ∧ Fz.le D Y → ∀ a1 w1, Fr 38 [] [⟨8, [], i6 (rawS a ((mget g a.Name).getD ((⟨[], 0, 0⟩ : Reading) : Reading)).Num ((mget g a.Name).getD ((⟨[], 0, 0⟩ : Reading) : Reading)).Den).2⟩] a1 → Mem w.heap.size [] w Z [.row L (e37Md ((mget g a.Name).getD ((⟨[], 0, 0⟩ : Reading) : Reading))) 37, .row E (e46Md a) 46, .row H (e46Md a) 46, .row o [.map (some l)] 63, .map (fun x : List UInt8 => str x) (fun x : Reading => .agg (e37Md x).toArray) l (mdel g a.Name), .row j [i6 u0.ID, .bool u0.Long, .bool false, .bool false, i6 0, .slice (sm i) F.length u0.Size.toNat] 27, .own t8 5 (sm i) u0.Size.toNat F, .row n [i6 0, .bool false, .bool false, .bool false, i6 0, .slice none 0 0] 27, .row p (e24Md u0 ao1 cap2) 24] Y w1 → KJ478 a1 w1 := by
     rintro F Y ⟨ht, kd, Q⟩ ke hu eo bT
     refine hKJ479 _ _ ?_
     have bc := hs F ht
     have hv := ax.mono Q
     refine sqB eo bT [] [] [(4, i6 (rawS a ((mget g a.Name).getD ((⟨[], 0, 0⟩ : Reading) : Reading)).Num ((mget g a.Name).getD ((⟨[], 0, 0⟩ : Reading) : Reading)).Den).2)] ?_; intro kl ep
     refine r_ (ra1 ep (i6 (rawS a ((mget g a.Name).getD ((⟨[], 0, 0⟩ : Reading) : Reading)).Num ((mget g a.Name).getD ((⟨[], 0, 0⟩ : Reading) : Reading)).Den).2) ?_)
     refine ⟨_, rfl, ?_⟩; intro hw eq
     have hx : F.length = u.length := by first | assumption | omega | (dsimp only at *; omega) | (simp; try omega)
     have er : Fr 102 [] [⟨2, [], pt p 0⟩, ⟨4, [], pt n 0⟩, ⟨7, [], pt j 0⟩, ⟨8, [], pt o 0⟩, ⟨13, [], .func (.func 35) #[] #[pt o 0, pt j 0]⟩, ⟨15, [], i6 C⟩, ⟨16, [], pt H 0⟩, ⟨70, [], .slice ao1 u0.Signals.length cap2⟩, ⟨71, [], i6 (u0.Signals.length : Int)⟩, ⟨72, [], i6 C⟩, ⟨74, [], i6 C⟩, ⟨75, [], pt g2 g3⟩, ⟨76, [], .agg (e46Md a).toArray⟩, ⟨81, [], .bool false⟩, ⟨82, [], .agg (e24Md u0 ao1 cap2).toArray⟩, ⟨83, [], .agg (e46Md a).toArray⟩, ⟨85, [], .slice (sm i) F.length u0.Size.toNat⟩, ⟨86, [], .bool (mthereS u0 a u)⟩, ⟨88, [], .bool (!(mthereS u0 a u))⟩, ⟨89, [], .func (.func 35) #[] #[pt o 0, pt j 0]⟩, ⟨90, [], .agg (e46Md a).toArray⟩, ⟨91, [], i6 (rawS a ((mget g a.Name).getD ((⟨[], 0, 0⟩ : Reading) : Reading)).Num ((mget g a.Name).getD ((⟨[], 0, 0⟩ : Reading) : Reading)).Den).2⟩] hw := by rw [hx]; exact eq.reg
     refine s1 er 17 (i6 (rawS a ((mget g a.Name).getD ((⟨[], 0, 0⟩ : Reading) : Reading)).Num ((mget g a.Name).getD ((⟨[], 0, 0⟩ : Reading) : Reading)).Den).2) ?_; intro km es
     have aD : Mem w.heap.size [] w Z [.row L (e37Md ((mget g a.Name).getD ((⟨[], 0, 0⟩ : Reading) : Reading))) 37, .row E (e46Md a) 46, .row H (e46Md a) 46, .row o [.map (some l)] 63, .map (fun x : List UInt8 => str x) (fun x : Reading => .agg (e37Md x).toArray) l (mdel g a.Name), .row j [i6 u0.ID, .bool u0.Long, .bool false, .bool false, i6 0, .slice (sm i) F.length u0.Size.toNat] 27, .own t8 5 (sm i) u0.Size.toNat F, .row n [i6 0, .bool false, .bool false, .bool false, i6 0, .slice none 0 0] 27, .row p (e24Md u0 ao1 cap2) 24] Y hu := bT
     apply a8
     refine sqB es aD [] [] [(93, .bool ((rawS a ((mget g a.Name).getD ((⟨[], 0, 0⟩ : Reading) : Reading)).Num ((mget g a.Name).getD ((⟨[], 0, 0⟩ : Reading) : Reading)).Den).2 != 0))] ?_; intro kn bd
     refine c_ bd bc (fun _ hy => ?_) fun _ hB => ?_
     ·
      refine sqH ?_; intro hz eu
      refine bt bd aD 2 [] [] [(94, .agg #[i6 0, .bool false, .bool false, .bool false, i6 0, .slice none 0 0]), (95, i6 (rawS a ((mget g a.Name).getD ((⟨[], 0, 0⟩ : Reading) : Reading)).Num ((mget g a.Name).getD ((⟨[], 0, 0⟩ : Reading) : Reading)).Den).2)] ?_; intro ko bV
      refine sx bV aD 7 [i6 0, .bool false, .bool false, .bool false, i6 0, .slice none 0 0] 0 ?_; intro hA ev
      refine s1 bV 5 (i6 (rawS a ((mget g a.Name).getD ((⟨[], 0, 0⟩ : Reading) : Reading)).Num ((mget g a.Name).getD ((⟨[], 0, 0⟩ : Reading) : Reading)).Den).2) ?_; intro kp ew
      have ex : Mem w.heap.size [] w Z [.row L (e37Md ((mget g a.Name).getD ((⟨[], 0, 0⟩ : Reading) : Reading))) 37, .row E (e46Md a) 46, .row H (e46Md a) 46, .row o [.map (some l)] 63, .map (fun x : List UInt8 => str x) (fun x : Reading => .agg (e37Md x).toArray) l (mdel g a.Name), .row j [i6 u0.ID, .bool u0.Long, .bool false, .bool false, i6 0, .slice (sm i) F.length u0.Size.toNat] 27, .own t8 5 (sm i) u0.Size.toNat F, .row n [i6 0, .bool false, .bool false, .bool false, i6 0, .slice none 0 0] 27, .row p (e24Md u0 ao1 cap2) 24] Y hA := ev
      apply eu
      refine r_ (i_ (h_ (h_ (i_ (h_ (rt (fn := Tryz.f12) (v := .tuple #[.agg #[i6 0, .bool false, .bool false, .bool false, i6 0, .slice none 0 0], i6 (rawS a ((mget g a.Name).getD ((⟨[], 0, 0⟩ : Reading) : Reading)).Num ((mget g a.Name).getD ((⟨[], 0, 0⟩ : Reading) : Reading)).Den).2]) ew (re2c ew (fn := Tryz.f12) rfl (ad := ⟨n, 0, none⟩) (by kernel_rfl) (loadVar_run ex 7 (b := n) (k := 6) (vs := [i6 0, .bool false, .bool false, .bool false, i6 0, .slice none 0 0]) (ty := 27) rfl (by kernel_rfl) (by kernel_rfl)) (by kernel_rfl)) ?_))))))
      exact ⟨((⟨0, false, false, false, 0, []⟩ : Frame), (rawS a ((mget g a.Name).getD ((⟨[], 0, 0⟩ : Reading) : Reading)).Num ((mget g a.Name).getD ((⟨[], 0, 0⟩ : Reading) : Reading)).Den).2), none, 0, Y, rfl, hy, (SlR.nil _ _), ex.kp⟩
     exact l_ (j_ (d_ (bJ (mdel g a.Name) F Y ⟨hB, hv⟩ _ _ ((bd.reg).anyβ _ (by kernel_rfl)) (aD.kp))))
    have be := Fz.le.refl D
    refine c_ em bb (fun _ hC => ?_) fun _ hL => ?_
    ·
     refine rgH ?_; intro hD ey
     refine bt em P 4 [1, 5] [] [(32, .agg (e46Md a).toArray), (34, .slice (sm i) u.length u0.Size.toNat), (35, i6 (rawS a ((mget g a.Name).getD ((⟨[], 0, 0⟩ : Reading) : Reading)).Num ((mget g a.Name).getD ((⟨[], 0, 0⟩ : Reading) : Reading)).Den).1)] ?_; intro kq ez
     obtain ⟨hE, eA⟩ := hC
     refine ck ez 37 #[.agg (e46Md a).toArray, .slice (sm i) u.length u0.Size.toNat, i6 (rawS a ((mget g a.Name).getD ((⟨[], 0, 0⟩ : Reading) : Reading)).Num ((mget g a.Name).getD ((⟨[], 0, 0⟩ : Reading) : Reading)).Den).1] ?_
     refine (sputd_fun a u (rawS a ((mget g a.Name).getD ((⟨[], 0, 0⟩ : Reading) : Reading)).Num ((mget g a.Name).getD ((⟨[], 0, 0⟩ : Reading) : Reading)).Den).1 hE (sm i) u0.Size.toNat _ _ _ _ _ _ (P.perm (pk 6 rfl)) P.fz).mono ?_; rintro _ eB ⟨bX, rfl, M, hF, hm⟩; refine ⟨_, rfl, ?_⟩; intro hG eC; have eD := hm
     replace be := be.mono M
     have hH : Fr 38 [] [⟨2, [], pt j 0⟩, ⟨3, [], pt E 0⟩, ⟨7, [], i6 (rawS a ((mget g a.Name).getD ((⟨[], 0, 0⟩ : Reading) : Reading)).Num ((mget g a.Name).getD ((⟨[], 0, 0⟩ : Reading) : Reading)).Den).1⟩, ⟨8, [], i6 (rawS a ((mget g a.Name).getD ((⟨[], 0, 0⟩ : Reading) : Reading)).Num ((mget g a.Name).getD ((⟨[], 0, 0⟩ : Reading) : Reading)).Den).2⟩, ⟨31, [], .bool ((rawS a ((mget g a.Name).getD ((⟨[], 0, 0⟩ : Reading) : Reading)).Num ((mget g a.Name).getD ((⟨[], 0, 0⟩ : Reading) : Reading)).Den).2 == 0)⟩, ⟨32, [], .agg (e46Md a).toArray⟩, ⟨34, [], .slice (sm i) (putS a u (rawS a ((mget g a.Name).getD ((⟨[], 0, 0⟩ : Reading) : Reading)).Num ((mget g a.Name).getD ((⟨[], 0, 0⟩ : Reading) : Reading)).Den).1).length u0.Size.toNat⟩, ⟨35, [], i6 (rawS a ((mget g a.Name).getD ((⟨[], 0, 0⟩ : Reading) : Reading)).Num ((mget g a.Name).getD ((⟨[], 0, 0⟩ : Reading) : Reading)).Den).1⟩, ⟨36, [], .tuple #[]⟩] hG := by rw [hF]; exact eC.reg
     have hI : (putS a u (rawS a ((mget g a.Name).getD ((⟨[], 0, 0⟩ : Reading) : Reading)).Num ((mget g a.Name).getD ((⟨[], 0, 0⟩ : Reading) : Reading)).Den).1).length = u.length := by first | assumption | (simp; try omega)
     have eE : Mem w.heap.size [] w Z [.own t8 5 (sm i) u0.Size.toNat (putS a u (rawS a ((mget g a.Name).getD ((⟨[], 0, 0⟩ : Reading) : Reading)).Num ((mget g a.Name).getD ((⟨[], 0, 0⟩ : Reading) : Reading)).Den).1), .row L (e37Md ((mget g a.Name).getD ((⟨[], 0, 0⟩ : Reading) : Reading))) 37, .row E (e46Md a) 46, .row H (e46Md a) 46, .row o [.map (some l)] 63, .map (fun x : List UInt8 => str x) (fun x : Reading => .agg (e37Md x).toArray) l (mdel g a.Name), .row j [i6 u0.ID, .bool u0.Long, .bool false, .bool false, i6 0, .slice (sm i) (putS a u (rawS a ((mget g a.Name).getD ((⟨[], 0, 0⟩ : Reading) : Reading)).Num ((mget g a.Name).getD ((⟨[], 0, 0⟩ : Reading) : Reading)).Den).1).length u0.Size.toNat] 27, .row n [i6 0, .bool false, .bool false, .bool false, i6 0, .slice none 0 0] 27, .row p (e24Md u0 ao1 cap2) 24] bX eB := by rw [hI]; exact eD
     have eG : Mem w.heap.size [] w Z [.own t8 5 (sm i) u0.Size.toNat (putS a u (rawS a ((mget g a.Name).getD ((⟨[], 0, 0⟩ : Reading) : Reading)).Num ((mget g a.Name).getD ((⟨[], 0, 0⟩ : Reading) : Reading)).Den).1), .row L (e37Md ((mget g a.Name).getD ((⟨[], 0, 0⟩ : Reading) : Reading))) 37, .row E (e46Md a) 46, .row H (e46Md a) 46, .row o [.map (some l)] 63, .map (fun x : List UInt8 => str x) (fun x : Reading => .agg (e37Md x).toArray) l (mdel g a.Name), .row j [i6 u0.ID, .bool u0.Long, .bool false, .bool false, i6 0, .slice (sm i) (putS a u (rawS a ((mget g a.Name).getD ((⟨[], 0, 0⟩ : Reading) : Reading)).Num ((mget g a.Name).getD ((⟨[], 0, 0⟩ : Reading) : Reading)).Den).1).length u0.Size.toNat] 27, .row n [i6 0, .bool false, .bool false, .bool false, i6 0, .slice none 0 0] 27, .row p (e24Md u0 ao1 cap2) 24] bX eB := eE
     have hJ := eA (eG.ownSmall 0 rfl)
     apply ey
     apply d_
     have hK := eG.perm ((pk 1 rfl).trans (((pk 1 rfl).trans (((pk 1 rfl).trans (((pk 1 rfl).trans (((pk 1 rfl).trans (((pk 1 rfl).trans (lpr.cons _)).cons _)).cons _)).cons _)).cons _)).cons _))
     exact en (putS a u (rawS a ((mget g a.Name).getD ((⟨[], 0, 0⟩ : Reading) : Reading)).Num ((mget g a.Name).getD ((⟨[], 0, 0⟩ : Reading) : Reading)).Den).1) bX ⟨hJ, (by first | rfl | assumption | omega | (dsimp only at *; omega) | (simp; try omega)), be⟩ _ _ ((hH.reg).anyβ _ (by kernel_rfl)) (hK.kp)
    exact l_ (d_ (en u D ⟨hL, (by first | rfl | assumption | omega | (dsimp only at *; omega) | (simp; try omega)), be⟩ _ _ ((em.reg).anyβ _ (by kernel_rfl)) (P.kp)))
   exact x_ (y_ (y_ (z_ (d_ (gB g u D ⟨hM, av⟩ _ _ ((aX.reg).anyβ _ (by kernel_rfl)) (dz.kp))))))
  have bf := Fz.le.refl Z
  refine c_ c6 aQ (fun _ hN => ?_) fun _ io => ?_
  ·
   refine sqH ?_; intro eH bg
   refine bt c6 O 5 [5, 5] [] [(57, .func (.func 35) #[] #[pt o 0, pt j 0]), (59, .slice ao1 u0.Signals.length cap2), (61, i6 u0.Chooser)] ?_; intro kr eI
   obtain ⟨hO, eJ⟩ := hN
   refine ix_ eI hs3 u0.Chooser hO .i64 46 72 ?_; intro ks ku hP f kv hQ bh hR eK
   have bi := eJ f hQ
   obtain rfl : hP = ((e46Md f) : List Value) := hR
   refine z2 eK O 63 bh 0 9 (e46Md f) rfl ?_; intro kw bZ
   refine ck bZ 35 #[.agg (e46Md f).toArray, pt o 0, pt j 0] ?_
   refine enter0 Tryz.func35 rfl rfl (by kernel_rfl) ?_; intro kx eL
   refine sqH ?_; intro hS eM
   refine nw eL O pb (e46Md f) 46 ?_; intro G ky kz eN aE
   refine s1 eN 4 (i6 0) ?_; intro hT eO
   apply eM
   have eP : Fr 38 [] [⟨1, [], pt o 0⟩, ⟨2, [], pt j 0⟩, ⟨3, [], pt G 0⟩] hT := eO.reg
   refine sqH ?_; intro hU eQ
   refine bt eP aE 3 [1, 0] [] [(10, .map (some l)), (12, str f.Name)] ?_; intro kA eR
   refine lkO eR aE 2 (m := h) f.Name ((⟨[], 0, 0⟩ : Reading) : Reading) (t := 63) (kt := 9) (et := 37) (nog rfl _) rfl (by kernel_rfl) rfl (by kernel_rfl) (by kernel_rfl) rfl (MKey.str (by kernel_rfl)) (by kernel_rfl) (by kernel_rfl) ?_; intro kB eS
   refine bt eS aE 3 [] [] [(14, .agg (e37Md ((mget h f.Name).getD ((⟨[], 0, 0⟩ : Reading) : Reading))).toArray), (15, .bool (mget h f.Name).isSome)] ?_; intro kC eT
   refine nw eT aE pb [str [], i6 0, i6 0] 37 ?_; intro N kD kE b0 eU
   refine sx b0 eU 0 (e37Md ((mget h f.Name).getD ((⟨[], 0, 0⟩ : Reading) : Reading))) 0 ?_; intro eV eW
   refine s1 b0 6 (.bool (mget h f.Name).isSome) ?_; intro kF eX
   have aa : Mem w.heap.size [] w Z [.row N (e37Md ((mget h f.Name).getD ((⟨[], 0, 0⟩ : Reading) : Reading))) 37, .row G (e46Md f) 46, .row o [.map (some l)] 63, .map (fun x : List UInt8 => str x) (fun x : Reading => .agg (e37Md x).toArray) l h, .row j [i6 u0.ID, .bool u0.Long, .bool false, .bool false, i6 0, .slice (sm i) (List.replicate u0.Size.toNat (0 : Int)).length u0.Size.toNat] 27, .own t8 5 (sm i) u0.Size.toNat (List.replicate u0.Size.toNat (0 : Int)), .row n [i6 0, .bool false, .bool false, .bool false, i6 0, .slice none 0 0] 27, .row p (e24Md u0 ao1 cap2) 24] Z eV := eW
   apply eQ
   refine s_ (sqB eX aa [] [] [(17, .bool (!(mget h f.Name).isSome))] ?_); intro kG aF
   refine c_ aF bi (fun _ hV => ?_) fun _ hY => ?_
   ·
    refine sqB aF aa [] [] [(4, i6 14)] ?_; intro kH eY
    refine r_ (h_ (ra1 eY (i6 14) ?_))
    refine ⟨_, rfl, ?_⟩; intro kI eZ
    refine s1 eZ 14 (i6 14) ?_; intro kJ e0
    have bj : Mem w.heap.size [] w Z [.row N (e37Md ((mget h f.Name).getD ((⟨[], 0, 0⟩ : Reading) : Reading))) 37, .row G (e46Md f) 46, .row o [.map (some l)] 63, .map (fun x : List UInt8 => str x) (fun x : Reading => .agg (e37Md x).toArray) l h, .row j [i6 u0.ID, .bool u0.Long, .bool false, .bool false, i6 0, .slice (sm i) (List.replicate u0.Size.toNat (0 : Int)).length u0.Size.toNat] 27, .own t8 5 (sm i) u0.Size.toNat (List.replicate u0.Size.toNat (0 : Int)), .row n [i6 0, .bool false, .bool false, .bool false, i6 0, .slice none 0 0] 27, .row p (e24Md u0 ao1 cap2) 24] Z eV := aa
    apply bg
    refine sqB e0 bj [] [] [(66, .bool true)] ?_; intro kK b2
    refine cdT b2 (by kernel_rfl) ?_
    refine sqH ?_; intro hW e1
    refine bt b2 bj 2 [] [] [(67, .agg #[i6 0, .bool false, .bool false, .bool false, i6 0, .slice none 0 0]), (68, i6 14)] ?_; intro kL b3
    refine sx b3 bj 6 [i6 0, .bool false, .bool false, .bool false, i6 0, .slice none 0 0] 0 ?_; intro hX e2
    refine s1 b3 5 (i6 14) ?_; intro kM e3
    have e4 : Mem w.heap.size [] w Z [.row N (e37Md ((mget h f.Name).getD ((⟨[], 0, 0⟩ : Reading) : Reading))) 37, .row G (e46Md f) 46, .row o [.map (some l)] 63, .map (fun x : List UInt8 => str x) (fun x : Reading => .agg (e37Md x).toArray) l h, .row j [i6 u0.ID, .bool u0.Long, .bool false, .bool false, i6 0, .slice (sm i) (List.replicate u0.Size.toNat (0 : Int)).length u0.Size.toNat] 27, .own t8 5 (sm i) u0.Size.toNat (List.replicate u0.Size.toNat (0 : Int)), .row n [i6 0, .bool false, .bool false, .bool false, i6 0, .slice none 0 0] 27, .row p (e24Md u0 ao1 cap2) 24] Z hX := e2
    apply e1
    refine r_ (h_ (rt (fn := Tryz.f12) (v := .tuple #[.agg #[i6 0, .bool false, .bool false, .bool false, i6 0, .slice none 0 0], i6 14]) e3 (re2c e3 (fn := Tryz.f12) rfl (ad := ⟨n, 0, none⟩) (by kernel_rfl) (loadVar_run e4 6 (b := n) (k := 6) (vs := [i6 0, .bool false, .bool false, .bool false, i6 0, .slice none 0 0]) (ty := 27) rfl (by kernel_rfl) (by kernel_rfl)) (by kernel_rfl)) ?_))
    exact ⟨((⟨0, false, false, false, 0, []⟩ : Frame), 14), none, 0, Z, rfl, hV, (SlR.nil _ _), e4.kp⟩
   refine k_ (sqH ?_); intro h0 e5
   refine bt aF aa 3 [2, 1] [] [(18, .map (some l)), (20, str f.Name)] ?_; intro kN b4
   refine mdl b4 aa 3 (m := h) f.Name (t := 63) (kt := 9) (et := 37) (nog rfl _) rfl rfl (by kernel_rfl) (by kernel_rfl) rfl (MKey.str (by kernel_rfl)) (by kernel_rfl) ?_; intro h1 e6
   have bk : Mem w.heap.size [] w Z [.row N (e37Md ((mget h f.Name).getD ((⟨[], 0, 0⟩ : Reading) : Reading))) 37, .row G (e46Md f) 46, .row o [.map (some l)] 63, .map (fun x : List UInt8 => str x) (fun x : Reading => .agg (e37Md x).toArray) l (mdel h f.Name), .row j [i6 u0.ID, .bool u0.Long, .bool false, .bool false, i6 0, .slice (sm i) (List.replicate u0.Size.toNat (0 : Int)).length u0.Size.toNat] 27, .own t8 5 (sm i) u0.Size.toNat (List.replicate u0.Size.toNat (0 : Int)), .row n [i6 0, .bool false, .bool false, .bool false, i6 0, .slice none 0 0] 27, .row p (e24Md u0 ao1 cap2) 24] Z h1 := e6
   apply e5
   refine sqH ?_; intro h2 e7
   refine bt b4 bk 5 [1, 0, 0] [] [(22, .agg (e46Md f).toArray), (24, i6 ((mget h f.Name).getD ((⟨[], 0, 0⟩ : Reading) : Reading)).Num), (26, i6 ((mget h f.Name).getD ((⟨[], 0, 0⟩ : Reading) : Reading)).Den)] ?_; intro kO e8
   refine fc e8 bk (sraw_fun f ((mget h f.Name).getD ((⟨[], 0, 0⟩ : Reading) : Reading)).Num ((mget h f.Name).getD ((⟨[], 0, 0⟩ : Reading) : Reading)).Den _ _ bk.fz) ?_; intro kP kQ e9 R
   refine bt e9 R 5 [] [] [(7, i6 (rawS f ((mget h f.Name).getD ((⟨[], 0, 0⟩ : Reading) : Reading)).Num ((mget h f.Name).getD ((⟨[], 0, 0⟩ : Reading) : Reading)).Den).1), (8, i6 (rawS f ((mget h f.Name).getD ((⟨[], 0, 0⟩ : Reading) : Reading)).Num ((mget h f.Name).getD ((⟨[], 0, 0⟩ : Reading) : Reading)).Den).2)] ?_; intro kR fa
   apply e7
   refine s_ (sqB fa R [] [] [(31, .bool ((rawS f ((mget h f.Name).getD ((⟨[], 0, 0⟩ : Reading) : Reading)).Num ((mget h f.Name).getD ((⟨[], 0, 0⟩ : Reading) : Reading)).Den).2 == 0))] ?_); intro fb fd
   have fe : Fr 38 [] [⟨2, [], pt j 0⟩, ⟨3, [], pt G 0⟩, ⟨7, [], i6 (rawS f ((mget h f.Name).getD ((⟨[], 0, 0⟩ : Reading) : Reading)).Num ((mget h f.Name).getD ((⟨[], 0, 0⟩ : Reading) : Reading)).Den).1⟩, ⟨8, [], i6 (rawS f ((mget h f.Name).getD ((⟨[], 0, 0⟩ : Reading) : Reading)).Num ((mget h f.Name).getD ((⟨[], 0, 0⟩ : Reading) : Reading)).Den).2⟩, ⟨31, [], .bool ((rawS f ((mget h f.Name).getD ((⟨[], 0, 0⟩ : Reading) : Reading)).Num ((mget h f.Name).getD ((⟨[], 0, 0⟩ : Reading) : Reading)).Den).2 == 0)⟩] fb := fd.reg
   obtain ⟨h3, bl, h4⟩ := hY
   refine wp_then_k fun KJ693 hKJ694 => ?_
   have ff : ∀ (A : List Int) (ab : Fz), h3 A ∧ Fz.le Z ab → ∀ a1 w1, Fr 38 [] [⟨8, [], i6 (rawS f ((mget h f.Name).getD ((⟨[], 0, 0⟩ : Reading) : Reading)).Num ((mget h f.Name).getD ((⟨[], 0, 0⟩ : Reading) : Reading)).Den).2⟩] a1 → Mem w.heap.size [] w Z [.row N (e37Md ((mget h f.Name).getD ((⟨[], 0, 0⟩ : Reading) : Reading))) 37, .row G (e46Md f) 46, .row o [.map (some l)] 63, .map (fun x : List UInt8 => str x) (fun x : Reading => .agg (e37Md x).toArray) l (mdel h f.Name), .row j [i6 u0.ID, .bool u0.Long, .bool false, .bool false, i6 0, .slice (sm i) A.length u0.Size.toNat] 27, .own t8 5 (sm i) u0.Size.toNat A, .row n [i6 0, .bool false, .bool false, .bool false, i6 0, .slice none 0 0] 27, .row p (e24Md u0 ao1 cap2) 24] ab w1 → KJ693 a1 w1 := by
    rintro A ab ⟨h5, aH⟩ kS h6 fg b5
    refine hKJ694 _ _ ?_
    have bm := h4 A h5
    have h7 := bf.mono aH
    refine sqB fg b5 [] [] [(4, i6 (rawS f ((mget h f.Name).getD ((⟨[], 0, 0⟩ : Reading) : Reading)).Num ((mget h f.Name).getD ((⟨[], 0, 0⟩ : Reading) : Reading)).Den).2)] ?_; intro kW fh
    refine r_ (ra1 fh (i6 (rawS f ((mget h f.Name).getD ((⟨[], 0, 0⟩ : Reading) : Reading)).Num ((mget h f.Name).getD ((⟨[], 0, 0⟩ : Reading) : Reading)).Den).2) ?_)
    refine ⟨_, rfl, ?_⟩; intro kX fi
    refine s1 fi 14 (i6 (rawS f ((mget h f.Name).getD ((⟨[], 0, 0⟩ : Reading) : Reading)).Num ((mget h f.Name).getD ((⟨[], 0, 0⟩ : Reading) : Reading)).Den).2) ?_; intro kY fj
    have aI : Mem w.heap.size [] w Z [.row N (e37Md ((mget h f.Name).getD ((⟨[], 0, 0⟩ : Reading) : Reading))) 37, .row G (e46Md f) 46, .row o [.map (some l)] 63, .map (fun x : List UInt8 => str x) (fun x : Reading => .agg (e37Md x).toArray) l (mdel h f.Name), .row j [i6 u0.ID, .bool u0.Long, .bool false, .bool false, i6 0, .slice (sm i) A.length u0.Size.toNat] 27, .own t8 5 (sm i) u0.Size.toNat A, .row n [i6 0, .bool false, .bool false, .bool false, i6 0, .slice none 0 0] 27, .row p (e24Md u0 ao1 cap2) 24] ab h6 := b5
    apply bg
    refine sqB fj aI [] [] [(66, .bool ((rawS f ((mget h f.Name).getD ((⟨[], 0, 0⟩ : Reading) : Reading)).Num ((mget h f.Name).getD ((⟨[], 0, 0⟩ : Reading) : Reading)).Den).2 != 0))] ?_; intro kZ bn
    refine c_ bn bm (fun _ h8 => ?_) fun _ ib => ?_
    ·
     refine sqH ?_; intro h9 fk
     refine bt bn aI 2 [] [] [(67, .agg #[i6 0, .bool false, .bool false, .bool false, i6 0, .slice none 0 0]), (68, i6 (rawS f ((mget h f.Name).getD ((⟨[], 0, 0⟩ : Reading) : Reading)).Num ((mget h f.Name).getD ((⟨[], 0, 0⟩ : Reading) : Reading)).Den).2)] ?_; intro k0 b7
     refine sx b7 aI 6 [i6 0, .bool false, .bool false, .bool false, i6 0, .slice none 0 0] 0 ?_; intro ia fl
     refine s1 b7 5 (i6 (rawS f ((mget h f.Name).getD ((⟨[], 0, 0⟩ : Reading) : Reading)).Num ((mget h f.Name).getD ((⟨[], 0, 0⟩ : Reading) : Reading)).Den).2) ?_; intro k1 fm
     have fo : Mem w.heap.size [] w Z [.row N (e37Md ((mget h f.Name).getD ((⟨[], 0, 0⟩ : Reading) : Reading))) 37, .row G (e46Md f) 46, .row o [.map (some l)] 63, .map (fun x : List UInt8 => str x) (fun x : Reading => .agg (e37Md x).toArray) l (mdel h f.Name), .row j [i6 u0.ID, .bool u0.Long, .bool false, .bool false, i6 0, .slice (sm i) A.length u0.Size.toNat] 27, .own t8 5 (sm i) u0.Size.toNat A, .row n [i6 0, .bool false, .bool false, .bool false, i6 0, .slice none 0 0] 27, .row p (e24Md u0 ao1 cap2) 24] ab ia := fl
     apply fk
     refine r_ (h_ (rt (fn := Tryz.f12) (v := .tuple #[.agg #[i6 0, .bool false, .bool false, .bool false, i6 0, .slice none 0 0], i6 (rawS f ((mget h f.Name).getD ((⟨[], 0, 0⟩ : Reading) : Reading)).Num ((mget h f.Name).getD ((⟨[], 0, 0⟩ : Reading) : Reading)).Den).2]) fm (re2c fm (fn := Tryz.f12) rfl (ad := ⟨n, 0, none⟩) (by kernel_rfl) (loadVar_run fo 6 (b := n) (k := 6) (vs := [i6 0, .bool false, .bool false, .bool false, i6 0, .slice none 0 0]) (ty := 27) rfl (by kernel_rfl) (by kernel_rfl)) (by kernel_rfl)) ?_))
     exact ⟨((⟨0, false, false, false, 0, []⟩ : Frame), (rawS f ((mget h f.Name).getD ((⟨[], 0, 0⟩ : Reading) : Reading)).Num ((mget h f.Name).getD ((⟨[], 0, 0⟩ : Reading) : Reading)).Den).2), none, 0, ab, rfl, h8, (SlR.nil _ _), fo.kp⟩
    exact l_ (d_ (c7 (mdel h f.Name) A ab ⟨ib, h7⟩ _ _ ((bn.reg).anyβ _ (by kernel_rfl)) (aI.kp)))
   have bo := Fz.le.refl Z
   refine c_ fe bl (fun _ ic => ?_) fun _ im => ?_
   ·
    refine rgH ?_; intro id fp
    refine bt fe R 4 [1, 4] [] [(32, .agg (e46Md f).toArray), (34, .slice (sm i) (List.replicate u0.Size.toNat (0 : Int)).length u0.Size.toNat), (35, i6 (rawS f ((mget h f.Name).getD ((⟨[], 0, 0⟩ : Reading) : Reading)).Num ((mget h f.Name).getD ((⟨[], 0, 0⟩ : Reading) : Reading)).Den).1)] ?_; intro k2 fq
    obtain ⟨ie, fr⟩ := ic
    refine ck fq 37 #[.agg (e46Md f).toArray, .slice (sm i) (List.replicate u0.Size.toNat (0 : Int)).length u0.Size.toNat, i6 (rawS f ((mget h f.Name).getD ((⟨[], 0, 0⟩ : Reading) : Reading)).Num ((mget h f.Name).getD ((⟨[], 0, 0⟩ : Reading) : Reading)).Den).1] ?_
    refine (sputd_fun f (List.replicate u0.Size.toNat (0 : Int)) (rawS f ((mget h f.Name).getD ((⟨[], 0, 0⟩ : Reading) : Reading)).Num ((mget h f.Name).getD ((⟨[], 0, 0⟩ : Reading) : Reading)).Den).1 ie (sm i) u0.Size.toNat _ _ _ _ _ _ (R.perm (pk 5 rfl)) R.fz).mono ?_; rintro _ fs ⟨b9, rfl, am, ig, hm⟩; refine ⟨_, rfl, ?_⟩; intro ih ft; have fu := hm
    replace bo := bo.mono am
    have ii : Fr 38 [] [⟨2, [], pt j 0⟩, ⟨3, [], pt G 0⟩, ⟨7, [], i6 (rawS f ((mget h f.Name).getD ((⟨[], 0, 0⟩ : Reading) : Reading)).Num ((mget h f.Name).getD ((⟨[], 0, 0⟩ : Reading) : Reading)).Den).1⟩, ⟨8, [], i6 (rawS f ((mget h f.Name).getD ((⟨[], 0, 0⟩ : Reading) : Reading)).Num ((mget h f.Name).getD ((⟨[], 0, 0⟩ : Reading) : Reading)).Den).2⟩, ⟨31, [], .bool ((rawS f ((mget h f.Name).getD ((⟨[], 0, 0⟩ : Reading) : Reading)).Num ((mget h f.Name).getD ((⟨[], 0, 0⟩ : Reading) : Reading)).Den).2 == 0)⟩, ⟨32, [], .agg (e46Md f).toArray⟩, ⟨34, [], .slice (sm i) (putS f (List.replicate u0.Size.toNat (0 : Int)) (rawS f ((mget h f.Name).getD ((⟨[], 0, 0⟩ : Reading) : Reading)).Num ((mget h f.Name).getD ((⟨[], 0, 0⟩ : Reading) : Reading)).Den).1).length u0.Size.toNat⟩, ⟨35, [], i6 (rawS f ((mget h f.Name).getD ((⟨[], 0, 0⟩ : Reading) : Reading)).Num ((mget h f.Name).getD ((⟨[], 0, 0⟩ : Reading) : Reading)).Den).1⟩, ⟨36, [], .tuple #[]⟩] ih := by rw [ig]; exact ft.reg
    have ij : (putS f (List.replicate u0.Size.toNat (0 : Int)) (rawS f ((mget h f.Name).getD ((⟨[], 0, 0⟩ : Reading) : Reading)).Num ((mget h f.Name).getD ((⟨[], 0, 0⟩ : Reading) : Reading)).Den).1).length = (List.replicate u0.Size.toNat (0 : Int)).length := by first | assumption | (simp; try omega)
    have fv : Mem w.heap.size [] w Z [.own t8 5 (sm i) u0.Size.toNat (putS f (List.replicate u0.Size.toNat (0 : Int)) (rawS f ((mget h f.Name).getD ((⟨[], 0, 0⟩ : Reading) : Reading)).Num ((mget h f.Name).getD ((⟨[], 0, 0⟩ : Reading) : Reading)).Den).1), .row N (e37Md ((mget h f.Name).getD ((⟨[], 0, 0⟩ : Reading) : Reading))) 37, .row G (e46Md f) 46, .row o [.map (some l)] 63, .map (fun x : List UInt8 => str x) (fun x : Reading => .agg (e37Md x).toArray) l (mdel h f.Name), .row j [i6 u0.ID, .bool u0.Long, .bool false, .bool false, i6 0, .slice (sm i) (putS f (List.replicate u0.Size.toNat (0 : Int)) (rawS f ((mget h f.Name).getD ((⟨[], 0, 0⟩ : Reading) : Reading)).Num ((mget h f.Name).getD ((⟨[], 0, 0⟩ : Reading) : Reading)).Den).1).length u0.Size.toNat] 27, .row n [i6 0, .bool false, .bool false, .bool false, i6 0, .slice none 0 0] 27, .row p (e24Md u0 ao1 cap2) 24] b9 fs := by rw [ij]; exact fu
    have fw : Mem w.heap.size [] w Z [.own t8 5 (sm i) u0.Size.toNat (putS f (List.replicate u0.Size.toNat (0 : Int)) (rawS f ((mget h f.Name).getD ((⟨[], 0, 0⟩ : Reading) : Reading)).Num ((mget h f.Name).getD ((⟨[], 0, 0⟩ : Reading) : Reading)).Den).1), .row N (e37Md ((mget h f.Name).getD ((⟨[], 0, 0⟩ : Reading) : Reading))) 37, .row G (e46Md f) 46, .row o [.map (some l)] 63, .map (fun x : List UInt8 => str x) (fun x : Reading => .agg (e37Md x).toArray) l (mdel h f.Name), .row j [i6 u0.ID, .bool u0.Long, .bool false, .bool false, i6 0, .slice (sm i) (putS f (List.replicate u0.Size.toNat (0 : Int)) (rawS f ((mget h f.Name).getD ((⟨[], 0, 0⟩ : Reading) : Reading)).Num ((mget h f.Name).getD ((⟨[], 0, 0⟩ : Reading) : Reading)).Den).1).length u0.Size.toNat] 27, .row n [i6 0, .bool false, .bool false, .bool false, i6 0, .slice none 0 0] 27, .row p (e24Md u0 ao1 cap2) 24] b9 fs := fv
    have ik := fr (fw.ownSmall 0 rfl)
    apply fp
    apply d_
    have il := fw.perm ((pk 1 rfl).trans (((pk 1 rfl).trans (((pk 1 rfl).trans (((pk 1 rfl).trans (((pk 1 rfl).trans (lpr.cons _)).cons _)).cons _)).cons _)).cons _))
    exact ff (putS f (List.replicate u0.Size.toNat (0 : Int)) (rawS f ((mget h f.Name).getD ((⟨[], 0, 0⟩ : Reading) : Reading)).Num ((mget h f.Name).getD ((⟨[], 0, 0⟩ : Reading) : Reading)).Den).1) b9 ⟨ik, bo⟩ _ _ ((ii.reg).anyβ _ (by kernel_rfl)) (il.kp)
   exact l_ (d_ (ff (List.replicate u0.Size.toNat (0 : Int)) Z ⟨im, bo⟩ _ _ ((fe.reg).anyβ _ (by kernel_rfl)) (R.kp)))
  exact l_ (d_ (c7 h (List.replicate u0.Size.toNat (0 : Int)) Z ⟨io, bf⟩ _ _ ((c6.reg).anyβ _ (by kernel_rfl)) (O.kp)))
 apply b_
 have fx : Fr 102 [] [⟨2, [], pt p 0⟩, ⟨4, [], pt n 0⟩, ⟨7, [], pt j 0⟩, ⟨8, [], pt o 0⟩, ⟨33, [], .slice ao4 u1.length cap5⟩, ⟨34, [], i6 (u1.length : Int)⟩, ⟨35, [], i6 0⟩] aP := c1.reg
 obtain ⟨ip, iq, ir, it⟩ := gp
 refine lp (ι := Int × (List (List UInt8 × Reading))) (fun s => [⟨2, [], pt p 0⟩, ⟨4, [], pt n 0⟩, ⟨7, [], pt j 0⟩, ⟨8, [], pt o 0⟩, ⟨33, [], .slice ao4 u1.length cap5⟩, ⟨34, [], i6 (u1.length : Int)⟩, ⟨35, [], i6 s.1⟩]) (fun s => [.row o [.map (some l)] 63, .map (fun x : List UInt8 => str x) (fun x : Reading => .agg (e37Md x).toArray) l s.2, .row j [i6 u0.ID, .bool u0.Long, .bool false, .bool false, i6 0, .slice (sm i) (List.replicate u0.Size.toNat (0 : Int)).length u0.Size.toNat] 27, .own t8 5 (sm i) u0.Size.toNat (List.replicate u0.Size.toNat (0 : Int)), .row n [i6 0, .bool false, .bool false, .bool false, i6 0, .slice none 0 0] 27, .row p (e24Md u0 ao1 cap2) 24]) (fun s => Z) (fun s => ip s.1 s.2) (fun s => iq s.1 s.2) ⟨0, ([] : List (List UInt8 × Reading))⟩ ir (by exact fx.reg) (by exact aO) ?_
 rintro ⟨ac, y⟩ iu iv iw fA fB
 have bp := it ac y iu
 refine sqB fA fB [] [] [(36, .bool (decide (ac < (u1.length : Int))))] ?_; intro k3 bq
 refine s_ (c_ bq bp (fun _ iy => ?_) fun _ iO => ?_)
 ·
  refine k_ (s_ (b_ (sqH ?_))); intro iz fD
  obtain ⟨iA, fE⟩ := iy
  refine ix_ bq hs6 ac iA .i64 37 32 ?_; intro k4 k5 iB q k6 iC iD iE fF
  have br := fE q iC
  obtain rfl : iB = ((e37Md q) : List Value) := iE
  refine z2 fF fB 38 iD 0 3 (e37Md q) rfl ?_; intro k7 fG
  refine nw fG fB pb [str [], i6 0, i6 0] 37 ?_; intro bs k8 k9 cb fH
  refine sx cb fH 0 (e37Md q) 0 ?_; intro iF fI
  have aK : Mem w.heap.size [] w Z [.row bs (e37Md q) 37, .row o [.map (some l)] 63, .map (fun x : List UInt8 => str x) (fun x : Reading => .agg (e37Md x).toArray) l y, .row j [i6 u0.ID, .bool u0.Long, .bool false, .bool false, i6 0, .slice (sm i) (List.replicate u0.Size.toNat (0 : Int)).length u0.Size.toNat] 27, .own t8 5 (sm i) u0.Size.toNat (List.replicate u0.Size.toNat (0 : Int)), .row n [i6 0, .bool false, .bool false, .bool false, i6 0, .slice none 0 0] 27, .row p (e24Md u0 ao1 cap2) 24] Z iF := fI
  apply fD
  refine s_ (sqH ?_); intro iG fJ
  refine bt cb aK 3 [1, 0] [] [(40, .map (some l)), (42, str q.Name)] ?_; intro la fK
  refine lkO fK aK 2 (m := y) q.Name ((⟨[], 0, 0⟩ : Reading) : Reading) (t := 63) (kt := 9) (et := 37) (nog rfl _) rfl (by kernel_rfl) rfl (by kernel_rfl) (by kernel_rfl) rfl (MKey.str (by kernel_rfl)) (by kernel_rfl) (by kernel_rfl) ?_; intro lb fL
  refine bt fL aK 3 [] [] [(44, .agg (e37Md ((mget y q.Name).getD ((⟨[], 0, 0⟩ : Reading) : Reading))).toArray), (45, .bool (mget y q.Name).isSome)] ?_; intro lc fM
  refine nw fM aK pb [str [], i6 0, i6 0] 37 ?_; intro cc ld lf ce fP
  refine sx ce fP 0 (e37Md ((mget y q.Name).getD ((⟨[], 0, 0⟩ : Reading) : Reading))) 0 ?_; intro iH fQ
  refine s1 ce 12 (.bool (mget y q.Name).isSome) ?_; intro lg fR
  have an : Mem w.heap.size [] w Z [.row cc (e37Md ((mget y q.Name).getD ((⟨[], 0, 0⟩ : Reading) : Reading))) 37, .row bs (e37Md q) 37, .row o [.map (some l)] 63, .map (fun x : List UInt8 => str x) (fun x : Reading => .agg (e37Md x).toArray) l y, .row j [i6 u0.ID, .bool u0.Long, .bool false, .bool false, i6 0, .slice (sm i) (List.replicate u0.Size.toNat (0 : Int)).length u0.Size.toNat] 27, .own t8 5 (sm i) u0.Size.toNat (List.replicate u0.Size.toNat (0 : Int)), .row n [i6 0, .bool false, .bool false, .bool false, i6 0, .slice none 0 0] 27, .row p (e24Md u0 ao1 cap2) 24] Z iH := fQ
  apply fJ
  refine sqB fR an [] [] [(46, .bool (mget y q.Name).isSome)] ?_; intro lh aL
  refine c_ aL br (fun _ iI => ?_) fun _ fW => ?_
  ·
   refine sqH ?_; intro iJ fS
   refine s1 aL 47 (.agg #[i6 0, .bool false, .bool false, .bool false, i6 0, .slice none 0 0]) ?_; intro li cg
   refine sx cg an 6 [i6 0, .bool false, .bool false, .bool false, i6 0, .slice none 0 0] 0 ?_; intro iK fT
   refine s1 cg 5 (i6 9) ?_; intro lj fU
   have fV : Mem w.heap.size [] w Z [.row cc (e37Md ((mget y q.Name).getD ((⟨[], 0, 0⟩ : Reading) : Reading))) 37, .row bs (e37Md q) 37, .row o [.map (some l)] 63, .map (fun x : List UInt8 => str x) (fun x : Reading => .agg (e37Md x).toArray) l y, .row j [i6 u0.ID, .bool u0.Long, .bool false, .bool false, i6 0, .slice (sm i) (List.replicate u0.Size.toNat (0 : Int)).length u0.Size.toNat] 27, .own t8 5 (sm i) u0.Size.toNat (List.replicate u0.Size.toNat (0 : Int)), .row n [i6 0, .bool false, .bool false, .bool false, i6 0, .slice none 0 0] 27, .row p (e24Md u0 ao1 cap2) 24] Z iK := fT
   apply fS
   refine r_ (h_ (i_ (h_ (h_ (i_ (h_ (rt (fn := Tryz.f12) (v := .tuple #[.agg #[i6 0, .bool false, .bool false, .bool false, i6 0, .slice none 0 0], i6 9]) fU (re2c fU (fn := Tryz.f12) rfl (ad := ⟨n, 0, none⟩) (by kernel_rfl) (loadVar_run fV 6 (b := n) (k := 6) (vs := [i6 0, .bool false, .bool false, .bool false, i6 0, .slice none 0 0]) (ty := 27) rfl (by kernel_rfl) (by kernel_rfl)) (by kernel_rfl)) ?_)))))))
   exact ⟨((⟨0, false, false, false, 0, []⟩ : Frame), 9), none, 0, Z, rfl, iI, (SlR.nil _ _), fV.kp⟩
  refine k_ (rgH ?_); intro iL fX
  refine bt aL an 4 [2, 1, 1] [] [(48, .map (some l)), (50, str q.Name), (51, .agg (e37Md q).toArray)] ?_; intro lk ch
  refine mup ch an 3 (m := y) q.Name q (t := 63) (kt := 9) (et := 37) (nog rfl _) rfl rfl (by kernel_rfl) (by kernel_rfl) (by kernel_rfl) rfl (MKey.str (by kernel_rfl)) (by kernel_rfl) ?_; intro iM fY
  have fZ : Mem w.heap.size [] w Z [.row cc (e37Md ((mget y q.Name).getD ((⟨[], 0, 0⟩ : Reading) : Reading))) 37, .row bs (e37Md q) 37, .row o [.map (some l)] 63, .map (fun x : List UInt8 => str x) (fun x : Reading => .agg (e37Md x).toArray) l (mput y q.Name q), .row j [i6 u0.ID, .bool u0.Long, .bool false, .bool false, i6 0, .slice (sm i) (List.replicate u0.Size.toNat (0 : Int)).length u0.Size.toNat] 27, .own t8 5 (sm i) u0.Size.toNat (List.replicate u0.Size.toNat (0 : Int)), .row n [i6 0, .bool false, .bool false, .bool false, i6 0, .slice none 0 0] 27, .row p (e24Md u0 ao1 cap2) 24] Z iM := fY
  apply fX
  refine j_ (t_ (rgB ch fZ [] [] [(35, i6 (w64 (ac + 1)))] ?_)); intro ll iN
  exact d_ ⟨⟨w64 (ac + 1), mput y q.Name q⟩, fW.1, fW.2, (iN.reg).anyβ _ (by kernel_rfl), fZ.kp⟩
 exact x_ (y_ (y_ (z_ (d_ (gr y iO _ _ ((bq.reg).anyβ _ (by kernel_rfl)) (fB.kp))))))
end Go.Proofs.YtdndfbamhnchfaaGreatDoor
set_option linter.unusedVariables false
set_option linter.unusedSimpArgs false
set_option linter.defProp false
set_option maxRecDepth 100000
set_option maxHeartbeats 0
namespace Go.Proofs.YtdndfbamhnchfaaGreatDoor
open Go.Sy Go.RowKit
abbrev e37Me (X : Reading) : List Value := [str X.Name, i6 X.Num, i6 X.Den]
def mread_fun (u0 : Message) (u1 : Frame) (hpre : isBytes u1.Data) (ao1 : Option Addr) (cap2 : Nat) (ao4 : Option Addr) (cap5 : Nat) (Z : Fz) (w : World) (hs3 : SlR tySignal Z ao1 cap2 u0.Signals) (hs6 : SlR t8 Z ao4 cap5 u1.Data) (hZ : Z.on w) := fc_ (mread_walk u0 u1 ao1 cap2 ao4 cap5 Z w hs3 hs6 hZ (mread_ok u0 u1 hpre))
def mwrite_fun (u0 : Message) (u1 : List Reading) (ao1 : Option Addr) (cap2 : Nat) (ao4 : Option Addr) (cap5 : Nat) (Z : Fz) (w : World) (hs3 : SlR tySignal Z ao1 cap2 u0.Signals) (hs6 : SlR tyReading Z ao4 cap5 u1) (hZ : Z.on w) := fc_ (mwrite_walk u0 u1 ao1 cap2 ao4 cap5 Z w hs3 hs6 hZ (mwrite_ok u0 u1))
theorem req_walk (u0 : List Reading) (u1 : List Reading) (ao1 : Option Addr) (cap2 : Nat) (ao4 : Option Addr) (cap5 : Nat) (Z : Fz) (w : World) (hs3 : SlR tyReading Z ao1 cap2 u0) (hs6 : SlR tyReading Z ao4 cap5 u1) (hZ : Z.on w) {K : Bool → Prop} (hp : req_vc u0 u1 K) : Calls Tryz.prog 11 #[.slice ao1 u0.length cap2, .slice ao4 u1.length cap5] w fun e w' => ∃ r : Bool, e = .returned (.bool r) ∧ K r ∧ Below w.heap.size w w' := by
 refine enter0 Tryz.func11 rfl rfl (by kernel_rfl) ?_; intro a0 B; have f := Mem.start w Z hZ
 have n := hp (hs3.small) (hs6.small)
 refine sqB B f [] [] [] ?_; intro aF D
 refine s_ (sqB D f [] [] [(10, .bool ((u0.length : Int) != (u1.length : Int)))] ?_); intro aG i
 refine cd i (t := (u0.length : Int) != (u1.length : Int)) (by kernel_rfl) (fun u => ?_) (fun u => ?_)
 · -- yes
  have Y := n.1 u
  refine sqB i f [] [] [(4, .bool false)] ?_; intro aH aa
  exact r_ (h_ (ra1 aa (.bool false) ⟨false, rfl, Y, f.below⟩))
 · -- no
  have ab := n.2 u
  refine k_ (s_ (sqB i f [] [] [(12, i6 (u0.length : Int)), (13, i6 0)] ?_)); intro E F
  apply b_
  have G : Fr 26 [] [⟨0, [], .slice ao1 u0.length cap2⟩, ⟨1, [], .slice ao4 u1.length cap5⟩, ⟨12, [], i6 (u0.length : Int)⟩, ⟨13, [], i6 0⟩] E := F.reg
  obtain ⟨ac, ad, ae, af⟩ := ab
  refine lp (ι := Int) (fun s => [⟨0, [], .slice ao1 u0.length cap2⟩, ⟨1, [], .slice ao4 u1.length cap5⟩, ⟨12, [], i6 (u0.length : Int)⟩, ⟨13, [], i6 s⟩]) (fun s => []) (fun s => Z) (fun s => ac s) (fun s => ad s) 0 ae (by exact G.region (by kernel_rfl) (by kernel_rfl)) (by exact f) ?_
  rintro d ag ah ai I J
  have o := af d ag
  refine sqB I J [] [] [(14, .bool (decide (d < (u0.length : Int))))] ?_; intro aI j
  apply s_
  refine cd j (t := decide (d < (u0.length : Int))) (by kernel_rfl) (fun v => ?_) (fun v => ?_)
  · -- yes
   have aj := o.1 v
   refine k_ (s_ (b_ (sqB j J [] [] [(5, i6 d)] ?_))); intro ak M
   have N : Fr 26 [] [⟨0, [], .slice ao1 u0.length cap2⟩, ⟨1, [], .slice ao4 u1.length cap5⟩, ⟨5, [], i6 d⟩, ⟨12, [], i6 (u0.length : Int)⟩, ⟨13, [], i6 d⟩] ak := M.reg
   refine sqQH mixed (by kernel_rfl) J ?_; intro al O
   refine q1 N 16 (.slice ao1 u0.length cap2) ?_; intro aJ P
   refine q1 P 17 (i6 d) ?_; intro aK Q
   obtain ⟨am, R⟩ := aj
   refine qx_ Q hs3 d am .i64 37 32 ?_; intro aL aM an a aN ao ap aq x
   have ar := R a ao
   obtain rfl : an = ((e37Me a) : List Value) := aq
   refine qu_ x (.agg (e37Me a).toArray) (fun v81 hC => lza x hC.fz ap 0 (g := []) (m := 3) (vs := (e37Me a)) rfl (by kernel_rfl) (by kernel_rfl) (by kernel_rfl) (by kernel_rfl) rfl) ?_; intro aO S
   refine q1 S 20 (.slice ao4 u1.length cap5) ?_; intro aP U
   refine q1 U 21 (i6 d) ?_; intro aQ V
   obtain ⟨au, W⟩ := ar
   refine qx_ V hs6 d au .i64 37 32 ?_; intro aR aS av c aT aw ax ay y
   have p := W c aw
   obtain rfl : av = ((e37Me c) : List Value) := ay
   refine qu_ y (.agg (e37Me c).toArray) (fun v103 hC => lza y hC.fz ax 0 (g := []) (m := 3) (vs := (e37Me c)) rfl (by kernel_rfl) (by kernel_rfl) (by kernel_rfl) (by kernel_rfl) rfl) ?_; intro aU z
   refine qu_ z (.bool (!((a.Name == c.Name) && ((a.Num == c.Num) && ((a.Den == c.Den) && true))))) (fun v106 hC => nes_run z (g := []) (xs := (e37Me a).toArray) (ys := (e37Me c).toArray) (b := (a.Name == c.Name) && ((a.Num == c.Num) && ((a.Den == c.Den) && true))) rfl (by kernel_rfl) (by kernel_rfl) (by kernel_rfl) (by kernel_rfl) rfl) ?_; intro aV l
   refine qnl (O _ ?_); intro aW q
   refine cd l (t := !((a.Name == c.Name) && ((a.Num == c.Num) && ((a.Den == c.Den) && true)))) (by kernel_rfl) (fun A => ?_) (fun A => ?_)
   · -- yes
    have az := p.1 A
    refine sqB l q [] [] [(4, .bool false)] ?_; intro aX aA
    exact r_ (i_ (h_ (h_ (i_ (h_ (ra1 aA (.bool false) ⟨false, rfl, az, q.below⟩))))))
   · -- no
    have X := p.2 A
    refine l_ (j_ (t_ (rgB l q [] [] [(13, i6 (w64 (d + 1)))] ?_))); intro aY aB
    exact d_ ⟨w64 (d + 1), X.1, X.2, (aB.region (by kernel_rfl) (by kernel_rfl)).anyβ _ (by kernel_rfl), q.kp⟩
  · -- no
   have aC := o.2 v
   refine x_ (y_ (y_ (z_ (t_ (sqB j J [] [] [(4, .bool true)] ?_))))); intro aZ aD
   exact r_ (ra1 aD (.bool true) ⟨true, rfl, aC, J.below⟩)
theorem eng1_walk (u0 : List UInt8) (u1 : Int) (u2 : Int)  (Z : Fz) (w : World)  (hZ : Z.on w) {K : Signal → Prop} (hp : eng1_vc u0 u1 u2 K) : Calls Tryz.prog 68 #[str u0, i6 u1, i6 u2] w fun e w' => ∃ r : Signal, e = .returned (.agg #[str r.Name, i6 r.Start, i6 r.Size, .bool r.Back, .bool r.Signed, i6 r.Mul, i6 r.Div, i6 r.Add, i6 r.Key]) ∧ K r ∧ Below w.heap.size w w' := by
 refine enter0 Tryz.func68 rfl rfl (by kernel_rfl) ?_; intro q f; have g := Mem.start w Z hZ
 refine sqH ?_; intro n h
 refine nw f g pb [str [], i6 0, i6 0, .bool false, .bool false, i6 0, i6 0, i6 0, i6 0] 46 ?_; intro a t u i c
 apply h
 refine sqH ?_; intro o j
 refine bt i c 4 [] [] [(10, .agg #[str u0, i6 u1, i6 8, .bool false, .bool false, i6 1, i6 1, i6 0, i6 u2])] ?_; intro x d
 refine sx d c 0 [str u0, i6 u1, i6 8, .bool false, .bool false, i6 1, i6 1, i6 0, i6 u2] 0 ?_; intro p l
 have m : Mem w.heap.size [] w Z [.row a [str u0, i6 u1, i6 8, .bool false, .bool false, i6 1, i6 1, i6 0, i6 u2] 46] Z p := l
 apply j
 refine r_ (rt (fn := Tryz.f68) (v := .agg #[str u0, i6 u1, i6 8, .bool false, .bool false, i6 1, i6 1, i6 0, i6 u2]) d (re1c d (fn := Tryz.f68) rfl (ad := ⟨a, 0, none⟩) (by kernel_rfl) (loadVar_run m 0 (b := a) (k := 9) (vs := [str u0, i6 u1, i6 8, .bool false, .bool false, i6 1, i6 1, i6 0, i6 u2]) (ty := 46) rfl (by kernel_rfl) (by kernel_rfl)) ) ?_)
 exact ⟨(⟨u0, u1, 8, false, false, 1, 1, 0, u2⟩ : Signal), rfl, hp, m.below⟩
def eng1_fun (u0 : List UInt8) (u1 : Int) (u2 : Int)  (Z : Fz) (w : World)  (hZ : Z.on w) := f_ (eng1_walk u0 u1 u2  Z w  hZ (eng1_ok u0 u1 u2))
theorem engine_walk   (Z : Fz) (w : World)  (hZ : Z.on w) {K : Message → Prop} (hp : engine_vc  K) : Calls Tryz.prog 31 #[] w fun e w' => ∃ (r : Message) (ao1001 : Option Addr) (cap1002 : Nat) (Z' : Fz), e = .returned (.agg #[i6 r.ID, .bool r.Long, str r.Name, i6 r.Size, i6 r.Chooser, .slice ao1001 r.Signals.length cap1002]) ∧ K r ∧ SlR tySignal Z' ao1001 cap1002 r.Signals ∧ Mem w.heap.size [] w Z [] Z' w' := by
 refine enter0 Tryz.func31 rfl rfl (by kernel_rfl) ?_; intro P j; have l := Mem.start w Z hZ
 refine sqH ?_; intro J n
 refine nw j l pb [i6 0, .bool false, str [], i6 0, i6 0, .slice none 0 0] 24 ?_; intro c Q R o d
 apply n
 refine sqB o d [] [] [(1, .func (.func 68) #[] #[])] ?_; intro S p
 refine sqH ?_; intro L q
 refine s1 p 2 (.func (.func 68) #[] #[]) ?_; intro U s
 refine fc s d (eng1_fun ([119, 104, 105, 99, 104] : List UInt8) 0 (-1) _ _ d.fz) ?_; intro V W t f
 refine s1 t 4 (.func (.func 68) #[] #[]) ?_; intro X u
 refine fc u f (eng1_fun ([104, 101, 97, 116] : List UInt8) 8 0 _ _ f.fz) ?_; intro Y aa y g
 refine s1 y 6 (.func (.func 68) #[] #[]) ?_; intro ab z
 refine fc z g (eng1_fun ([108, 111, 97, 100] : List UInt8) 8 1 _ _ g.fz) ?_; intro ac ae A B
 refine nw A B (fun b => .slice (sm b) 3 3) [str (eng1 ([119, 104, 105, 99, 104] : List UInt8) 0 (-1)).Name, i6 (eng1 ([119, 104, 105, 99, 104] : List UInt8) 0 (-1)).Start, i6 (eng1 ([119, 104, 105, 99, 104] : List UInt8) 0 (-1)).Size, .bool (eng1 ([119, 104, 105, 99, 104] : List UInt8) 0 (-1)).Back, .bool (eng1 ([119, 104, 105, 99, 104] : List UInt8) 0 (-1)).Signed, i6 (eng1 ([119, 104, 105, 99, 104] : List UInt8) 0 (-1)).Mul, i6 (eng1 ([119, 104, 105, 99, 104] : List UInt8) 0 (-1)).Div, i6 (eng1 ([119, 104, 105, 99, 104] : List UInt8) 0 (-1)).Add, i6 (eng1 ([119, 104, 105, 99, 104] : List UInt8) 0 (-1)).Key, str (eng1 ([104, 101, 97, 116] : List UInt8) 8 0).Name, i6 (eng1 ([104, 101, 97, 116] : List UInt8) 8 0).Start, i6 (eng1 ([104, 101, 97, 116] : List UInt8) 8 0).Size, .bool (eng1 ([104, 101, 97, 116] : List UInt8) 8 0).Back, .bool (eng1 ([104, 101, 97, 116] : List UInt8) 8 0).Signed, i6 (eng1 ([104, 101, 97, 116] : List UInt8) 8 0).Mul, i6 (eng1 ([104, 101, 97, 116] : List UInt8) 8 0).Div, i6 (eng1 ([104, 101, 97, 116] : List UInt8) 8 0).Add, i6 (eng1 ([104, 101, 97, 116] : List UInt8) 8 0).Key, str (eng1 ([108, 111, 97, 100] : List UInt8) 8 1).Name, i6 (eng1 ([108, 111, 97, 100] : List UInt8) 8 1).Start, i6 (eng1 ([108, 111, 97, 100] : List UInt8) 8 1).Size, .bool (eng1 ([108, 111, 97, 100] : List UInt8) 8 1).Back, .bool (eng1 ([108, 111, 97, 100] : List UInt8) 8 1).Signed, i6 (eng1 ([108, 111, 97, 100] : List UInt8) 8 1).Mul, i6 (eng1 ([108, 111, 97, 100] : List UInt8) 8 1).Div, i6 (eng1 ([108, 111, 97, 100] : List UInt8) 8 1).Add, i6 (eng1 ([108, 111, 97, 100] : List UInt8) 8 1).Key] 46 ?_; intro a af ag C D
 refine s1 C 9 (.agg #[i6 100, .bool false, str ([101, 110, 103, 105, 110, 101] : List UInt8), i6 2, i6 0, .slice (sm a) 3 3]) ?_; intro ah h
 refine sx h D 1 [i6 100, .bool false, str ([101, 110, 103, 105, 110, 101] : List UInt8), i6 2, i6 0, .slice (sm a) 3 3] 0 ?_; intro i E
 have F : Mem w.heap.size [] w Z [.row a [str (eng1 ([119, 104, 105, 99, 104] : List UInt8) 0 (-1)).Name, i6 (eng1 ([119, 104, 105, 99, 104] : List UInt8) 0 (-1)).Start, i6 (eng1 ([119, 104, 105, 99, 104] : List UInt8) 0 (-1)).Size, .bool (eng1 ([119, 104, 105, 99, 104] : List UInt8) 0 (-1)).Back, .bool (eng1 ([119, 104, 105, 99, 104] : List UInt8) 0 (-1)).Signed, i6 (eng1 ([119, 104, 105, 99, 104] : List UInt8) 0 (-1)).Mul, i6 (eng1 ([119, 104, 105, 99, 104] : List UInt8) 0 (-1)).Div, i6 (eng1 ([119, 104, 105, 99, 104] : List UInt8) 0 (-1)).Add, i6 (eng1 ([119, 104, 105, 99, 104] : List UInt8) 0 (-1)).Key, str (eng1 ([104, 101, 97, 116] : List UInt8) 8 0).Name, i6 (eng1 ([104, 101, 97, 116] : List UInt8) 8 0).Start, i6 (eng1 ([104, 101, 97, 116] : List UInt8) 8 0).Size, .bool (eng1 ([104, 101, 97, 116] : List UInt8) 8 0).Back, .bool (eng1 ([104, 101, 97, 116] : List UInt8) 8 0).Signed, i6 (eng1 ([104, 101, 97, 116] : List UInt8) 8 0).Mul, i6 (eng1 ([104, 101, 97, 116] : List UInt8) 8 0).Div, i6 (eng1 ([104, 101, 97, 116] : List UInt8) 8 0).Add, i6 (eng1 ([104, 101, 97, 116] : List UInt8) 8 0).Key, str (eng1 ([108, 111, 97, 100] : List UInt8) 8 1).Name, i6 (eng1 ([108, 111, 97, 100] : List UInt8) 8 1).Start, i6 (eng1 ([108, 111, 97, 100] : List UInt8) 8 1).Size, .bool (eng1 ([108, 111, 97, 100] : List UInt8) 8 1).Back, .bool (eng1 ([108, 111, 97, 100] : List UInt8) 8 1).Signed, i6 (eng1 ([108, 111, 97, 100] : List UInt8) 8 1).Mul, i6 (eng1 ([108, 111, 97, 100] : List UInt8) 8 1).Div, i6 (eng1 ([108, 111, 97, 100] : List UInt8) 8 1).Add, i6 (eng1 ([108, 111, 97, 100] : List UInt8) 8 1).Key] 46, .row c [i6 100, .bool false, str ([101, 110, 103, 105, 110, 101] : List UInt8), i6 2, i6 0, .slice (sm a) 3 3] 24] Z i := E
 apply q
 apply r_
 have M : Mem w.heap.size [] w Z [.own tySignal 46 (sm a) 3 ([(eng1 ([119, 104, 105, 99, 104] : List UInt8) 0 (-1)), (eng1 ([104, 101, 97, 116] : List UInt8) 8 0), (eng1 ([108, 111, 97, 100] : List UInt8) 8 1)] : List Signal), .row c [i6 100, .bool false, str ([101, 110, 103, 105, 110, 101] : List UInt8), i6 2, i6 0, .slice (sm a) 3 3] 24] Z i := F.rowOwn (T := tySignal) (xs := ([(eng1 ([119, 104, 105, 99, 104] : List UInt8) 0 (-1)), (eng1 ([104, 101, 97, 116] : List UInt8) 8 0), (eng1 ([108, 111, 97, 100] : List UInt8) 8 1)] : List Signal)) 0 rfl (by decide) (by show 3 ≤ lim; decide) ((RepAll.one (T := tySignal) (x := (eng1 ([119, 104, 105, 99, 104] : List UInt8) 0 (-1))) rfl).append ((RepAll.one (T := tySignal) (x := (eng1 ([104, 101, 97, 116] : List UInt8) 8 0)) rfl).append (RepAll.one (T := tySignal) (x := (eng1 ([108, 111, 97, 100] : List UInt8) 8 1)) rfl)))
 obtain ⟨G, N, H, O⟩ := M.freeze 0 rfl
 have I : Mem w.heap.size [] w Z [.row c [i6 100, .bool false, str ([101, 110, 103, 105, 110, 101] : List UInt8), i6 2, i6 0, .slice (sm a) 3 3] 24] G i := H
 refine rt (fn := Tryz.f31) (v := .agg #[i6 100, .bool false, str ([101, 110, 103, 105, 110, 101] : List UInt8), i6 2, i6 0, .slice (sm a) ([(eng1 ([119, 104, 105, 99, 104] : List UInt8) 0 (-1)), (eng1 ([104, 101, 97, 116] : List UInt8) 8 0), (eng1 ([108, 111, 97, 100] : List UInt8) 8 1)] : List Signal).length 3]) h (re1c h (fn := Tryz.f31) rfl (ad := ⟨c, 0, none⟩) (by kernel_rfl) (loadVar_run I 0 (b := c) (k := 6) (vs := [i6 100, .bool false, str ([101, 110, 103, 105, 110, 101] : List UInt8), i6 2, i6 0, .slice (sm a) 3 3]) (ty := 24) rfl (by kernel_rfl) (by kernel_rfl)) ) ?_
 exact ⟨(⟨100, false, ([101, 110, 103, 105, 110, 101] : List UInt8), 2, 0, ([(eng1 ([119, 104, 105, 99, 104] : List UInt8) 0 (-1)), (eng1 ([104, 101, 97, 116] : List UInt8) 8 0), (eng1 ([108, 111, 97, 100] : List UInt8) 8 1)] : List Signal)⟩ : Message), (sm a), 3, G, rfl, hp, O, I.kp⟩
def engine_fun   (Z : Fz) (w : World)  (hZ : Z.on w) := fc_ (engine_walk   Z w  hZ (engine_ok ))
end Go.Proofs.YtdndfbamhnchfaaGreatDoor
