/- Texts put together (pure ones, or walks made by program). -/
import Derived.Test.YtdndfbamhnchfaaGreatDoorMW0
import Derived.Test.YtdndfbamhnchfaaGreatDoorMW1
import Derived.Test.YtdndfbamhnchfaaGreatDoorMW2
import Derived.Test.YtdndfbamhnchfaaGreatDoorRows
import Derived.Shelf.Lay
import Derived.Ground.NamesProg
import Derived.Shelf.Sort.Plain
import Derived.Shelf.Slices.In.SortNone
set_option linter.unusedVariables false
set_option linter.unusedSimpArgs false
set_option maxRecDepth 100000
set_option maxHeartbeats 0
namespace Go.Proofs.YtdndfbamhnchfaaGreatDoor
open Go.Sy Go.RowKit
abbrev e46Z (X : Signal) : List Value := [str X.Name, i6 X.Start, i6 X.Size, .bool X.Back, .bool X.Signed, i6 X.Mul, i6 X.Div, i6 X.Add, i6 X.Key]
theorem mixed : Tryz.prog.follows .mixedOrders = true := by kernel_rfl
theorem rdSignal : Rd Tryz.prog 46 tySignal okSignal := by
 refine ⟨fun enc w fuel cs x h hw => ?_⟩
 have hu : Tryz.prog.underlying 46 = some (.struct _) := Tryz.underlying46
 have hl := rd_len hu h (m := 9) (by kernel_rfl)
 obtain ⟨j, n, o⟩ := rd_field hu h hw 0 rfl (rd_str (P := Tryz.prog) (t := 9) (by kernel_rfl)) (m := 1) (by kernel_rfl) (off := 0) rfl
 have p : (cs.drop 0).take 1 = [str j] := n
 obtain ⟨i, q, r⟩ := rd_field hu h hw 1 rfl (rd_int (P := Tryz.prog) (t := 3) (k := .i64) (by kernel_rfl)) (m := 1) (by kernel_rfl) (off := 1) rfl
 have s : (cs.drop 1).take 1 = [i6 i] := q
 obtain ⟨g, u, v⟩ := rd_field hu h hw 2 rfl (rd_int (P := Tryz.prog) (t := 3) (k := .i64) (by kernel_rfl)) (m := 1) (by kernel_rfl) (off := 2) rfl
 have y : (cs.drop 2).take 1 = [i6 g] := u
 obtain ⟨f, A, B⟩ := rd_field hu h hw 3 rfl (rd_bool (P := Tryz.prog) (t := 4) (by kernel_rfl)) (m := 1) (by kernel_rfl) (off := 3) rfl
 have C : (cs.drop 3).take 1 = [.bool f] := A
 obtain ⟨e, D, E⟩ := rd_field hu h hw 4 rfl (rd_bool (P := Tryz.prog) (t := 4) (by kernel_rfl)) (m := 1) (by kernel_rfl) (off := 4) rfl
 have F : (cs.drop 4).take 1 = [.bool e] := D
 obtain ⟨d, G, H⟩ := rd_field hu h hw 5 rfl (rd_int (P := Tryz.prog) (t := 3) (k := .i64) (by kernel_rfl)) (m := 1) (by kernel_rfl) (off := 5) rfl
 have I : (cs.drop 5).take 1 = [i6 d] := G
 obtain ⟨c, J, K⟩ := rd_field hu h hw 6 rfl (rd_int (P := Tryz.prog) (t := 3) (k := .i64) (by kernel_rfl)) (m := 1) (by kernel_rfl) (off := 6) rfl
 have L : (cs.drop 6).take 1 = [i6 c] := J
 obtain ⟨b, M, N⟩ := rd_field hu h hw 7 rfl (rd_int (P := Tryz.prog) (t := 3) (k := .i64) (by kernel_rfl)) (m := 1) (by kernel_rfl) (off := 7) rfl
 have O : (cs.drop 7).take 1 = [i6 b] := M
 obtain ⟨a, Q, R⟩ := rd_field hu h hw 8 rfl (rd_int (P := Tryz.prog) (t := 3) (k := .i64) (by kernel_rfl)) (m := 1) (by kernel_rfl) (off := 8) rfl
 have S : (cs.drop 8).take 1 = [i6 a] := Q
 have z : cs.drop 9 = [] := List.drop_eq_nil_of_le (by omega)
 have T : cs.drop 8 = [i6 a] := by rw [show cs.drop 8 = (cs.drop 8).take 1 ++ cs.drop 9 from cut_at cs 8 1, S, z]; rfl
 have U : cs.drop 7 = [i6 b, i6 a] := by rw [show cs.drop 7 = (cs.drop 7).take 1 ++ cs.drop 8 from cut_at cs 7 1, O, T]; rfl
 have V : cs.drop 6 = [i6 c, i6 b, i6 a] := by rw [show cs.drop 6 = (cs.drop 6).take 1 ++ cs.drop 7 from cut_at cs 6 1, L, U]; rfl
 have W : cs.drop 5 = [i6 d, i6 c, i6 b, i6 a] := by rw [show cs.drop 5 = (cs.drop 5).take 1 ++ cs.drop 6 from cut_at cs 5 1, I, V]; rfl
 have X : cs.drop 4 = [.bool e, i6 d, i6 c, i6 b, i6 a] := by rw [show cs.drop 4 = (cs.drop 4).take 1 ++ cs.drop 5 from cut_at cs 4 1, F, W]; rfl
 have Y : cs.drop 3 = [.bool f, .bool e, i6 d, i6 c, i6 b, i6 a] := by rw [show cs.drop 3 = (cs.drop 3).take 1 ++ cs.drop 4 from cut_at cs 3 1, C, X]; rfl
 have Z : cs.drop 2 = [i6 g, .bool f, .bool e, i6 d, i6 c, i6 b, i6 a] := by rw [show cs.drop 2 = (cs.drop 2).take 1 ++ cs.drop 3 from cut_at cs 2 1, y, Y]; rfl
 have g1 : cs.drop 1 = [i6 i, i6 g, .bool f, .bool e, i6 d, i6 c, i6 b, i6 a] := by rw [show cs.drop 1 = (cs.drop 1).take 1 ++ cs.drop 2 from cut_at cs 1 1, s, Z]; rfl
 have l : cs.drop 0 = [str j, i6 i, i6 g, .bool f, .bool e, i6 d, i6 c, i6 b, i6 a] := by rw [show cs.drop 0 = (cs.drop 0).take 1 ++ cs.drop 1 from cut_at cs 0 1, p, g1]; rfl
 refine ⟨⟨j, i, g, f, e, d, c, b, a⟩, ?_, o, r, v, B, E, H, K, N, R⟩
 rw [List.drop_zero] at l
 exact l
theorem rdReading : Rd Tryz.prog 37 tyReading okReading := by
 refine ⟨fun enc w fuel cs x h hw => ?_⟩
 have hu : Tryz.prog.underlying 37 = some (.struct _) := Tryz.underlying37
 have hl := rd_len hu h (m := 3) (by kernel_rfl)
 obtain ⟨c, e, f⟩ := rd_field hu h hw 0 rfl (rd_str (P := Tryz.prog) (t := 9) (by kernel_rfl)) (m := 1) (by kernel_rfl) (off := 0) rfl
 have g : (cs.drop 0).take 1 = [str c] := e
 obtain ⟨b, i, j⟩ := rd_field hu h hw 1 rfl (rd_int (P := Tryz.prog) (t := 3) (k := .i64) (by kernel_rfl)) (m := 1) (by kernel_rfl) (off := 1) rfl
 have l : (cs.drop 1).take 1 = [i6 b] := i
 obtain ⟨a, n, o⟩ := rd_field hu h hw 2 rfl (rd_int (P := Tryz.prog) (t := 3) (k := .i64) (by kernel_rfl)) (m := 1) (by kernel_rfl) (off := 2) rfl
 have p : (cs.drop 2).take 1 = [i6 a] := n
 have z : cs.drop 3 = [] := List.drop_eq_nil_of_le (by omega)
 have q : cs.drop 2 = [i6 a] := by rw [show cs.drop 2 = (cs.drop 2).take 1 ++ cs.drop 3 from cut_at cs 2 1, p, z]; rfl
 have r : cs.drop 1 = [i6 b, i6 a] := by rw [show cs.drop 1 = (cs.drop 1).take 1 ++ cs.drop 2 from cut_at cs 1 1, l, q]; rfl
 have d : cs.drop 0 = [str c, i6 b, i6 a] := by rw [show cs.drop 0 = (cs.drop 0).take 1 ++ cs.drop 1 from cut_at cs 0 1, g, r]; rfl
 refine ⟨⟨c, b, a⟩, ?_, f, j, o⟩
 rw [List.drop_zero] at d
 exact d
theorem rdMessage : Rd Tryz.prog 24 tyMessage okMessage := by
 refine ⟨fun enc w fuel cs x h hw => ?_⟩
 have hu : Tryz.prog.underlying 24 = some (.struct _) := Tryz.underlying24
 have hl := rd_len hu h (m := 6) (by kernel_rfl)
 obtain ⟨j, o, p⟩ := rd_field hu h hw 0 rfl (rd_int (P := Tryz.prog) (t := 3) (k := .i64) (by kernel_rfl)) (m := 1) (by kernel_rfl) (off := 0) rfl
 have q : (cs.drop 0).take 1 = [i6 j] := o
 obtain ⟨i, r, s⟩ := rd_field hu h hw 1 rfl (rd_bool (P := Tryz.prog) (t := 4) (by kernel_rfl)) (m := 1) (by kernel_rfl) (off := 1) rfl
 have u : (cs.drop 1).take 1 = [.bool i] := r
 obtain ⟨g, v, y⟩ := rd_field hu h hw 2 rfl (rd_str (P := Tryz.prog) (t := 9) (by kernel_rfl)) (m := 1) (by kernel_rfl) (off := 2) rfl
 have A : (cs.drop 2).take 1 = [str g] := v
 obtain ⟨f, B, C⟩ := rd_field hu h hw 3 rfl (rd_int (P := Tryz.prog) (t := 3) (k := .i64) (by kernel_rfl)) (m := 1) (by kernel_rfl) (off := 3) rfl
 have D : (cs.drop 3).take 1 = [i6 f] := B
 obtain ⟨d, E, F⟩ := rd_field hu h hw 4 rfl (rd_int (P := Tryz.prog) (t := 3) (k := .i64) (by kernel_rfl)) (m := 1) (by kernel_rfl) (off := 4) rfl
 have G : (cs.drop 4).take 1 = [i6 d] := E
 obtain ⟨a, l, H⟩ := rd_field hu h hw 5 rfl (rd_slice (P := Tryz.prog) (t := 22) (e := 46) (bytes := 72) (by kernel_rfl) rdSignal) (m := 1) (by kernel_rfl) (off := 5) rfl
 obtain ⟨b, c, l, I⟩ := l
 have J : (cs.drop 5).take 1 = [.slice b a.length c] := l
 have z : cs.drop 6 = [] := List.drop_eq_nil_of_le (by omega)
 have K : cs.drop 5 = [.slice b a.length c] := by rw [show cs.drop 5 = (cs.drop 5).take 1 ++ cs.drop 6 from cut_at cs 5 1, J, z]; rfl
 have L : cs.drop 4 = [i6 d, .slice b a.length c] := by rw [show cs.drop 4 = (cs.drop 4).take 1 ++ cs.drop 5 from cut_at cs 4 1, G, K]; rfl
 have M : cs.drop 3 = [i6 f, i6 d, .slice b a.length c] := by rw [show cs.drop 3 = (cs.drop 3).take 1 ++ cs.drop 4 from cut_at cs 3 1, D, L]; rfl
 have N : cs.drop 2 = [str g, i6 f, i6 d, .slice b a.length c] := by rw [show cs.drop 2 = (cs.drop 2).take 1 ++ cs.drop 3 from cut_at cs 2 1, A, M]; rfl
 have O : cs.drop 1 = [.bool i, str g, i6 f, i6 d, .slice b a.length c] := by rw [show cs.drop 1 = (cs.drop 1).take 1 ++ cs.drop 2 from cut_at cs 1 1, u, N]; rfl
 have n : cs.drop 0 = [i6 j, .bool i, str g, i6 f, i6 d, .slice b a.length c] := by rw [show cs.drop 0 = (cs.drop 0).take 1 ++ cs.drop 1 from cut_at cs 0 1, q, O]; rfl
 refine ⟨⟨j, i, g, f, d, a⟩, ?_, p, s, y, C, F, H⟩
 rw [List.drop_zero] at n
 exact ⟨b, c, n, I⟩
theorem sname_walk (u0 : List UInt8)  (Z : Fz) (w : World)  (hZ : Z.on w) {K : Bool → Prop} (hp : sname_vc u0 K) : Calls Tryz.prog 57 #[str u0] w fun e w' => ∃ r : Bool, e = .returned (.bool r) ∧ K r ∧ Below w.heap.size w w' := by
 refine enter0 Tryz.func57 rfl rfl (by kernel_rfl) ?_; intro a0 n; have d := Mem.start w Z hZ
 refine sqB n d [] [] [] ?_; intro a2 o
 refine s_ (sqB o d [] [57] [(12, .bool ((u0 == ([] : List UInt8)) || (decide ((u0.length : Int) > 16))))] ?_); intro af f
 refine c_ f hp (fun _ J => ?_) fun _ M => ?_
 ·
  refine sqB f d [] [] [(2, .bool false)] ?_; intro ag L
  exact r_ (h_ (ra1 L (.bool false) ⟨false, rfl, J, d.below⟩))
 refine k_ (s_ (sqB f d [] [] [(14, i6 (u0.length : Int)), (15, i6 0)] ?_)); intro p u
 apply b_
 have v : Fr 50 [] [⟨0, [], str u0⟩, ⟨14, [], i6 (u0.length : Int)⟩, ⟨15, [], i6 0⟩] p := u.reg
 obtain ⟨N, O, P, Q⟩ := M
 refine lp (ι := Int) (fun s => [⟨0, [], str u0⟩, ⟨14, [], i6 (u0.length : Int)⟩, ⟨15, [], i6 s⟩]) (fun s => []) (fun s => Z) (fun s => N s) (fun s => O s) 0 P (by exact v.reg) (by exact d) ?_
 rintro b R S T y z
 have i := Q b R
 refine sqB y z [] [] [(16, .bool (decide (b < (u0.length : Int))))] ?_; intro ah g
 refine s_ (c_ g i (fun _ U => ?_) fun _ ac => ?_)
 ·
  refine k_ (s_ (b_ (sqB g z [] [] [(3, i6 b)] ?_))); intro ai B
  refine sqH ?_; intro V C
  refine bt B z 2 [] [] [(18, str u0), (19, i6 b)] ?_; intro aj D
  obtain ⟨W, X⟩ := U
  obtain ⟨a, E⟩ : ∃ q, u0[b.toNat]? = some q := ⟨_, List.getElem?_eq_getElem (by omega)⟩; have j := X a E
  refine si D .i64 W.1 E ?_; intro ak F
  refine s1 F 4 (y8 (a.toNat : Int)) ?_; intro al G
  apply C
  refine sqB G z [] [] [(5, .bool (((decide ((a.toNat : Int) ≥ 97)) && (decide ((a.toNat : Int) ≤ 122))) || ((decide ((a.toNat : Int) ≥ 65)) && (decide ((a.toNat : Int) ≤ 90)))))] ?_; intro am H
  refine sqB H z [] [] [(48, .bool ((!(((decide ((a.toNat : Int) ≥ 97)) && (decide ((a.toNat : Int) ≤ 122))) || ((decide ((a.toNat : Int) ≥ 65)) && (decide ((a.toNat : Int) ≤ 90))))) && (((b == 0) || (decide ((a.toNat : Int) < 48))) || (decide ((a.toNat : Int) > 57)))))] ?_; intro an h
  refine c_ h j (fun _ Y => ?_) fun _ I => ?_
  ·
   refine sqB h z [] [] [(2, .bool false)] ?_; intro ao aa
   exact r_ (i_ (h_ (h_ (i_ (h_ (ra1 aa (.bool false) ⟨false, rfl, Y, z.below⟩))))))
  refine l_ (j_ (t_ (rgB h z [] [] [(15, i6 (w64 (b + 1)))] ?_))); intro ap ab
  exact d_ ⟨w64 (b + 1), I.1, I.2, (ab.reg).anyβ _ (by kernel_rfl), z.kp⟩
 refine x_ (y_ (y_ (z_ (t_ (sqB g z [] [] [(2, .bool true)] ?_))))); intro aq ad
 exact r_ (ra1 ad (.bool true) ⟨true, rfl, ac, z.below⟩)
theorem sgcd_walk (u0 : Int) (u1 : Int)  (Z : Fz) (w : World)  (hZ : Z.on w) {K : Int → Prop} (hp : sgcd_vc u0 u1 K) : Calls Tryz.prog 61 #[i6 u0, i6 u1] w fun e w' => ∃ r : Int, e = .returned (i6 r) ∧ K r ∧ Below w.heap.size w w' := by
 refine enter0 Tryz.func61 rfl rfl (by kernel_rfl) ?_; intro T k; have h := Mem.start w Z hZ
 refine sqB k h [] [] [] ?_; intro l m
 refine s_ (b_ ?_)
 have n : Fr 15 [] [⟨0, [], i6 u0⟩, ⟨1, [], i6 u1⟩] l := m.reg
 obtain ⟨D, E, F, G⟩ := hp
 refine lp (ι := Int × Int) (fun s => [⟨0, [], i6 s.1⟩, ⟨1, [], i6 s.2⟩]) (fun s => []) (fun s => Z) (fun s => D s.1 s.2) (fun s => E s.1 s.2) ⟨u0, u1⟩ F (by exact n.reg) (by exact h) ?_
 rintro ⟨a, b⟩ H I J p q
 have f := G a b H
 refine s_ (sqB p q [] [] [(6, .bool (b != 0))] ?_); intro L d
 refine c_ d f (fun _ M => ?_) fun _ R => ?_
 ·
  refine k_ (b_ ?_)
  have v : Fr 15 [] [⟨0, [], i6 a⟩, ⟨1, [], i6 b⟩] L := d.reg
  refine qrgH mixed (by kernel_rfl) q ?_; intro N x
  refine q1 v 7 (i6 b) ?_; intro V y
  refine q1 y 8 (i6 a) ?_; intro W z
  refine q1 z 9 (i6 b) ?_; intro X j
  obtain ⟨O, A⟩ := M
  refine qu_ j (i6 (a.tmod b)) (fun v36 hC => rem_run j (g := []) rfl (by kernel_rfl) (by kernel_rfl) O rfl) ?_; intro Y B
  refine q1 B 0 (i6 b) ?_; intro aa C
  refine q1 C 1 (i6 (a.tmod b)) ?_; intro ab P
  refine qnl (x _ ?_); intro ac Q
  exact j_ (d_ ⟨⟨b, a.tmod b⟩, A.1, A.2, (P.reg).anyβ _ (by kernel_rfl), Q.kp⟩)
 refine x_ (y_ (y_ (z_ (t_ (sqB d q [] [] [(4, i6 (max a (w64 (0 - a))))] ?_))))); intro ad S
 exact r_ (ra1 S (i6 (max a (w64 (0 - a)))) ⟨max a (w64 (0 - a)), rfl, R, q.below⟩)
theorem imax_walk (u0 : List Int) (ao1 : Option Addr) (cap2 : Nat) (Z : Fz) (w : World) (hs3 : SlR t6 Z ao1 cap2 u0) (hZ : Z.on w) {K : Int → Prop} (hp : imax_vc u0 K) : Calls Tryz.prog 86 #[.slice ao1 u0.length cap2] w fun e w' => ∃ r : Int, e = .returned (i6 r) ∧ K r ∧ Below w.heap.size w w' := by
 refine enter0 Tryz.func86 rfl rfl (by kernel_rfl) ?_; intro a0 o; have f := Mem.start w Z hZ
 have i := hp (hs3.small)
 refine sqB o f [] [] [] ?_; intro a6 p
 refine s_ (sqB p f [] [] [(7, .bool (decide ((u0.length : Int) < 1)))] ?_); intro au l
 refine c_ l i (fun _ P => ?_) fun _ Q => ?_
 ·
  exact False.elim P
 refine k_ (sqH ?_); intro R q
 refine s1 l 9 (.slice ao1 u0.length cap2) ?_; intro av u
 obtain ⟨S, v⟩ := Q
 refine ix_ u hs3 (0 : Int) S .i64 3 8 ?_; intro aw ax U d ay V W X x
 have Y := v d V
 obtain rfl : U = ([i6 d] : List Value) := X
 refine z1 x f 11 W 0 (i6 d) rfl ?_; intro az y
 refine s1 y 3 (i6 d) ?_; intro aA z
 apply q
 refine s_ (sqB z f [] [] [(4, i6 1)] ?_); intro A B
 apply b_
 have C : Fr 25 [] [⟨0, [], .slice ao1 u0.length cap2⟩, ⟨3, [], i6 d⟩, ⟨4, [], i6 1⟩] A := B.reg
 obtain ⟨aa, ab, ac, ad⟩ := Y
 refine lp (ι := Int × Int) (fun s => [⟨0, [], .slice ao1 u0.length cap2⟩, ⟨3, [], i6 s.1⟩, ⟨4, [], i6 s.2⟩]) (fun s => []) (fun s => Z) (fun s => aa s.1 s.2) (fun s => ab s.1 s.2) ⟨d, 1⟩ ac (by exact C.reg) (by exact f) ?_
 rintro ⟨a, b⟩ ae af ag E F
 have j := ad a b ae
 refine s_ (sqB E F [] [] [(15, .bool (decide (b < (u0.length : Int))))] ?_); intro aB g
 refine c_ g j (fun _ ah => ?_) fun _ ap => ?_
 ·
  refine k_ (s_ (b_ (rgH ?_))); intro ai H
  refine bt g F 3 [] [] [(18, i6 a), (19, .slice ao1 u0.length cap2), (20, i6 b)] ?_; intro aC I
  obtain ⟨aj, J⟩ := ah
  refine ix_ I hs3 b aj .i64 3 8 ?_; intro aD aE ak h aF al am an L
  have M := J h al
  obtain rfl : ak = ([i6 h] : List Value) := an
  refine z1 L F 22 am 0 (i6 h) rfl ?_; intro aG N
  refine bt N F 2 [] [] [(3, i6 (max a h))] ?_; intro aH O
  apply H
  refine j_ (t_ (rgB O F [] [] [(4, i6 (w64 (b + 1)))] ?_)); intro aI ao
  exact d_ ⟨⟨max a h, w64 (b + 1)⟩, M.1, M.2, (ao.reg).anyβ _ (by kernel_rfl), F.kp⟩
 refine x_ (y_ (y_ (z_ (t_ (sqB g F [] [] [(2, i6 a)] ?_))))); intro aJ aq
 exact r_ (ra1 aq (i6 a) ⟨a, rfl, ap, F.below⟩)
theorem imin_walk (u0 : List Int) (ao1 : Option Addr) (cap2 : Nat) (Z : Fz) (w : World) (hs3 : SlR t6 Z ao1 cap2 u0) (hZ : Z.on w) {K : Int → Prop} (hp : imin_vc u0 K) : Calls Tryz.prog 87 #[.slice ao1 u0.length cap2] w fun e w' => ∃ r : Int, e = .returned (i6 r) ∧ K r ∧ Below w.heap.size w w' := by
 refine enter0 Tryz.func87 rfl rfl (by kernel_rfl) ?_; intro a0 o; have f := Mem.start w Z hZ
 have i := hp (hs3.small)
 refine sqB o f [] [] [] ?_; intro a6 p
 refine s_ (sqB p f [] [] [(7, .bool (decide ((u0.length : Int) < 1)))] ?_); intro au l
 refine c_ l i (fun _ P => ?_) fun _ Q => ?_
 ·
  exact False.elim P
 refine k_ (sqH ?_); intro R q
 refine s1 l 9 (.slice ao1 u0.length cap2) ?_; intro av u
 obtain ⟨S, v⟩ := Q
 refine ix_ u hs3 (0 : Int) S .i64 3 8 ?_; intro aw ax U d ay V W X x
 have Y := v d V
 obtain rfl : U = ([i6 d] : List Value) := X
 refine z1 x f 11 W 0 (i6 d) rfl ?_; intro az y
 refine s1 y 3 (i6 d) ?_; intro aA z
 apply q
 refine s_ (sqB z f [] [] [(4, i6 1)] ?_); intro A B
 apply b_
 have C : Fr 25 [] [⟨0, [], .slice ao1 u0.length cap2⟩, ⟨3, [], i6 d⟩, ⟨4, [], i6 1⟩] A := B.reg
 obtain ⟨aa, ab, ac, ad⟩ := Y
 refine lp (ι := Int × Int) (fun s => [⟨0, [], .slice ao1 u0.length cap2⟩, ⟨3, [], i6 s.1⟩, ⟨4, [], i6 s.2⟩]) (fun s => []) (fun s => Z) (fun s => aa s.1 s.2) (fun s => ab s.1 s.2) ⟨d, 1⟩ ac (by exact C.reg) (by exact f) ?_
 rintro ⟨a, b⟩ ae af ag E F
 have j := ad a b ae
 refine s_ (sqB E F [] [] [(15, .bool (decide (b < (u0.length : Int))))] ?_); intro aB g
 refine c_ g j (fun _ ah => ?_) fun _ ap => ?_
 ·
  refine k_ (s_ (b_ (rgH ?_))); intro ai H
  refine bt g F 3 [] [] [(18, i6 a), (19, .slice ao1 u0.length cap2), (20, i6 b)] ?_; intro aC I
  obtain ⟨aj, J⟩ := ah
  refine ix_ I hs3 b aj .i64 3 8 ?_; intro aD aE ak h aF al am an L
  have M := J h al
  obtain rfl : ak = ([i6 h] : List Value) := an
  refine z1 L F 22 am 0 (i6 h) rfl ?_; intro aG N
  refine bt N F 2 [] [] [(3, i6 (min a h))] ?_; intro aH O
  apply H
  refine j_ (t_ (rgB O F [] [] [(4, i6 (w64 (b + 1)))] ?_)); intro aI ao
  exact d_ ⟨⟨min a h, w64 (b + 1)⟩, M.1, M.2, (ao.reg).anyβ _ (by kernel_rfl), F.kp⟩
 refine x_ (y_ (y_ (z_ (t_ (sqB g F [] [] [(2, i6 a)] ?_))))); intro aJ aq
 exact r_ (ra1 aq (i6 a) ⟨a, rfl, ap, F.below⟩)
theorem bclone_walk (u0 : List Int) (ao1 : Option Addr) (cap2 : Nat) (Z : Fz) (w : World) (hs3 : SlR t8 Z ao1 cap2 u0) (hZ : Z.on w) {K : (List Int) → Prop} (hp : bclone_vc u0 K) : Calls Tryz.prog 55 #[.slice ao1 u0.length cap2] w fun e w' => ∃ (r : (List Int)) (ao1001 : Option Addr) (cap1002 : Nat) (Z' : Fz), e = .returned (.slice ao1001 r.length cap1002) ∧ K r ∧ Mem w.heap.size [] w Z [.own t8 5 ao1001 cap1002 r] Z' w' := by
 refine enter0 Tryz.func55 rfl rfl (by kernel_rfl) ?_; intro N l; have a := Mem.start w Z hZ
 have m := hp (hs3.small)
 refine sqB l a [] [] [] ?_; intro P n
 refine s_ (sqH ?_); intro A o
 refine s1 n 3 (.slice ao1 u0.length cap2) ?_; intro Q h
 obtain ⟨i, p⟩ : ∃ b, ao1.isNone = b := ⟨_, rfl⟩; have d := m i (by rw [← p]; exact hs3.isNone)
 refine u_ h (.bool i) (re_ (r := .ok (.value (.bool ao1.isNone)) w) (by cases ao1 <;> exact p0 h (by kernel_rfl)) (by rw [p])) ?_; intro R c
 apply o
 refine c_ c d (fun _ B => ?_) fun _ E => ?_
 ·
  refine sqB c a [] [] [(2, .slice none 0 0)] ?_; intro S C
  refine r_ (h_ ?_)
  have D : Mem w.heap.size [] w Z [.own t8 5 none 0 ([] : List Int)] Z w := a.addNil t8 5 (by decide)
  exact ra1 C (.slice none ([] : List Int).length 0) ⟨([] : List Int), none, 0, Z, rfl, B, D.kp⟩
 refine k_ (sqH ?_); intro F q
 refine nw c a (fun b => .slice (sm b) 0 0) [] 5 ?_; intro s U G u v
 refine s1 u 6 (.slice ao1 u0.length cap2) ?_; intro V x
 have k : Mem w.heap.size [] w Z [.own t8 5 (sm s) 0 ([] : List Int)] Z G := v.rowOwn (T := t8) (xs := ([] : List Int)) 0 rfl (by decide) (by show 0 ≤ lim; decide) (RepAll.nil _ _)
 obtain ⟨H, I⟩ := E
 refine ap x k 0 (T := t8) (xs := ([] : List Int)) (ys := u0) (ao := (sm s)) (cap := 0) (ao2 := ao1) (cap2 := cap2) (t := 25) (e := 5) (bytes := 1) (nog rfl _) rfl (by kernel_rfl) rfl (by kernel_rfl) (by kernel_rfl) (by kernel_rfl) rfl (Src.fz (by decide) k.fz hs3) H ?_; intro f g W J X y z
 have L : Mem w.heap.size [] w Z [.own t8 5 f g (([] : List Int) ++ u0)] Z J := z
 refine s1 y 2 (.slice f (([] : List Int) ++ u0).length g) ?_; intro Y M
 apply q
 exact r_ (ra1 M (.slice f (([] : List Int) ++ u0).length g) ⟨([] : List Int) ++ u0, f, g, Z, rfl, I, L.kp⟩)
theorem beq_walk (u0 : List Int) (u1 : List Int) (ao1 : Option Addr) (cap2 : Nat) (ao4 : Option Addr) (cap5 : Nat) (Z : Fz) (w : World) (hs3 : SlR t8 Z ao1 cap2 u0) (hs6 : SlR t8 Z ao4 cap5 u1) (hZ : Z.on w) {K : Bool → Prop} (hp : beq_vc u0 u1 K) : Calls Tryz.prog 32 #[.slice ao1 u0.length cap2, .slice ao4 u1.length cap5] w fun e w' => ∃ r : Bool, e = .returned (.bool r) ∧ K r ∧ Below w.heap.size w w' := by
 refine enter0 Tryz.func32 rfl rfl (by kernel_rfl) ?_; intro a0 y; have b := Mem.start w Z hZ
 have l := hp (hs3.small) (hs6.small)
 refine sqB y b [] [] [] ?_; intro aD A
 refine s_ (sqB A b [] [] [(10, .bool ((u0.length : Int) != (u1.length : Int)))] ?_); intro aE d
 refine c_ d l (fun _ W => ?_) fun _ Y => ?_
 ·
  refine sqB d b [] [] [(4, .bool false)] ?_; intro aF X
  exact r_ (h_ (ra1 X (.bool false) ⟨false, rfl, W, b.below⟩))
 refine k_ (s_ (sqB d b [] [] [(12, i6 (u0.length : Int)), (13, i6 0)] ?_)); intro B C
 apply b_
 have D : Fr 26 [] [⟨0, [], .slice ao1 u0.length cap2⟩, ⟨1, [], .slice ao4 u1.length cap5⟩, ⟨12, [], i6 (u0.length : Int)⟩, ⟨13, [], i6 0⟩] B := C.reg
 obtain ⟨aa, ab, ac, ad⟩ := Y
 refine lp (ι := Int) (fun s => [⟨0, [], .slice ao1 u0.length cap2⟩, ⟨1, [], .slice ao4 u1.length cap5⟩, ⟨12, [], i6 (u0.length : Int)⟩, ⟨13, [], i6 s⟩]) (fun s => []) (fun s => Z) (fun s => aa s) (fun s => ab s) 0 ac (by exact D.reg) (by exact b) ?_
 rintro a ae af ag F G
 have m := ad a ae
 refine sqB F G [] [] [(14, .bool (decide (a < (u0.length : Int))))] ?_; intro aG f
 refine s_ (c_ f m (fun _ ah => ?_) fun _ aA => ?_)
 ·
  refine k_ (s_ (b_ (sqB f G [] [] [(5, i6 a)] ?_))); intro ai I
  have J : Fr 26 [] [⟨0, [], .slice ao1 u0.length cap2⟩, ⟨1, [], .slice ao4 u1.length cap5⟩, ⟨5, [], i6 a⟩, ⟨12, [], i6 (u0.length : Int)⟩, ⟨13, [], i6 a⟩] ai := I.reg
  refine sqQH mixed (by kernel_rfl) G ?_; intro aj L
  refine q1 J 16 (.slice ao1 u0.length cap2) ?_; intro aH M
  refine q1 M 17 (i6 a) ?_; intro aI N
  obtain ⟨ak, O⟩ := ah
  refine qx_ N hs3 a ak .i64 5 1 ?_; intro aJ aK al h aL am an ao u
  have ap := O h am
  obtain rfl : al = ([y8 h] : List Value) := ao
  refine qz_ u an 0 (y8 h) rfl ?_; intro aM P
  refine q1 P 20 (.slice ao4 u1.length cap5) ?_; intro aN Q
  refine q1 Q 21 (i6 a) ?_; intro aO R
  obtain ⟨aq, S⟩ := ap
  refine qx_ R hs6 a aq .i64 5 1 ?_; intro aP aQ ar i aR au av aw v
  have n := S i au
  obtain rfl : ar = ([y8 i] : List Value) := aw
  refine qz_ v av 0 (y8 i) rfl ?_; intro aS U
  refine q1 U 24 (.bool (h != i)) ?_; intro aT j
  refine qnl (L _ ?_); intro aU o
  refine c_ j n (fun _ ax => ?_) fun _ V => ?_
  ·
   refine sqB j o [] [] [(4, .bool false)] ?_; intro aV ay
   exact r_ (i_ (h_ (h_ (i_ (h_ (ra1 ay (.bool false) ⟨false, rfl, ax, o.below⟩))))))
  refine l_ (j_ (t_ (rgB j o [] [] [(13, i6 (w64 (a + 1)))] ?_))); intro aW az
  exact d_ ⟨w64 (a + 1), V.1, V.2, (az.reg).anyβ _ (by kernel_rfl), o.kp⟩
 refine x_ (y_ (y_ (z_ (t_ (sqB f G [] [] [(4, .bool true)] ?_))))); intro aX aB
 exact r_ (ra1 aB (.bool true) ⟨true, rfl, aA, G.below⟩)
theorem sbounds_walk (u0 : Signal)  (Z : Fz) (w : World)  (hZ : Z.on w) {K : (Int × Int) → Prop} (hp : sbounds_vc u0 K) : Calls Tryz.prog 71 #[.agg #[str u0.Name, i6 u0.Start, i6 u0.Size, .bool u0.Back, .bool u0.Signed, i6 u0.Mul, i6 u0.Div, i6 u0.Add, i6 u0.Key]] w fun e w' => ∃ r : Int × Int, e = .returned (.tuple #[i6 r.1, i6 r.2]) ∧ K r ∧ Below w.heap.size w w' := by
 refine enter0 Tryz.func71 rfl rfl (by kernel_rfl) ?_; intro a0 n; have o := Mem.start w Z hZ
 refine sqH ?_; intro J p
 refine nw n o pb (e46Z u0) 46 ?_; intro a a3 ab q c
 refine bt q c 2 [] [] [] ?_; intro a9 s
 apply p
 refine s_ (sqB s c [0] [] [(5, .bool u0.Signed)] ?_); intro u d
 refine c_ d hp (fun _ L => ?_) fun _ T => ?_
 ·
  have v : Fr 19 [] [⟨1, [], pt a 0⟩] u := d.reg
  refine sqQH mixed (by kernel_rfl) c ?_; intro M x
  refine q1 v 6 (pt a 2) ?_; intro ac h
  refine ql_ h 0 2 (i6 u0.Size) rfl rfl ?_; intro ad y
  refine q1 y 8 (i6 (w64 (u0.Size - 1))) ?_; intro ae i
  obtain ⟨N, O⟩ := L
  refine qu_ i (i6 (bShl .i64 (-1) (w64 (u0.Size - 1)))) (fun v29 hC => shl_run i (g := []) (k' := .i64) rfl (by kernel_rfl) (by kernel_rfl) N rfl) ?_; intro af z
  refine q1 z 10 (pt a 2) ?_; intro ag j
  refine ql_ j 0 2 (i6 u0.Size) rfl rfl ?_; intro ah A
  refine q1 A 12 (i6 (w64 (u0.Size - 1))) ?_; intro ai k
  obtain ⟨P, Q⟩ := O
  refine qu_ k (i6 (bShl .i64 1 (w64 (u0.Size - 1)))) (fun v43 hC => shl_run k (g := []) (k' := .i64) rfl (by kernel_rfl) (by kernel_rfl) P rfl) ?_; intro aj B
  refine q1 B 14 (i6 (w64 ((bShl .i64 1 (w64 (u0.Size - 1))) - 1))) ?_; intro ak C
  refine q1 C 2 (i6 (bShl .i64 (-1) (w64 (u0.Size - 1)))) ?_; intro al D
  refine q1 D 3 (i6 (w64 ((bShl .i64 1 (w64 (u0.Size - 1))) - 1))) ?_; intro am R
  refine qnl (x _ ?_); intro an S
  exact r_ (h_ (ra2 R (.tuple #[i6 (bShl .i64 (-1) (w64 (u0.Size - 1))), i6 (w64 ((bShl .i64 1 (w64 (u0.Size - 1))) - 1))]) ⟨(bShl .i64 (-1) (w64 (u0.Size - 1)), w64 ((bShl .i64 1 (w64 (u0.Size - 1))) - 1)), rfl, Q, S.below⟩))
 apply k_
 have E : Fr 19 [] [⟨1, [], pt a 0⟩] u := d.reg
 refine sqQH mixed (by kernel_rfl) c ?_; intro U F
 refine q1 E 15 (pt a 2) ?_; intro ao l
 refine ql_ l 0 2 (i6 u0.Size) rfl rfl ?_; intro ap m
 obtain ⟨V, W⟩ := T
 refine qu_ m (i6 (bShl .i64 1 u0.Size)) (fun v68 hC => shl_run m (g := []) (k' := .i64) rfl (by kernel_rfl) (by kernel_rfl) V rfl) ?_; intro aq G
 refine q1 G 18 (i6 (w64 ((bShl .i64 1 u0.Size) - 1))) ?_; intro ar H
 refine q1 H 2 (i6 0) ?_; intro au I
 refine q1 I 3 (i6 (w64 ((bShl .i64 1 u0.Size) - 1))) ?_; intro av X
 refine qnl (F _ ?_); intro aw Y
 exact r_ (ra2 X (.tuple #[i6 0, i6 (w64 ((bShl .i64 1 u0.Size) - 1))]) ⟨(0, w64 ((bShl .i64 1 u0.Size) - 1)), rfl, W, Y.below⟩)
theorem irev_walk (u0 : List Int) (ao1 : Option Addr) (cap2 : Nat) (B : Nat) (w0 : World) (Z0 : Fz) (Rr : List Res) (Z : Fz) (w : World) (hM0 : Mem B [] w0 Z0 ((.own t6 3 ao1 cap2 u0) :: Rr) Z w) (hZ : Z.on w) {K : (List Int) → Prop} (hp : irev_vc u0 K) : Calls Tryz.prog 90 #[.slice ao1 u0.length cap2] w fun e w' => ∃ (r : (List Int)) (Z' : Fz), e = .returned (.tuple #[]) ∧ K r ∧ Fz.le Z Z' ∧ (r.length = u0.length) ∧ Mem B [] w0 Z0 ((.own t6 3 ao1 cap2 r) :: Rr) Z' w' := by
 refine enter0 Tryz.func90 rfl rfl (by kernel_rfl) ?_; intro a0 aO; have m := Fz.le.refl Z
 have be := hp (hM0.ownSmall 0 rfl)
 refine sqB aO hM0 [] [] [(2, i6 0), (3, i6 (w64 ((u0.length : Int) - 1)))] ?_; intro aP aQ
 apply b_
 have aR : Fr 28 [] [⟨0, [], .slice ao1 u0.length cap2⟩, ⟨2, [], i6 0⟩, ⟨3, [], i6 (w64 ((u0.length : Int) - 1))⟩] aP := aQ.reg
 obtain ⟨bf, bg, bh, bi⟩ := be
 refine lp (ι := Int × Int × (List Int)) (fun s => [⟨0, [], .slice ao1 s.2.2.length cap2⟩, ⟨2, [], i6 s.1⟩, ⟨3, [], i6 s.2.1⟩]) (fun s => ((.own t6 3 ao1 cap2 s.2.2) :: Rr)) (fun s => Z) (fun s => bf s.1 s.2.1 s.2.2) (fun s => bg s.1 s.2.1 s.2.2) ⟨0, w64 ((u0.length : Int) - 1), u0⟩ bh (by exact aR.reg) (by exact hM0) ?_
 rintro ⟨c, d, b⟩ bj bk bl aT aU
 have aI := bi c d b bj
 refine s_ (sqB aT aU [] [] [(9, .bool (decide (c < d)))] ?_); intro ad aG
 refine c_ aG aI (fun _ bm => ?_) fun _ cp => ?_
 ·
  refine k_ (s_ (b_ ?_))
  have bn : Fr 28 [] [⟨0, [], .slice ao1 b.length cap2⟩, ⟨2, [], i6 c⟩, ⟨3, [], i6 d⟩] ad := aG.reg
  obtain ⟨bo, aW⟩ := bm
  obtain ⟨l, bp, bq⟩ := gxq aW (by omega)
  obtain ⟨br, aX⟩ := bq
  obtain ⟨E, bs, bt⟩ := gxq aX (by omega)
  obtain ⟨bu, bv⟩ := bt
  obtain ⟨bw, aY⟩ := bv
  refine any_invE mixed [[], [], [], [], [], [], [4, 5], [6], [], [], [8, 9], [10], [0, 1, 4, 5, 6, 7, 11], [0, 1, 4, 5, 6, 7, 11, 12], [0, 1, 2, 3, 4, 5, 6, 7, 8, 9, 10, 11, 12, 13], [0, 1, 2, 3, 4, 5, 6, 7, 8, 9, 10, 11, 12, 13, 14]] 16 (fun S a w1 => ∃ (y : Nat) (z : Nat) (D : Nat) (F : Nat) (ae : Value) (af : Value) (L : Value) (M : Value) (av : Value) (aw : Value) (ap : Value) (ag : Value) (ax : Value) (ay : Value) (aq : Value) (ah : Value) (aa : Value) (H : Value) (aB : Res), Fz.le Z Z ∧ Fr 28 [] [⟨0, [], .slice ao1 b.length cap2⟩, ⟨2, [], i6 c⟩, ⟨3, [], i6 d⟩, ⟨14, [], ae⟩, ⟨15, [], af⟩, ⟨16, [], L⟩, ⟨17, [], M⟩, ⟨18, [], av⟩, ⟨19, [], aw⟩, ⟨20, [], ap⟩, ⟨21, [], ag⟩, ⟨22, [], ax⟩, ⟨23, [], ay⟩, ⟨24, [], aq⟩, ⟨25, [], ah⟩, ⟨26, [], aa⟩, ⟨27, [], H⟩] a ∧ Mem B [] w0 Z0 (aB :: Rr) Z w1 ∧ (S 0 = true → ae = .slice ao1 b.length cap2) ∧ (S 1 = true → af = i6 c) ∧ (S 2 = true → L = .slice ao1 b.length cap2) ∧ (S 3 = true → M = i6 d) ∧ (S 4 = true → av = .slice ao1 b.length cap2) ∧ (S 5 = true → aw = i6 d) ∧ (S 6 = true → ap = .pointer (some ⟨y, d.toNat * 1, none⟩)) ∧ (S 7 = true → ag = i6 l) ∧ (S 8 = true → ax = .slice ao1 b.length cap2) ∧ (S 9 = true → ay = i6 c) ∧ (S 10 = true → aq = .pointer (some ⟨z, c.toNat * 1, none⟩)) ∧ (S 11 = true → ah = i6 E) ∧ (S 12 = true → aa = .pointer (some ⟨D, c.toNat * 1, none⟩)) ∧ (S 14 = true → H = .pointer (some ⟨F, d.toNat * 1, none⟩)) ∧ (S 13 = false → aB = .own t6 3 ao1 cap2 b) ∧ (S 13 = true → S 15 = false → aB = .own t6 3 ao1 cap2 (b.set c.toNat l)) ∧ (S 15 = true → aB = .own t6 3 ao1 cap2 ((b.set c.toNat l).set d.toNat E)) ∧ (S 6 = true → ao1 = some ⟨y, 0, none⟩) ∧ (S 10 = true → ao1 = some ⟨z, 0, none⟩) ∧ (S 12 = true → ao1 = some ⟨D, 0, none⟩) ∧ (S 14 = true → ao1 = some ⟨F, 0, none⟩)) ?h0 ?hs ?hE
  case h0 =>
   have bx := bn.any 14
   have bz := bx.any 15
   have bA := bz.any 16
   have bB := bA.any 17
   have bC := bB.any 18
   have bD := bC.any 19
   have bE := bD.any 20
   have bF := bE.any 21
   have bG := bF.any 22
   have bH := bG.any 23
   have bI := bH.any 24
   have bJ := bI.any 25
   have bK := bJ.any 26
   have bL := bK.any 27
   have bM := (aU.perm lpr).drew
   exact ⟨0, 0, 0, 0, ad.tmps.getD 14 undef, ad.tmps.getD 15 undef, ad.tmps.getD 16 undef, ad.tmps.getD 17 undef, ad.tmps.getD 18 undef, ad.tmps.getD 19 undef, ad.tmps.getD 20 undef, ad.tmps.getD 21 undef, ad.tmps.getD 22 undef, ad.tmps.getD 23 undef, ad.tmps.getD 24 undef, ad.tmps.getD 25 undef, ad.tmps.getD 26 undef, ad.tmps.getD 27 undef, .own t6 3 ao1 cap2 b, Fz.le.refl _, bL.reg, bM, ff, ff, ff, ff, ff, ff, ff, ff, ff, ff, ff, ff, ff, ff, kf, ff, ff, ff, ff, ff, ff⟩
  case hs =>
   intro S hcl i o hil hi hSi hpre a w1 hI; refine Go.Sy.hid ?_; intro G hG; obtain ⟨y, z, D, F, ae, af, L, M, av, aw, ap, ag, ax, ay, aq, ah, aa, H, aB, n, hFx, hMx, N, O, P, hI⟩ := hI; obtain ⟨Q, R, U, ai, ar, V, W, aj, au, aC, aL, ak, aH, aZ, al, am, aD, hI⟩ := hI; have aM := hI
   have hcase : i = 0 ∨ i = 1 ∨ i = 2 ∨ i = 3 ∨ i = 4 ∨ i = 5 ∨ i = 6 ∨ i = 7 ∨ i = 8 ∨ i = 9 ∨ i = 10 ∨ i = 11 ∨ i = 12 ∨ i = 13 ∨ i = 14 ∨ i = 15 := by clear hi; omega
   rcases hcase with rfl | rfl | rfl | rfl | rfl | rfl | rfl | rfl | rfl | rfl | rfl | rfl | rfl | rfl | rfl | rfl
   ·
    obtain rfl := oj hi
    have az := hSi
    have g := ngF hcl 12 0 az
    have j := ngF hcl 13 0 az
    have f := ngF hcl 14 0 az
    have p := ngF hcl 15 0 az
    obtain rfl := ak j
    refine hG (any_step ?_); intro A J hJ
    refine s1 hFx 14 (.slice ao1 b.length cap2) ?_; intro cs bN
    refine nl (qnI (hJ _ _ ?_))
    exact ⟨y, z, D, F, .slice ao1 b.length cap2, af, L, M, av, aw, ap, ag, ax, ay, aq, ah, aa, H, .own t6 3 ao1 cap2 b, n, bN.reg, hMx.perm lpr, kf, O, P, Q, R, U, ai, ar, V, W, aj, au, (nt g), (nt f), kf, (fun h _ => nt j h), (nt p), al, am, (nt g), (nt f)⟩
   ·
    obtain rfl := oj hi
    have aA := hSi
    have g := ngF hcl 12 1 aA
    have j := ngF hcl 13 1 aA
    have f := ngF hcl 14 1 aA
    have p := ngF hcl 15 1 aA
    obtain rfl := ak j
    refine hG (any_step ?_); intro A J hJ
    refine s1 hFx 15 (i6 c) ?_; intro ct bO
    refine nl (qnI (hJ _ _ ?_))
    exact ⟨y, z, D, F, ae, i6 c, L, M, av, aw, ap, ag, ax, ay, aq, ah, aa, H, .own t6 3 ao1 cap2 b, n, bO.reg, hMx.perm lpr, N, kf, P, Q, R, U, ai, ar, V, W, aj, au, (nt g), (nt f), kf, (fun h _ => nt j h), (nt p), al, am, (nt g), (nt f)⟩
   ·
    obtain rfl := oj hi
    have aE := hSi
    have f := ngF hcl 14 2 aE
    have p := ngF hcl 15 2 aE
    refine hG (any_step ?_); intro A J hJ
    refine s1 hFx 16 (.slice ao1 b.length cap2) ?_; intro cu bP
    refine nl (qnI (hJ _ _ ?_))
    exact ⟨y, z, D, F, ae, af, .slice ao1 b.length cap2, M, av, aw, ap, ag, ax, ay, aq, ah, aa, H, aB, n, bP.reg, hMx.perm lpr, N, O, kf, Q, R, U, ai, ar, V, W, aj, au, aC, (nt f), ak, aH, (nt p), al, am, aD, (nt f)⟩
   ·
    obtain rfl := oj hi
    have aF := hSi
    have f := ngF hcl 14 3 aF
    have p := ngF hcl 15 3 aF
    refine hG (any_step ?_); intro A J hJ
    refine s1 hFx 17 (i6 d) ?_; intro cv bQ
    refine nl (qnI (hJ _ _ ?_))
    exact ⟨y, z, D, F, ae, af, L, i6 d, av, aw, ap, ag, ax, ay, aq, ah, aa, H, aB, n, bQ.reg, hMx.perm lpr, N, O, P, kf, R, U, ai, ar, V, W, aj, au, aC, (nt f), ak, aH, (nt p), al, am, aD, (nt f)⟩
   ·
    obtain rfl := oj hi
    have X := hSi
    have x := ngF hcl 6 4 X
    have I := ngF hcl 7 6 x
    have g := ngF hcl 12 4 X
    have j := ngF hcl 13 4 X
    have f := ngF hcl 14 4 X
    have p := ngF hcl 15 4 X
    obtain rfl := ak j
    refine hG (any_step ?_); intro A J hJ
    refine s1 hFx 18 (.slice ao1 b.length cap2) ?_; intro cw bR
    refine nl (qnI (hJ _ _ ?_))
    exact ⟨y, z, D, F, ae, af, L, M, .slice ao1 b.length cap2, aw, ap, ag, ax, ay, aq, ah, aa, H, .own t6 3 ao1 cap2 b, n, bR.reg, hMx.perm lpr, N, O, P, Q, kf, U, (nt x), (nt I), V, W, aj, au, (nt g), (nt f), kf, (fun h _ => nt j h), (nt p), (nt x), am, (nt g), (nt f)⟩
   ·
    obtain rfl := oj hi
    have Y := hSi
    have x := ngF hcl 6 5 Y
    have I := ngF hcl 7 6 x
    have g := ngF hcl 12 5 Y
    have j := ngF hcl 13 5 Y
    have f := ngF hcl 14 5 Y
    have p := ngF hcl 15 5 Y
    obtain rfl := ak j
    refine hG (any_step ?_); intro A J hJ
    refine s1 hFx 19 (i6 d) ?_; intro cx bS
    refine nl (qnI (hJ _ _ ?_))
    exact ⟨y, z, D, F, ae, af, L, M, av, i6 d, ap, ag, ax, ay, aq, ah, aa, H, .own t6 3 ao1 cap2 b, n, bS.reg, hMx.perm lpr, N, O, P, Q, R, kf, (nt x), (nt I), V, W, aj, au, (nt g), (nt f), kf, (fun h _ => nt j h), (nt p), (nt x), am, (nt g), (nt f)⟩
   ·
    obtain rfl := oj hi
    have Y := hpre 5 (by kernel_rfl)
    have X := hpre 4 (by kernel_rfl)
    have x := hSi
    have I := ngF hcl 7 6 x
    have g := ngF hcl 12 6 x
    have j := ngF hcl 13 6 x
    have f := ngF hcl 14 6 x
    have p := ngF hcl 15 6 x
    obtain rfl := R X
    obtain rfl := U Y
    obtain rfl := ak j
    refine hG (any_step ?_); intro A J hJ
    refine ixo hFx hMx 0 (T := t6) (xs := b) d (by simpa only [List.length_set] using bo) (k := .i64) (e := 3) (bytes := 8) (nog rfl _) rfl (by kernel_rfl) rfl (by kernel_rfl) (by kernel_rfl) rfl (by kernel_rfl) ?_; intro a1 cy bT bU
    refine nl (qnI (hJ _ _ ?_))
    exact ⟨a1, z, D, F, ae, af, L, M, .slice ao1 b.length cap2, i6 d, .pointer (some ⟨a1, d.toNat * 1, none⟩), ag, ax, ay, aq, ah, aa, H, .own t6 3 ao1 cap2 b, n, bU.reg, hMx.perm lpr, N, O, P, Q, kf, kf, kf, (nt I), V, W, aj, au, (nt g), (nt f), kf, (fun h _ => nt j h), (nt p), (fun _ => bT), am, (nt g), (nt f)⟩
   ·
    obtain rfl := oj hi
    have x := hpre 6 (by kernel_rfl)
    have Y := hcl 6 5 (by kernel_rfl) x
    have X := hcl 6 4 (by kernel_rfl) x
    have I := hSi
    have g := ngF hcl 12 7 I
    have j := ngF hcl 13 7 I
    have f := ngF hcl 14 7 I
    have p := ngF hcl 15 7 I
    obtain rfl := R X
    obtain rfl := U Y
    obtain rfl := ai x
    obtain rfl := ak j
    refine hG (any_step ?_); intro A J hJ
    have a2 := al x
    obtain ⟨bV, bW, bX⟩ := own_elx hMx 0 (T := t6) (xs := b) rfl a2 d.toNat bp
    obtain rfl : bV = ([i6 l] : List Value) := bW
    refine lc1 hFx 21 (i6 l) (bX 0 _ rfl) rfl ?_; intro cz bY
    refine nl (qnI (hJ _ _ ?_))
    exact ⟨y, z, D, F, ae, af, L, M, .slice ao1 b.length cap2, i6 d, .pointer (some ⟨y, d.toNat * 1, none⟩), i6 l, ax, ay, aq, ah, aa, H, .own t6 3 ao1 cap2 b, n, bY.reg, hMx.perm lpr, N, O, P, Q, kf, kf, kf, kf, V, W, aj, au, (nt g), (nt f), kf, (fun h _ => nt j h), (nt p), (fun _ => a2), am, (nt g), (nt f)⟩
   ·
    obtain rfl := oj hi
    have an := hSi
    have q := ngF hcl 10 8 an
    have C := ngF hcl 11 10 q
    have g := ngF hcl 12 11 C
    have j := ngF hcl 13 11 C
    have f := ngF hcl 14 8 an
    have p := ngF hcl 15 8 an
    obtain rfl := ak j
    refine hG (any_step ?_); intro A J hJ
    refine s1 hFx 22 (.slice ao1 b.length cap2) ?_; intro cA bZ
    refine nl (qnI (hJ _ _ ?_))
    exact ⟨y, z, D, F, ae, af, L, M, av, aw, ap, ag, .slice ao1 b.length cap2, ay, aq, ah, aa, H, .own t6 3 ao1 cap2 b, n, bZ.reg, hMx.perm lpr, N, O, P, Q, R, U, ai, ar, kf, W, (nt q), (nt C), (nt g), (nt f), kf, (fun h _ => nt j h), (nt p), al, (nt q), (nt g), (nt f)⟩
   ·
    obtain rfl := oj hi
    have ao := hSi
    have q := ngF hcl 10 9 ao
    have C := ngF hcl 11 10 q
    have g := ngF hcl 12 11 C
    have j := ngF hcl 13 11 C
    have f := ngF hcl 14 9 ao
    have p := ngF hcl 15 9 ao
    obtain rfl := ak j
    refine hG (any_step ?_); intro A J hJ
    refine s1 hFx 23 (i6 c) ?_; intro cB b0
    refine nl (qnI (hJ _ _ ?_))
    exact ⟨y, z, D, F, ae, af, L, M, av, aw, ap, ag, ax, i6 c, aq, ah, aa, H, .own t6 3 ao1 cap2 b, n, b0.reg, hMx.perm lpr, N, O, P, Q, R, U, ai, ar, V, kf, (nt q), (nt C), (nt g), (nt f), kf, (fun h _ => nt j h), (nt p), al, (nt q), (nt g), (nt f)⟩
   ·
    obtain rfl := oj hi
    have ao := hpre 9 (by kernel_rfl)
    have an := hpre 8 (by kernel_rfl)
    have q := hSi
    have C := ngF hcl 11 10 q
    have g := ngF hcl 12 11 C
    have j := ngF hcl 13 11 C
    have f := ngF hcl 14 10 q
    have p := ngF hcl 15 10 q
    obtain rfl := V an
    obtain rfl := W ao
    obtain rfl := ak j
    refine hG (any_step ?_); intro A J hJ
    refine ixo hFx hMx 0 (T := t6) (xs := b) c (by simpa only [List.length_set] using br) (k := .i64) (e := 3) (bytes := 8) (nog rfl _) rfl (by kernel_rfl) rfl (by kernel_rfl) (by kernel_rfl) rfl (by kernel_rfl) ?_; intro a3 cC b1 b2
    refine nl (qnI (hJ _ _ ?_))
    exact ⟨y, a3, D, F, ae, af, L, M, av, aw, ap, ag, .slice ao1 b.length cap2, i6 c, .pointer (some ⟨a3, c.toNat * 1, none⟩), ah, aa, H, .own t6 3 ao1 cap2 b, n, b2.reg, hMx.perm lpr, N, O, P, Q, R, U, ai, ar, kf, kf, kf, (nt C), (nt g), (nt f), kf, (fun h _ => nt j h), (nt p), al, (fun _ => b1), (nt g), (nt f)⟩
   ·
    obtain rfl := oj hi
    have q := hpre 10 (by kernel_rfl)
    have ao := hcl 10 9 (by kernel_rfl) q
    have an := hcl 10 8 (by kernel_rfl) q
    have C := hSi
    have g := ngF hcl 12 11 C
    have j := ngF hcl 13 11 C
    have f := ngF hcl 14 11 C
    have p := ngF hcl 15 11 C
    obtain rfl := V an
    obtain rfl := W ao
    obtain rfl := aj q
    obtain rfl := ak j
    refine hG (any_step ?_); intro A J hJ
    have a4 := am q
    obtain ⟨b3, b4, b5⟩ := own_elx hMx 0 (T := t6) (xs := b) rfl a4 c.toNat bs
    obtain rfl : b3 = ([i6 E] : List Value) := b4
    refine lc1 hFx 25 (i6 E) (b5 0 _ rfl) rfl ?_; intro cD b6
    refine nl (qnI (hJ _ _ ?_))
    exact ⟨y, z, D, F, ae, af, L, M, av, aw, ap, ag, .slice ao1 b.length cap2, i6 c, .pointer (some ⟨z, c.toNat * 1, none⟩), i6 E, aa, H, .own t6 3 ao1 cap2 b, n, b6.reg, hMx.perm lpr, N, O, P, Q, R, U, ai, ar, kf, kf, kf, kf, (nt g), (nt f), kf, (fun h _ => nt j h), (nt p), al, (fun _ => a4), (nt g), (nt f)⟩
   ·
    obtain rfl := oj hi
    have C := hpre 11 (by kernel_rfl)
    have I := hpre 7 (by kernel_rfl)
    have x := hpre 6 (by kernel_rfl)
    have Y := hpre 5 (by kernel_rfl)
    have X := hpre 4 (by kernel_rfl)
    have aA := hpre 1 (by kernel_rfl)
    have az := hpre 0 (by kernel_rfl)
    have q := hcl 11 10 (by kernel_rfl) C
    have ao := hcl 10 9 (by kernel_rfl) q
    have an := hcl 10 8 (by kernel_rfl) q
    have g := hSi
    have j := ngF hcl 13 12 g
    have f := ngF hcl 14 12 g
    have p := ngF hcl 15 12 g
    obtain rfl := N az
    obtain rfl := O aA
    obtain rfl := R X
    obtain rfl := U Y
    obtain rfl := ai x
    obtain rfl := ar I
    obtain rfl := V an
    obtain rfl := W ao
    obtain rfl := aj q
    obtain rfl := au C
    obtain rfl := ak j
    refine hG (any_step ?_); intro A J hJ
    have b7 := al x
    have b8 := am q
    refine ixo hFx hMx 0 (T := t6) (xs := b) c (by simpa only [List.length_set] using bu) (k := .i64) (e := 3) (bytes := 8) (nog rfl _) rfl (by kernel_rfl) rfl (by kernel_rfl) (by kernel_rfl) rfl (by kernel_rfl) ?_; intro a5 cE b9 ca
    refine nl (qnI (hJ _ _ ?_))
    exact ⟨y, z, a5, F, .slice ao1 b.length cap2, i6 c, L, M, .slice ao1 b.length cap2, i6 d, .pointer (some ⟨y, d.toNat * 1, none⟩), i6 l, .slice ao1 b.length cap2, i6 c, .pointer (some ⟨z, c.toNat * 1, none⟩), i6 E, .pointer (some ⟨a5, c.toNat * 1, none⟩), H, .own t6 3 ao1 cap2 b, n, ca.reg, hMx.perm lpr, kf, kf, P, Q, kf, kf, kf, kf, kf, kf, kf, kf, kf, (nt f), kf, (fun h _ => nt j h), (nt p), (fun _ => b7), (fun _ => b8), (fun _ => b9), (nt f)⟩
   ·
    obtain rfl := oj hi
    have g := hpre 12 (by kernel_rfl)
    have C := hpre 11 (by kernel_rfl)
    have I := hpre 7 (by kernel_rfl)
    have x := hpre 6 (by kernel_rfl)
    have Y := hpre 5 (by kernel_rfl)
    have X := hpre 4 (by kernel_rfl)
    have aA := hpre 1 (by kernel_rfl)
    have az := hpre 0 (by kernel_rfl)
    have q := hcl 11 10 (by kernel_rfl) C
    have ao := hcl 10 9 (by kernel_rfl) q
    have an := hcl 10 8 (by kernel_rfl) q
    have j := hSi
    have f := ngF hcl 14 13 j
    have p := ngF hcl 15 13 j
    obtain rfl := N az
    obtain rfl := O aA
    obtain rfl := R X
    obtain rfl := U Y
    obtain rfl := ai x
    obtain rfl := ar I
    obtain rfl := V an
    obtain rfl := W ao
    obtain rfl := aj q
    obtain rfl := au C
    obtain rfl := aC g
    obtain rfl := ak j
    refine hG (any_step ?_); intro A J hJ
    have cb := al x
    have cc := am q
    have a6 := aD g
    refine sox hFx hMx 0 a6 (T := t6) (xs := b) c.toNat l (u := i6 l) (nog rfl _) rfl rfl (by kernel_rfl) rfl (by kernel_rfl) rfl (by kernel_rfl) (by first | omega | (simp only [List.length_set] at *; omega)) rfl ?_; intro cF ce
    refine nl (qnI (hJ _ _ ?_))
    exact ⟨y, z, D, F, .slice ao1 b.length cap2, i6 c, L, M, .slice ao1 b.length cap2, i6 d, .pointer (some ⟨y, d.toNat * 1, none⟩), i6 l, .slice ao1 b.length cap2, i6 c, .pointer (some ⟨z, c.toNat * 1, none⟩), i6 E, .pointer (some ⟨D, c.toNat * 1, none⟩), H, .own t6 3 ao1 cap2 (b.set c.toNat l), n, hFx.reg, ce.perm lpr, kf, kf, P, Q, kf, kf, kf, kf, kf, kf, kf, kf, kf, (nt f), nu, kf2, (nt p), (fun _ => cb), (fun _ => cc), (fun _ => a6), (nt f)⟩
   ·
    obtain rfl := oj hi
    have j := hpre 13 (by kernel_rfl)
    have g := hpre 12 (by kernel_rfl)
    have C := hpre 11 (by kernel_rfl)
    have q := hpre 10 (by kernel_rfl)
    have ao := hpre 9 (by kernel_rfl)
    have an := hpre 8 (by kernel_rfl)
    have I := hpre 7 (by kernel_rfl)
    have x := hpre 6 (by kernel_rfl)
    have Y := hpre 5 (by kernel_rfl)
    have X := hpre 4 (by kernel_rfl)
    have aF := hpre 3 (by kernel_rfl)
    have aE := hpre 2 (by kernel_rfl)
    have aA := hpre 1 (by kernel_rfl)
    have az := hpre 0 (by kernel_rfl)
    have f := hSi
    have p := ngF hcl 15 14 f
    obtain rfl := N az
    obtain rfl := O aA
    obtain rfl := P aE
    obtain rfl := Q aF
    obtain rfl := R X
    obtain rfl := U Y
    obtain rfl := ai x
    obtain rfl := ar I
    obtain rfl := V an
    obtain rfl := W ao
    obtain rfl := aj q
    obtain rfl := au C
    obtain rfl := aC g
    obtain rfl := aH j p
    refine hG (any_step ?_); intro A J hJ
    have cf := al x
    have cg := am q
    have ch := aD g
    have ab : (b.set c.toNat l).length = b.length := by first | assumption | omega | (dsimp only at *; omega) | (simp; try omega)
    have a7 : Fr 28 [] [⟨0, [], .slice ao1 (b.set c.toNat l).length cap2⟩, ⟨2, [], i6 c⟩, ⟨3, [], i6 d⟩, ⟨14, [], .slice ao1 (b.set c.toNat l).length cap2⟩, ⟨15, [], i6 c⟩, ⟨16, [], .slice ao1 (b.set c.toNat l).length cap2⟩, ⟨17, [], i6 d⟩, ⟨18, [], .slice ao1 (b.set c.toNat l).length cap2⟩, ⟨19, [], i6 d⟩, ⟨20, [], .pointer (some ⟨y, d.toNat * 1, none⟩)⟩, ⟨21, [], i6 l⟩, ⟨22, [], .slice ao1 (b.set c.toNat l).length cap2⟩, ⟨23, [], i6 c⟩, ⟨24, [], .pointer (some ⟨z, c.toNat * 1, none⟩)⟩, ⟨25, [], i6 E⟩, ⟨26, [], .pointer (some ⟨D, c.toNat * 1, none⟩)⟩, ⟨27, [], H⟩] a := by rw [ab]; exact hFx.reg
    refine ixo a7 hMx 0 (T := t6) (xs := b.set c.toNat l) d (by simpa only [List.length_set] using bw) (k := .i64) (e := 3) (bytes := 8) (nog rfl _) rfl (by kernel_rfl) rfl (by kernel_rfl) (by kernel_rfl) rfl (by kernel_rfl) ?_; intro a8 cG ci a9
    refine nl (qnI (hJ _ _ ?_))
    rw [ab] at a9
    exact ⟨y, z, D, a8, .slice ao1 b.length cap2, i6 c, .slice ao1 b.length cap2, i6 d, .slice ao1 b.length cap2, i6 d, .pointer (some ⟨y, d.toNat * 1, none⟩), i6 l, .slice ao1 b.length cap2, i6 c, .pointer (some ⟨z, c.toNat * 1, none⟩), i6 E, .pointer (some ⟨D, c.toNat * 1, none⟩), .pointer (some ⟨a8, d.toNat * 1, none⟩), .own t6 3 ao1 cap2 (b.set c.toNat l), n, a9.reg, hMx.perm lpr, (fun _ => by first | rfl | rw [ab]), (fun _ => by first | rfl | rw [ab]), (fun _ => by first | rfl | rw [ab]), (fun _ => by first | rfl | rw [ab]), (fun _ => by first | rfl | rw [ab]), (fun _ => by first | rfl | rw [ab]), (fun _ => by first | rfl | rw [ab]), (fun _ => by first | rfl | rw [ab]), (fun _ => by first | rfl | rw [ab]), (fun _ => by first | rfl | rw [ab]), (fun _ => by first | rfl | rw [ab]), (fun _ => by first | rfl | rw [ab]), (fun _ => by first | rfl | rw [ab]), (fun _ => by first | rfl | rw [ab]), (tn j), kf2, (nt p), (fun _ => cf), (fun _ => cg), (fun _ => ch), (fun _ => ci)⟩
   obtain rfl := oj hi
   have f := hpre 14 (by kernel_rfl)
   have j := hpre 13 (by kernel_rfl)
   have g := hpre 12 (by kernel_rfl)
   have C := hpre 11 (by kernel_rfl)
   have q := hpre 10 (by kernel_rfl)
   have ao := hpre 9 (by kernel_rfl)
   have an := hpre 8 (by kernel_rfl)
   have I := hpre 7 (by kernel_rfl)
   have x := hpre 6 (by kernel_rfl)
   have Y := hpre 5 (by kernel_rfl)
   have X := hpre 4 (by kernel_rfl)
   have aF := hpre 3 (by kernel_rfl)
   have aE := hpre 2 (by kernel_rfl)
   have aA := hpre 1 (by kernel_rfl)
   have az := hpre 0 (by kernel_rfl)
   have p := hSi
   obtain rfl := N az
   obtain rfl := O aA
   obtain rfl := P aE
   obtain rfl := Q aF
   obtain rfl := R X
   obtain rfl := U Y
   obtain rfl := ai x
   obtain rfl := ar I
   obtain rfl := V an
   obtain rfl := W ao
   obtain rfl := aj q
   obtain rfl := au C
   obtain rfl := aC g
   obtain rfl := aL f
   obtain rfl := aH j p
   refine hG (any_step ?_); intro A J hJ
   have cj := al x
   have ck := am q
   have cl := aD g
   have ba := aM f
   have ac : (b.set c.toNat l).length = b.length := by first | assumption | omega | (dsimp only at *; omega) | (simp; try omega)
   have aN : Fr 28 [] [⟨0, [], .slice ao1 (b.set c.toNat l).length cap2⟩, ⟨2, [], i6 c⟩, ⟨3, [], i6 d⟩, ⟨14, [], .slice ao1 (b.set c.toNat l).length cap2⟩, ⟨15, [], i6 c⟩, ⟨16, [], .slice ao1 (b.set c.toNat l).length cap2⟩, ⟨17, [], i6 d⟩, ⟨18, [], .slice ao1 (b.set c.toNat l).length cap2⟩, ⟨19, [], i6 d⟩, ⟨20, [], .pointer (some ⟨y, d.toNat * 1, none⟩)⟩, ⟨21, [], i6 l⟩, ⟨22, [], .slice ao1 (b.set c.toNat l).length cap2⟩, ⟨23, [], i6 c⟩, ⟨24, [], .pointer (some ⟨z, c.toNat * 1, none⟩)⟩, ⟨25, [], i6 E⟩, ⟨26, [], .pointer (some ⟨D, c.toNat * 1, none⟩)⟩, ⟨27, [], .pointer (some ⟨F, d.toNat * 1, none⟩)⟩] a := by rw [ac]; exact hFx.reg
   refine sox aN hMx 0 ba (T := t6) (xs := b.set c.toNat l) d.toNat E (u := i6 E) (nog rfl _) rfl rfl (by kernel_rfl) rfl (by kernel_rfl) rfl (by kernel_rfl) (by first | omega | (simp only [List.length_set] at *; omega)) rfl ?_; intro cH cm
   refine nl (qnI (hJ _ _ ?_))
   rw [ac] at aN
   exact ⟨y, z, D, F, .slice ao1 b.length cap2, i6 c, .slice ao1 b.length cap2, i6 d, .slice ao1 b.length cap2, i6 d, .pointer (some ⟨y, d.toNat * 1, none⟩), i6 l, .slice ao1 b.length cap2, i6 c, .pointer (some ⟨z, c.toNat * 1, none⟩), i6 E, .pointer (some ⟨D, c.toNat * 1, none⟩), .pointer (some ⟨F, d.toNat * 1, none⟩), .own t6 3 ao1 cap2 ((b.set c.toNat l).set d.toNat E), n, aN.reg, cm.perm lpr, (fun _ => by first | rfl | rw [ac]), (fun _ => by first | rfl | rw [ac]), (fun _ => by first | rfl | rw [ac]), (fun _ => by first | rfl | rw [ac]), (fun _ => by first | rfl | rw [ac]), (fun _ => by first | rfl | rw [ac]), (fun _ => by first | rfl | rw [ac]), (fun _ => by first | rfl | rw [ac]), (fun _ => by first | rfl | rw [ac]), (fun _ => by first | rfl | rw [ac]), (fun _ => by first | rfl | rw [ac]), (fun _ => by first | rfl | rw [ac]), (fun _ => by first | rfl | rw [ac]), (fun _ => by first | rfl | rw [ac]), (tn j), (fun _ => nu), kf, (fun _ => cj), (fun _ => ck), (fun _ => cl), (fun _ => ba)⟩
  case hE =>
   intro S hS bb cI hI; refine Go.Sy.hid ?_; intro G hG; obtain ⟨y, z, D, F, ae, af, L, M, av, aw, ap, ag, ax, ay, aq, ah, aa, H, aB, n, hFx, hMx, N, O, P, hI⟩ := hI; obtain ⟨Q, R, U, ai, ar, V, W, aj, au, aC, aL, ak, aH, aZ, al, am, aD, hI⟩ := hI; refine hG ?_
   obtain rfl := N (hS 0 (by decide))
   obtain rfl := O (hS 1 (by decide))
   obtain rfl := P (hS 2 (by decide))
   obtain rfl := Q (hS 3 (by decide))
   obtain rfl := R (hS 4 (by decide))
   obtain rfl := U (hS 5 (by decide))
   obtain rfl := ai (hS 6 (by decide))
   obtain rfl := ar (hS 7 (by decide))
   obtain rfl := V (hS 8 (by decide))
   obtain rfl := W (hS 9 (by decide))
   obtain rfl := aj (hS 10 (by decide))
   obtain rfl := au (hS 11 (by decide))
   obtain rfl := aC (hS 12 (by decide))
   obtain rfl := aL (hS 14 (by decide))
   obtain rfl := aZ (hS 15 (by decide))
   have cn : ((b.set c.toNat l).set d.toNat E).length = b.length := by first | assumption | omega | (dsimp only at *; omega) | (simp; try omega)
   have bc : Fr 28 [] [⟨0, [], .slice ao1 ((b.set c.toNat l).set d.toNat E).length cap2⟩, ⟨2, [], i6 c⟩, ⟨3, [], i6 d⟩, ⟨14, [], .slice ao1 ((b.set c.toNat l).set d.toNat E).length cap2⟩, ⟨15, [], i6 c⟩, ⟨16, [], .slice ao1 ((b.set c.toNat l).set d.toNat E).length cap2⟩, ⟨17, [], i6 d⟩, ⟨18, [], .slice ao1 ((b.set c.toNat l).set d.toNat E).length cap2⟩, ⟨19, [], i6 d⟩, ⟨20, [], .pointer (some ⟨y, d.toNat * 1, none⟩)⟩, ⟨21, [], i6 l⟩, ⟨22, [], .slice ao1 ((b.set c.toNat l).set d.toNat E).length cap2⟩, ⟨23, [], i6 c⟩, ⟨24, [], .pointer (some ⟨z, c.toNat * 1, none⟩)⟩, ⟨25, [], i6 E⟩, ⟨26, [], .pointer (some ⟨D, c.toNat * 1, none⟩)⟩, ⟨27, [], .pointer (some ⟨F, d.toNat * 1, none⟩)⟩] bb := by rw [cn]; exact hFx.reg
   refine j_ (t_ ?_)
   have bd : Fr 28 [] [⟨0, [], .slice ao1 ((b.set c.toNat l).set d.toNat E).length cap2⟩, ⟨2, [], i6 c⟩, ⟨3, [], i6 d⟩] bb := bc.reg
   refine rgB bd hMx [] [] [(2, i6 (w64 (c + 1))), (3, i6 (w64 (d - 1)))] ?_; intro cN co
   exact d_ ⟨⟨w64 (c + 1), w64 (d - 1), (b.set c.toNat l).set d.toNat E⟩, aY.1, aY.2, (co.reg).anyβ _ (by kernel_rfl), hMx.kp⟩
 refine x_ (y_ (y_ (z_ ?_)))
 obtain ⟨cq, cr⟩ := cp
 refine rN (fn := Tryz.f90) (v := .tuple #[]) aG (re0 aG (fn := Tryz.f90) rfl) ?_
 exact ⟨b, Z, rfl, cr, m, cq, aU.kp⟩
end Go.Proofs.YtdndfbamhnchfaaGreatDoor
set_option linter.unusedVariables false
set_option linter.unusedSimpArgs false
set_option linter.defProp false
set_option maxRecDepth 100000
set_option maxHeartbeats 0
namespace Go.Proofs.YtdndfbamhnchfaaGreatDoor
open Go.Sy Go.RowKit
abbrev e46A (X : Signal) : List Value := [str X.Name, i6 X.Start, i6 X.Size, .bool X.Back, .bool X.Signed, i6 X.Mul, i6 X.Div, i6 X.Add, i6 X.Key]
theorem irev_fun (u0 : List Int) (ao1 : Option Addr) (cap2 : Nat) (B : Nat) (w0 : World) (Z0 : Fz) (Rr : List Res) (Z : Fz) (w : World) (hM0 : Mem B [] w0 Z0 ((.own t6 3 ao1 cap2 u0) :: Rr) Z w) (hZ : Z.on w) : Calls Tryz.prog 90 #[.slice ao1 u0.length cap2] w fun e w' => ∃ (Z' : Fz), e = .returned (.tuple #[]) ∧ Fz.le Z Z' ∧ ((irevS u0).length = u0.length) ∧ Mem B [] w0 Z0 ((.own t6 3 ao1 cap2 (irevS u0)) :: Rr) Z' w' :=
 (irev_walk u0 ao1 cap2 B w0 Z0 Rr Z w hM0 hZ (irev_ok u0)).mono fun _ _ ⟨r, h0, he, hk, f0, f1, hm⟩ => by subst hk; exact ⟨h0, he, f0, f1, hm⟩
def sgcd_fun (u0 : Int) (u1 : Int) (hpre : (-4611686018427387904 ≤ u0 ∧ u0 ≤ 4611686018427387904) ∧ -4611686018427387904 ≤ u1 ∧ u1 ≤ 4611686018427387904)  (Z : Fz) (w : World)  (hZ : Z.on w) := f_ (sgcd_walk u0 u1  Z w  hZ (sgcd_ok u0 u1 hpre))
def sbounds_fun (u0 : Signal) (hpre : 1 ≤ u0.Size ∧ u0.Size ≤ 40)  (Z : Fz) (w : World)  (hZ : Z.on w) := f_ (sbounds_walk u0  Z w  hZ (sbounds_ok u0 hpre))
def sname_fun (u0 : List UInt8)  (Z : Fz) (w : World)  (hZ : Z.on w) := f_ (sname_walk u0  Z w  hZ (sname_ok u0))
def imax_fun (u0 : List Int) (hpre : 0 < u0.length) (ao1 : Option Addr) (cap2 : Nat) (Z : Fz) (w : World) (hs3 : SlR t6 Z ao1 cap2 u0) (hZ : Z.on w) := f_ (imax_walk u0 ao1 cap2 Z w hs3 hZ (imax_ok u0 hpre))
def imin_fun (u0 : List Int) (hpre : 0 < u0.length) (ao1 : Option Addr) (cap2 : Nat) (Z : Fz) (w : World) (hs3 : SlR t6 Z ao1 cap2 u0) (hZ : Z.on w) := f_ (imin_walk u0 ao1 cap2 Z w hs3 hZ (imin_ok u0 hpre))
def bclone_fun (u0 : List Int) (hpre : u0.length ≤ 140737488355328) (ao1 : Option Addr) (cap2 : Nat) (Z : Fz) (w : World) (hs3 : SlR t8 Z ao1 cap2 u0) (hZ : Z.on w) := fc_ (bclone_walk u0 ao1 cap2 Z w hs3 hZ (bclone_ok u0 hpre))
def beq_fun (u0 : List Int) (u1 : List Int) (ao1 : Option Addr) (cap2 : Nat) (ao4 : Option Addr) (cap5 : Nat) (Z : Fz) (w : World) (hs3 : SlR t8 Z ao1 cap2 u0) (hs6 : SlR t8 Z ao4 cap5 u1) (hZ : Z.on w) := f_ (beq_walk u0 u1 ao1 cap2 ao4 cap5 Z w hs3 hs6 hZ (beq_ok u0 u1))
theorem splaces_walk (u0 : Signal)  (Z : Fz) (w : World)  (hZ : Z.on w) {K : (List Int) → Prop} (hp : splaces_vc u0 K) : Calls Tryz.prog 62 #[.agg #[str u0.Name, i6 u0.Start, i6 u0.Size, .bool u0.Back, .bool u0.Signed, i6 u0.Mul, i6 u0.Div, i6 u0.Add, i6 u0.Key]] w fun e w' => ∃ (r : (List Int)) (ao1001 : Option Addr) (cap1002 : Nat) (Z' : Fz), e = .returned (.slice ao1001 r.length cap1002) ∧ K r ∧ Mem w.heap.size [] w Z [.own t6 3 ao1001 cap1002 r] Z' w' := by
 refine enter0 Tryz.func62 rfl rfl (by kernel_rfl) ?_; intro a0 G; have H := Mem.start w Z hZ
 refine sqH ?_; intro ax J
 refine nw G H pb (e46A u0) 46 ?_; intro i a3 ay L k
 refine s1 L 2 (.slice none 0 0) ?_; intro a7 M
 apply J
 refine sqB M k [] [] [(3, .slice none 0 0)] ?_; intro aW N
 refine sqB N k [0] [] [(4, i6 u0.Start)] ?_; intro aX O
 refine s_ (sqB O k [0] [] [(8, i6 u0.Size), (9, i6 0)] ?_); intro P Q
 apply b_
 have R : Fr 35 [] [⟨1, [], pt i 0⟩, ⟨3, [], .slice none 0 0⟩, ⟨4, [], i6 u0.Start⟩, ⟨8, [], i6 u0.Size⟩, ⟨9, [], i6 0⟩] P := Q.reg
 have S : Mem w.heap.size [] w Z [.own t6 3 none 0 ([] : List Int), .row i (e46A u0) 46] Z ay := k.addNil t6 3 (by decide)
 have U : Fr 35 [] [⟨1, [], pt i 0⟩, ⟨3, [], .slice none ([] : List Int).length 0⟩, ⟨4, [], i6 u0.Start⟩, ⟨8, [], i6 u0.Size⟩, ⟨9, [], i6 0⟩] P := R.reg
 obtain ⟨az, aA, aB, aC⟩ := hp
 refine lp (ι := (List Int) × Int × Int × (Option Addr) × Nat) (fun s => [⟨1, [], pt i 0⟩, ⟨3, [], .slice s.2.2.2.1 s.1.length s.2.2.2.2⟩, ⟨4, [], i6 s.2.1⟩, ⟨8, [], i6 u0.Size⟩, ⟨9, [], i6 s.2.2.1⟩]) (fun s => [.own t6 3 s.2.2.2.1 s.2.2.2.2 s.1, .row i (e46A u0) 46]) (fun s => Z) (fun s => az s.1 s.2.1 s.2.2.1) (fun s => aA s.1 s.2.1 s.2.2.1) ⟨([] : List Int), u0.Start, 0, none, 0⟩ aB (by exact U.region (by kernel_rfl) (by kernel_rfl)) (by exact S) ?_
 rintro ⟨a, c, g, d, f⟩ aD aE aF V W
 have u := aC a c g aD
 refine sqB V W [] [] [(10, .bool (decide (g < u0.Size)))] ?_; intro aY l
 apply s_
 refine cd l (t := decide (g < u0.Size)) (by kernel_rfl) (fun A => ?_) (fun A => ?_)
 · -- yes
  have aG := u.1 A
  refine k_ (s_ (b_ (sqH ?_))); intro aH Y
  refine bt l W 2 [] [] [(11, .slice d a.length f), (12, i6 c)] ?_; intro aZ aa
  refine nw aa W (fun b => .slice (sm b) 1 1) [i6 c] 3 ?_; intro ab a1 a2 ac B
  obtain ⟨aI, v⟩ := aG
  refine ap ac B 1 (T := t6) (xs := a) (ys := [c]) (ao := d) (cap := f) (ao2 := (sm ab)) (cap2 := 1) (t := 59) (e := 3) (bytes := 8) (nog rfl _) rfl (by kernel_rfl) rfl (by kernel_rfl) (by kernel_rfl) (by kernel_rfl) rfl (Src.row B 0 rfl (RepAll.one (T := t6) (x := c) rfl)) aI ?_; intro m n a4 aJ a5 ad ae
  have h : Mem w.heap.size [] w Z [.row ab [i6 c] 3, .own t6 3 m n (a ++ [c]), .row i (e46A u0) 46] Z aJ := ae
  refine s1 ad 3 (.slice m (a ++ [c]).length n) ?_; intro a6 af
  apply Y
  refine b_ (sqB af h [2] [] [(17, .bool (!u0.Back))] ?_); intro a8 o
  refine cd o (t := !u0.Back) (by kernel_rfl) (fun C => ?_) (fun C => ?_)
  · -- yes
   have ag := v.1 C
   refine rgB o h [] [] [(4, i6 (w64 (c + 1)))] ?_; intro a9 ah
   refine j_ (j_ (t_ (rgB ah h [] [] [(9, i6 (w64 (g + 1)))] ?_))); intro ba aK
   exact d_ ⟨⟨a ++ [c], w64 (c + 1), w64 (g + 1), m, n⟩, ag.1, ag.2, (aK.region (by kernel_rfl) (by kernel_rfl)).anyβ _ (by kernel_rfl), h.kp⟩
  · -- no
   have y := v.2 C
   refine sqB o h [] [] [(23, .bool ((c.tmod 8) == 0))] ?_; intro bb p
   refine cd p (t := (c.tmod 8) == 0) (by kernel_rfl) (fun D => ?_) (fun D => ?_)
   · -- yes
    have ai := y.1 D
    refine rgB p h [] [] [(4, i6 (w64 (c + 15)))] ?_; intro bc aj
    refine j_ (j_ (t_ (rgB aj h [] [] [(9, i6 (w64 (g + 1)))] ?_))); intro bd aL
    exact d_ ⟨⟨a ++ [c], w64 (c + 15), w64 (g + 1), m, n⟩, ai.1, ai.2, (aL.region (by kernel_rfl) (by kernel_rfl)).anyβ _ (by kernel_rfl), h.kp⟩
   · -- no
    have ak := y.2 D
    refine rgB p h [] [] [(4, i6 (w64 (c - 1)))] ?_; intro be al
    refine j_ (j_ (t_ (rgB al h [] [] [(9, i6 (w64 (g + 1)))] ?_))); intro bf aM
    exact d_ ⟨⟨a ++ [c], w64 (c - 1), w64 (g + 1), m, n⟩, ak.1, ak.2, (aM.region (by kernel_rfl) (by kernel_rfl)).anyβ _ (by kernel_rfl), h.kp⟩
 · -- no
  have z := u.2 A
  refine x_ (y_ (y_ (z_ (t_ (s_ (sqB l W [1] [] [(31, .bool u0.Back)] ?_)))))); intro bg q
  refine cd q (t := u0.Back) (by kernel_rfl) (fun E => ?_) (fun E => ?_)
  · -- yes
   have am := z.1 E
   refine rgH ?_; intro aN an
   refine s1 q 32 (.slice d a.length f) ?_; intro bh aq
   refine ck aq 90 #[.slice d a.length f] ?_
   refine (irev_fun a d f _ _ _ _ _ _ W W.fz).mono ?_; rintro _ aO ⟨ar, rfl, aP, aQ, hm⟩; refine ⟨_, rfl, ?_⟩; intro aR au; have av := hm
   have aw : Fr 35 [] [⟨1, [], pt i 0⟩, ⟨3, [], .slice d (irevS a).length f⟩, ⟨4, [], i6 c⟩, ⟨8, [], i6 u0.Size⟩, ⟨9, [], i6 g⟩, ⟨10, [], .bool (decide (g < u0.Size))⟩, ⟨31, [], .bool u0.Back⟩, ⟨32, [], .slice d (irevS a).length f⟩, ⟨33, [], .tuple #[]⟩] aR := by rw [aQ]; exact au.region (by kernel_rfl) (by kernel_rfl)
   have F : Mem w.heap.size [] w Z [.own t6 3 d f (irevS a), .row i (e46A u0) 46] ar aO := av
   have aS := am (F.ownSmall 0 rfl)
   apply an
   refine t_ (sqB aw F [] [] [(2, .slice d (irevS a).length f)] ?_); intro bi aT
   exact r_ (ra1 aT (.slice d (irevS a).length f) ⟨(irevS a), d, f, ar, rfl, aS, F.kp⟩)
  · -- no
   have aU := z.2 E
   refine k_ (sqB q W [] [] [(2, .slice d a.length f)] ?_); intro bj aV
   exact r_ (ra1 aV (.slice d a.length f) ⟨a, d, f, Z, rfl, aU, W.kp⟩)
theorem smean_walk (u0 : Signal) (u1 : Int)  (Z : Fz) (w : World)  (hZ : Z.on w) {K : Reading → Prop} (hp : smean_vc u0 u1 K) : Calls Tryz.prog 24 #[.agg #[str u0.Name, i6 u0.Start, i6 u0.Size, .bool u0.Back, .bool u0.Signed, i6 u0.Mul, i6 u0.Div, i6 u0.Add, i6 u0.Key], i6 u1] w fun e w' => ∃ r : Reading, e = .returned (.agg #[str r.Name, i6 r.Num, i6 r.Den]) ∧ K r ∧ Below w.heap.size w w' := by
 refine enter0 Tryz.func24 rfl rfl (by kernel_rfl) ?_; intro a0 o; have p := Mem.start w Z hZ
 refine sqH ?_; intro X q
 refine nw o p pb (e46A u0) 46 ?_; intro a a3 ao s t
 refine nw s t pb [str [], i6 0, i6 0] 37 ?_; intro c Y ap u x
 apply q
 have y : Fr 32 [] [⟨1, [], i6 u1⟩, ⟨2, [], pt a 0⟩, ⟨4, [], pt c 0⟩] Y := u.reg
 refine sqQH mixed (by kernel_rfl) x ?_; intro aa z
 refine q1 y 8 (i6 u1) ?_; intro aq A
 refine q1 A 9 (pt a 5) ?_; intro ar f
 refine ql_ f 1 5 (i6 u0.Mul) rfl rfl ?_; intro au B
 refine q1 B 11 (i6 (w64 (u1 * u0.Mul))) ?_; intro av C
 refine q1 C 12 (pt a 7) ?_; intro aw h
 refine ql_ h 1 7 (i6 u0.Add) rfl rfl ?_; intro ax D
 refine q1 D 14 (pt a 6) ?_; intro ay i
 refine ql_ i 1 6 (i6 u0.Div) rfl rfl ?_; intro az E
 refine q1 E 16 (i6 (w64 (u0.Add * u0.Div))) ?_; intro aA F
 refine q1 F 17 (i6 (w64 ((w64 (u1 * u0.Mul)) + (w64 (u0.Add * u0.Div))))) ?_; intro aB G
 refine q1 G 18 (pt a 6) ?_; intro aC j
 refine ql_ j 1 6 (i6 u0.Div) rfl rfl ?_; intro aD H
 refine q1 H 5 (i6 (w64 ((w64 (u1 * u0.Mul)) + (w64 (u0.Add * u0.Div))))) ?_; intro aE I
 refine q1 I 6 (i6 u0.Div) ?_; intro aF J
 refine qnl (z _ ?_); intro aG d
 refine sqH ?_; intro ab L
 refine bt J d 2 [] [] [(20, i6 (w64 ((w64 (u1 * u0.Mul)) + (w64 (u0.Add * u0.Div))))), (21, i6 u0.Div)] ?_; intro aH M
 obtain ⟨ac, ae⟩ := hp
 refine fc M d (sgcd_fun (w64 ((w64 (u1 * u0.Mul)) + (w64 (u0.Add * u0.Div)))) u0.Div ac _ _ d.fz) ?_; intro aI aJ N O
 refine s1 N 7 (i6 (ngcd (w64 ((w64 (u1 * u0.Mul)) + (w64 (u0.Add * u0.Div)))) u0.Div)) ?_; intro af P
 apply L
 have Q : Fr 32 [] [⟨2, [], pt a 0⟩, ⟨4, [], pt c 0⟩, ⟨5, [], i6 (w64 ((w64 (u1 * u0.Mul)) + (w64 (u0.Add * u0.Div))))⟩, ⟨6, [], i6 u0.Div⟩, ⟨7, [], i6 (ngcd (w64 ((w64 (u1 * u0.Mul)) + (w64 (u0.Add * u0.Div)))) u0.Div)⟩] af := P.reg
 refine wp_seq (rgS mixed O [(0, true), (1, true), (2, true), (3, true), (5, true), (6, true), (4, true), (7, true), (8, true), (9, false)] [9] [1] [.row a (e46A u0) 46] ?_)
 intro ag R aK S
 refine cS Q 6 [0] [] [(24, str u0.Name), (25, i6 (w64 ((w64 (u1 * u0.Mul)) + (w64 (u0.Add * u0.Div))))), (26, i6 (ngcd (w64 ((w64 (u1 * u0.Mul)) + (w64 (u0.Add * u0.Div)))) u0.Div)), (28, i6 u0.Div), (29, i6 (ngcd (w64 ((w64 (u1 * u0.Mul)) + (w64 (u0.Add * u0.Div)))) u0.Div))] ?_; intro aM l
 obtain ⟨ah, ai⟩ := ae
 refine cst rfl l (i6 (w64 ((w64 ((w64 (u1 * u0.Mul)) + (w64 (u0.Add * u0.Div)))).tdiv (ngcd (w64 ((w64 (u1 * u0.Mul)) + (w64 (u0.Add * u0.Div)))) u0.Div)))) (nog rfl _) rfl (by kernel_rfl) (fun v88 hC => quo_run l (g := []) rfl (by kernel_rfl) (by kernel_rfl) ah rfl) ?_; intro aN m
 obtain ⟨aj, ak⟩ := ai
 refine cst rfl m (i6 (w64 (u0.Div.tdiv (ngcd (w64 ((w64 (u1 * u0.Mul)) + (w64 (u0.Add * u0.Div)))) u0.Div)))) (nog rfl _) rfl (by kernel_rfl) (fun v93 hC => quo_run m (g := []) rfl (by kernel_rfl) (by kernel_rfl) aj rfl) ?_; intro aO T
 refine cS T 1 [] [] [(31, .agg #[str u0.Name, i6 (w64 ((w64 ((w64 (u1 * u0.Mul)) + (w64 (u0.Add * u0.Div)))).tdiv (ngcd (w64 ((w64 (u1 * u0.Mul)) + (w64 (u0.Add * u0.Div)))) u0.Div))), i6 (w64 (u0.Div.tdiv (ngcd (w64 ((w64 (u1 * u0.Mul)) + (w64 (u0.Add * u0.Div)))) u0.Div)))])] ?_; intro aP n
 refine eL rfl ?_; intro al U
 refine sx n S 0 [str u0.Name, i6 (w64 ((w64 ((w64 (u1 * u0.Mul)) + (w64 (u0.Add * u0.Div)))).tdiv (ngcd (w64 ((w64 (u1 * u0.Mul)) + (w64 (u0.Add * u0.Div)))) u0.Div))), i6 (w64 (u0.Div.tdiv (ngcd (w64 ((w64 (u1 * u0.Mul)) + (w64 (u0.Add * u0.Div)))) u0.Div)))] 0 ?_; intro am V
 have W : Mem w.heap.size [] w Z [.row c [str u0.Name, i6 (w64 ((w64 ((w64 (u1 * u0.Mul)) + (w64 (u0.Add * u0.Div)))).tdiv (ngcd (w64 ((w64 (u1 * u0.Mul)) + (w64 (u0.Add * u0.Div)))) u0.Div))), i6 (w64 (u0.Div.tdiv (ngcd (w64 ((w64 (u1 * u0.Mul)) + (w64 (u0.Add * u0.Div)))) u0.Div)))] 37, .row a (e46A u0) 46] Z am := V
 refine nl (qnI (U _ _ ?_))
 refine nS (R _ _ ?_)
 refine t_ (r_ (rt (fn := Tryz.f24) (v := .agg #[str u0.Name, i6 (w64 ((w64 ((w64 (u1 * u0.Mul)) + (w64 (u0.Add * u0.Div)))).tdiv (ngcd (w64 ((w64 (u1 * u0.Mul)) + (w64 (u0.Add * u0.Div)))) u0.Div))), i6 (w64 (u0.Div.tdiv (ngcd (w64 ((w64 (u1 * u0.Mul)) + (w64 (u0.Add * u0.Div)))) u0.Div)))]) n (re1c n (fn := Tryz.f24) rfl (ad := ⟨c, 0, none⟩) (by kernel_rfl) (loadVar_run W 0 (b := c) (k := 3) (vs := [str u0.Name, i6 (w64 ((w64 ((w64 (u1 * u0.Mul)) + (w64 (u0.Add * u0.Div)))).tdiv (ngcd (w64 ((w64 (u1 * u0.Mul)) + (w64 (u0.Add * u0.Div)))) u0.Div))), i6 (w64 (u0.Div.tdiv (ngcd (w64 ((w64 (u1 * u0.Mul)) + (w64 (u0.Add * u0.Div)))) u0.Div)))]) (ty := 37) rfl (by kernel_rfl) (by kernel_rfl)) ) ?_))
 exact ⟨(⟨u0.Name, w64 ((w64 ((w64 (u1 * u0.Mul)) + (w64 (u0.Add * u0.Div)))).tdiv (ngcd (w64 ((w64 (u1 * u0.Mul)) + (w64 (u0.Add * u0.Div)))) u0.Div)), w64 (u0.Div.tdiv (ngcd (w64 ((w64 (u1 * u0.Mul)) + (w64 (u0.Add * u0.Div)))) u0.Div))⟩ : Reading), rfl, ak, W.below⟩
end Go.Proofs.YtdndfbamhnchfaaGreatDoor
set_option linter.unusedVariables false
set_option linter.unusedSimpArgs false
set_option linter.defProp false
set_option maxRecDepth 100000
set_option maxHeartbeats 0
namespace Go.Proofs.YtdndfbamhnchfaaGreatDoor
open Go.Sy Go.RowKit
abbrev e46B (X : Signal) : List Value := [str X.Name, i6 X.Start, i6 X.Size, .bool X.Back, .bool X.Signed, i6 X.Mul, i6 X.Div, i6 X.Add, i6 X.Key]
def splaces_fun (u0 : Signal) (hpre : (0 ≤ u0.Start ∧ u0.Start ≤ 512) ∧ 1 ≤ u0.Size ∧ u0.Size ≤ 40)  (Z : Fz) (w : World)  (hZ : Z.on w) := fc_ (splaces_walk u0  Z w  hZ (splaces_ok u0 hpre))
def smean_fun (u0 : Signal) (u1 : Int) (hpre : factS u0 ∧ -1099511627776 ≤ u1 ∧ u1 ≤ 1099511627776)  (Z : Fz) (w : World)  (hZ : Z.on w) := f_ (smean_walk u0 u1  Z w  hZ (smean_ok u0 u1 hpre))
theorem scheck_walk (u0 : Signal) (u1 : Int)  (Z : Fz) (w : World)  (hZ : Z.on w) {K : Int → Prop} (hp : scheck_vc u0 u1 K) : Calls Tryz.prog 58 #[.agg #[str u0.Name, i6 u0.Start, i6 u0.Size, .bool u0.Back, .bool u0.Signed, i6 u0.Mul, i6 u0.Div, i6 u0.Add, i6 u0.Key], i6 u1] w fun e w' => ∃ r : Int, e = .returned (i6 r) ∧ K r ∧ Below w.heap.size w w' := by
 refine enter0 Tryz.func58 rfl rfl (by kernel_rfl) ?_; intro a0 O; have P := Mem.start w Z hZ
 refine sqH ?_; intro an Q
 refine nw O P pb (e46B u0) 46 ?_; intro R a3 aS S q
 refine s1 S 4 (i6 0) ?_; intro a7 T
 apply Q
 refine s_ (b_ (sqH ?_)); intro ao U
 refine bt T q 2 [0] [] [(8, str u0.Name)] ?_; intro aT V
 refine fc V q (sname_fun u0.Name _ _ q.fz) ?_; intro aU aV W a
 refine bt W a 2 [] [] [(6, .bool (!(nameS u0.Name)))] ?_; intro aW h
 apply U
 refine cd h (t := !(nameS u0.Name)) (by kernel_rfl) (fun E => ?_) (fun E => ?_)
 · -- yes
  have ap := hp.1 E
  refine sqB h a [] [] [(4, i6 1)] ?_; intro aX aq
  exact r_ (i_ (h_ (ra1 aq (i6 1) ⟨1, rfl, ap, a.below⟩)))
 · -- no
  have s := hp.2 E
  refine sqB h a [0, 0] [] [(11, .bool ((((decide (u1 < 0)) || (decide (u1 > 64))) || (decide (u0.Size < 1))) || (decide (u0.Size > 40))))] ?_; intro aY i
  refine cd i (t := (((decide (u1 < 0)) || (decide (u1 > 64))) || (decide (u0.Size < 1))) || (decide (u0.Size > 40))) (by kernel_rfl) (fun F => ?_) (fun F => ?_)
  · -- yes
   have ar := s.1 F
   refine sqB i a [] [] [(4, i6 3)] ?_; intro aZ au
   exact r_ (i_ (h_ (ra1 au (i6 3) ⟨3, rfl, ar, a.below⟩)))
  · -- no
   have u := s.2 F
   refine sqB i a [0, 0, 0, 0, 0, 0, 0, 0] [] [(28, .bool (((((((u0.Mul == 0) || (decide ((max u0.Mul (w64 (0 - u0.Mul))) > 1000000))) || (decide (u0.Mul < (-1000000)))) || (decide (u0.Div < 1))) || (decide (u0.Div > 1000000))) || (decide (u0.Add > 1000000))) || (decide (u0.Add < (-1000000)))))] ?_; intro a1 j
   refine cd j (t := ((((((u0.Mul == 0) || (decide ((max u0.Mul (w64 (0 - u0.Mul))) > 1000000))) || (decide (u0.Mul < (-1000000)))) || (decide (u0.Div < 1))) || (decide (u0.Div > 1000000))) || (decide (u0.Add > 1000000))) || (decide (u0.Add < (-1000000)))) (by kernel_rfl) (fun G => ?_) (fun G => ?_)
   · -- yes
    have av := u.1 G
    refine sqB j a [] [] [(4, i6 3)] ?_; intro a2 aw
    exact r_ (i_ (h_ (ra1 aw (i6 3) ⟨3, rfl, av, a.below⟩)))
   · -- no
    have x := u.2 G
    refine sqB j a [0, 0] [] [(66, .bool ((decide (u0.Key < (-1))) || (decide (u0.Key > 255))))] ?_; intro a4 k
    refine cd k (t := (decide (u0.Key < (-1))) || (decide (u0.Key > 255))) (by kernel_rfl) (fun H => ?_) (fun H => ?_)
    · -- yes
     have ax := x.1 H
     refine sqB k a [] [] [(4, i6 3)] ?_; intro a5 ay
     exact r_ (i_ (h_ (ra1 ay (i6 3) ⟨3, rfl, ax, a.below⟩)))
    · -- no
     have y := x.2 H
     refine sqB k a [0, 0] [] [(75, .bool ((decide (u0.Start < 0)) || (decide (u0.Start ≥ (w64 (8 * u1))))))] ?_; intro a6 l
     refine cd l (t := (decide (u0.Start < 0)) || (decide (u0.Start ≥ (w64 (8 * u1))))) (by kernel_rfl) (fun I => ?_) (fun I => ?_)
     · -- yes
      have az := y.1 I
      refine sqB l a [] [] [(4, i6 7)] ?_; intro a8 aA
      exact r_ (i_ (h_ (ra1 aA (i6 7) ⟨7, rfl, az, a.below⟩)))
     · -- no
      have aB := y.2 I
      refine l_ (j_ (t_ (s_ (sqH ?_)))); intro aC X
      refine l2 l a 86 0 0 9 (e46B u0) rfl rfl ?_; intro a9 Y
      obtain ⟨aD, aa⟩ := aB
      refine ck Y 62 #[.agg (e46B u0).toArray] ?_
      refine (splaces_fun u0 aD _ _ a.fz).mono ?_; rintro _ ab ⟨b, f, aE, rfl, hm⟩; refine ⟨_, rfl, ?_⟩; intro ba ac; have ad := a.callZ hm
      have ae : Mem w.heap.size [] w Z [.own t6 3 b f (placesS u0), .row R (e46B u0) 46] aE ab := ad
      have aG := aa (ae.ownSmall 0 rfl)
      refine s1 ac 5 (.slice b (placesS u0).length f) ?_; intro bb af
      apply X
      refine sqH ?_; intro ag z
      refine s1 af 88 (.slice b (placesS u0).length f) ?_; intro bc ah
      obtain ⟨aH, aI, ai, aj⟩ := ae.freeze 0 rfl
      have J : Mem w.heap.size [] w Z [.row R (e46B u0) 46] aH ab := ai
      obtain ⟨aJ, A⟩ := aG
      refine fc ah J (imax_fun (placesS u0) aJ b f _ _ aj J.fz) ?_; intro bd be ak g
      refine bt ak g 4 [] [] [(93, .bool (decide ((maxL (placesS u0)) ≥ (w64 (8 * u1)))))] ?_; intro bf B
      rcases Bool.eq_false_or_eq_true (decide ((maxL (placesS u0)) ≥ (w64 (8 * u1)))) with m | m
      · -- true
       have aK := A.1 m
       have al := B.reval (d := 93) (c := []) (v := .bool (decide ((maxL (placesS u0)) ≥ (w64 (8 * u1))))) (by kernel_rfl) (.bool true) (by rw [m])
       refine bt al g 4 [] [94, 95, 96, 97] [(97, .bool true)] ?_; intro bg L
       apply z
       refine cdT L (by kernel_rfl) ?_
       refine sqB L g [] [] [(4, i6 7)] ?_; intro bh aL
       exact r_ (h_ (ra1 aL (i6 7) ⟨7, rfl, aK, g.below⟩))
      · -- false
       have aM := A.2 m
       have C := B.reval (d := 93) (c := []) (v := .bool (decide ((maxL (placesS u0)) ≥ (w64 (8 * u1))))) (by kernel_rfl) (.bool false) (by rw [m])
       refine g_ C false (.slice b (placesS u0).length f) ?_; intro bi M
       obtain ⟨aN, D⟩ := aM
       refine fcl M g (i6 (minL (placesS u0))) 87 #[.slice b (placesS u0).length f] (wK M false) rfl (by kernel_rfl) (fun _ => by kernel_rfl) (imin_fun (placesS u0) aN b f _ _ aj g.fz) ?_; intro bj bk am n
       refine bt am n 2 [] [96, 97] [(97, .bool (decide ((minL (placesS u0)) < 0)))] ?_; intro bl o
       apply z
       refine cd o (t := decide ((minL (placesS u0)) < 0)) (by kernel_rfl) (fun N => ?_) (fun N => ?_)
       · -- yes
        have aO := D.1 N
        refine sqB o n [] [] [(4, i6 7)] ?_; intro bm aP
        exact r_ (h_ (ra1 aP (i6 7) ⟨7, rfl, aO, n.below⟩))
       · -- no
        have aQ := D.2 N
        refine k_ (sqB o n [] [] [(4, i6 0)] ?_); intro bn aR
        exact r_ (ra1 aR (i6 0) ⟨0, rfl, aQ, n.below⟩)
theorem sget_walk (u0 : Signal) (u1 : List Int) (ao1 : Option Addr) (cap2 : Nat) (Z : Fz) (w : World) (hs3 : SlR t8 Z ao1 cap2 u1) (hZ : Z.on w) {K : Int → Prop} (hp : sget_vc u0 u1 K) : Calls Tryz.prog 25 #[.agg #[str u0.Name, i6 u0.Start, i6 u0.Size, .bool u0.Back, .bool u0.Signed, i6 u0.Mul, i6 u0.Div, i6 u0.Add, i6 u0.Key], .slice ao1 u1.length cap2] w fun e w' => ∃ r : Int, e = .returned (i6 r) ∧ K r ∧ Below w.heap.size w w' := by
 refine enter0 Tryz.func25 rfl rfl (by kernel_rfl) ?_; intro a0 M; have N := Mem.start w Z hZ
 have aJ := hp (hs3.small)
 refine sqH ?_; intro aK O
 refine nw M N pb (e46B u0) 46 ?_; intro i a7 bu P l
 refine s1 P 4 (i6 0) ?_; intro bv Q
 apply O
 refine sqB Q l [] [] [(5, i6 0)] ?_; intro bw R
 refine s_ (sqH ?_); intro aL S
 refine l2 R l 8 0 0 9 (e46B u0) rfl rfl ?_; intro bx U
 obtain ⟨aM, V⟩ := aJ
 refine ck U 62 #[.agg (e46B u0).toArray] ?_
 refine (splaces_fun u0 aM _ _ l.fz).mono ?_; rintro _ W ⟨m, n, aN, rfl, hm⟩; refine ⟨_, rfl, ?_⟩; intro bz X; have Y := l.callZ hm; have aa := hm.ext.le
 replace hs3 := hs3.mono aa
 have D : Mem w.heap.size [] w Z [.own t6 3 m n (placesS u0), .row i (e46B u0) 46] aN W := Y
 have aO := V (D.ownSmall 0 rfl)
 refine bt X D 2 [] [] [(10, i6 ((placesS u0).length : Int)), (11, i6 0)] ?_; intro ab ac
 apply S
 apply b_
 have ad : Fr 47 [] [⟨1, [], .slice ao1 u1.length cap2⟩, ⟨2, [], pt i 0⟩, ⟨5, [], i6 0⟩, ⟨9, [], .slice m (placesS u0).length n⟩, ⟨10, [], i6 ((placesS u0).length : Int)⟩, ⟨11, [], i6 0⟩] ab := ac.reg
 obtain ⟨E, ae, af, aP⟩ := D.freeze 0 rfl
 replace hs3 := hs3.mono ae
 have ag : Mem w.heap.size [] w Z [.row i (e46B u0) 46] E W := af
 have ah : Fr 47 [] [⟨1, [], .slice ao1 u1.length cap2⟩, ⟨2, [], pt i 0⟩, ⟨5, [], i6 0⟩, ⟨9, [], .slice m (placesS u0).length n⟩, ⟨10, [], i6 ((placesS u0).length : Int)⟩, ⟨11, [], i6 0⟩] ab := ad.reg
 obtain ⟨aQ, aR, aS, aT⟩ := aO
 refine lp (ι := Int × Int) (fun s => [⟨1, [], .slice ao1 u1.length cap2⟩, ⟨2, [], pt i 0⟩, ⟨5, [], i6 s.1⟩, ⟨9, [], .slice m (placesS u0).length n⟩, ⟨10, [], i6 ((placesS u0).length : Int)⟩, ⟨11, [], i6 s.2⟩]) (fun s => [.row i (e46B u0) 46]) (fun s => E) (fun s => aQ s.1 s.2) (fun s => aR s.1 s.2) ⟨0, 0⟩ aS (by exact ah.region (by kernel_rfl) (by kernel_rfl)) (by exact ag) ?_
 rintro ⟨b, f⟩ aU aV aW ai aj
 have x := aT b f aU
 refine sqB ai aj [] [] [(12, .bool (decide (f < ((placesS u0).length : Int))))] ?_; intro bA o
 apply s_
 refine cd o (t := decide (f < ((placesS u0).length : Int))) (by kernel_rfl) (fun F => ?_) (fun F => ?_)
 · -- yes
  have aX := x.1 F
  refine k_ (s_ (b_ (sqH ?_))); intro aY al
  refine s1 o 13 (i6 f) ?_; intro bB am
  obtain ⟨aZ, an⟩ := aX
  refine ix_ am aP f aZ .i64 3 8 ?_; intro bC bD a1 h bE a2 a3 a4 ao
  have a5 := an h a2
  obtain rfl : a1 = ([i6 h] : List Value) := a4
  refine z1 ao aj 15 a3 0 (i6 h) rfl ?_; intro bF ap
  refine bt ap aj 2 [] [] [(6, i6 f), (7, i6 h)] ?_; intro bG aq
  apply al
  refine rgH ?_; intro a6 ar
  refine bt aq aj 4 [] [] [(16, i6 b), (17, .slice ao1 u1.length cap2), (19, i6 (w64 (h.tdiv 8)))] ?_; intro bH au
  obtain ⟨a8, av⟩ := a5
  refine ix_ au hs3 (w64 (h.tdiv 8)) a8 .i64 5 1 ?_; intro bI bJ a9 j bK ba bb bc aw
  have bd := av j ba
  obtain rfl : a9 = ([y8 j] : List Value) := bc
  refine z1 aw aj 21 bb 0 (y8 j) rfl ?_; intro bL ax
  refine bt ax aj 2 [] [] [(23, i6 (h.tmod 8))] ?_; intro bM G
  obtain ⟨be, bf⟩ := bd
  refine u_ G (y8 (bShr .u8 j (h.tmod 8))) (shr_run G (g := []) (k' := .i64) rfl (by kernel_rfl) (by kernel_rfl) be rfl) ?_; intro bN ay
  refine bt ay aj 3 [] [] [(26, i6 (w64 (bAnd .u8 (bShr .u8 j (h.tmod 8)) 1))), (27, i6 f)] ?_; intro bO H
  obtain ⟨bg, az⟩ := bf
  refine u_ H (i6 (bShl .i64 (w64 (bAnd .u8 (bShr .u8 j (h.tmod 8)) 1)) f)) (shl_run H (g := []) (k' := .i64) rfl (by kernel_rfl) (by kernel_rfl) bg rfl) ?_; intro bP aA
  refine bt aA aj 2 [] [] [(5, i6 (bOr .i64 b (bShl .i64 (w64 (bAnd .u8 (bShr .u8 j (h.tmod 8)) 1)) f)))] ?_; intro bQ aB
  apply ar
  refine j_ (t_ (rgB aB aj [] [] [(11, i6 (w64 (f + 1)))] ?_)); intro bR bh
  exact d_ ⟨⟨bOr .i64 b (bShl .i64 (w64 (bAnd .u8 (bShr .u8 j (h.tmod 8)) 1)) f), w64 (f + 1)⟩, az.1, az.2, (bh.region (by kernel_rfl) (by kernel_rfl)).anyβ _ (by kernel_rfl), aj.kp⟩
 · -- no
  have y := x.2 F
  refine x_ (y_ (y_ (z_ (t_ (s_ (sqH ?_)))))); intro aC z
  refine bt o aj 3 [0] [] [(33, .bool u0.Signed)] ?_; intro bS A
  rcases Bool.eq_false_or_eq_true (u0.Signed) with p | p
  · -- true
   have bi := y.1 p
   have aD := A.reval (d := 33) (c := []) (v := .bool u0.Signed) (by kernel_rfl) (.bool true) (by rw [p])
   refine bt aD aj 4 [0] [34, 35, 36, 37] [(34, i6 b), (37, i6 (w64 (u0.Size - 1)))] ?_; intro bT B
   obtain ⟨bj, C⟩ := bi
   refine v_ B (i6 (bShr .i64 b (w64 (u0.Size - 1)))) (wK B true) (shr_run B (g := []) (k' := .i64) rfl (by kernel_rfl) (by kernel_rfl) bj rfl) ?_; intro bU aE
   refine bt aE aj 2 [] [39, 40] [(40, .bool ((bShr .i64 b (w64 (u0.Size - 1))) == 1))] ?_; intro bV q
   apply z
   refine cd q (t := (bShr .i64 b (w64 (u0.Size - 1))) == 1) (by kernel_rfl) (fun I => ?_) (fun I => ?_)
   · -- yes
    have bk := C.1 I
    refine rgH ?_; intro bl aF
    refine bt q aj 3 [0] [] [(41, i6 b), (43, i6 u0.Size)] ?_; intro bW J
    obtain ⟨bm, bn⟩ := bk
    refine u_ J (i6 (bShl .i64 1 u0.Size)) (shl_run J (g := []) (k' := .i64) rfl (by kernel_rfl) (by kernel_rfl) bm rfl) ?_; intro bX aG
    refine bt aG aj 2 [] [] [(5, i6 (w64 (b - (bShl .i64 1 u0.Size))))] ?_; intro bY aH
    apply aF
    refine t_ (sqB aH aj [] [] [(4, i6 (w64 (b - (bShl .i64 1 u0.Size))))] ?_); intro bZ bo
    exact r_ (ra1 bo (i6 (w64 (b - (bShl .i64 1 u0.Size)))) ⟨w64 (b - (bShl .i64 1 u0.Size)), rfl, bn, aj.below⟩)
   · -- no
    have bp := C.2 I
    refine k_ (sqB q aj [] [] [(4, i6 b)] ?_); intro b0 bq
    exact r_ (ra1 bq (i6 b) ⟨b, rfl, bp, aj.below⟩)
  · -- false
   have br := y.2 p
   have aI := A.reval (d := 33) (c := []) (v := .bool u0.Signed) (by kernel_rfl) (.bool false) (by rw [p])
   refine bt aI aj 7 [] [34, 35, 36, 37, 38, 39, 40] [(40, .bool false)] ?_; intro b1 L
   apply z
   refine cdF L (by kernel_rfl) ?_
   refine k_ (sqB L aj [] [] [(4, i6 b)] ?_); intro b2 bs
   exact r_ (ra1 bs (i6 b) ⟨b, rfl, br, aj.below⟩)
theorem sputd_walk (u0 : Signal) (u1 : List Int) (u2 : Int) (ao1 : Option Addr) (cap2 : Nat) (B : Nat) (w0 : World) (Z0 : Fz) (Rr : List Res) (Z : Fz) (w : World) (hM0 : Mem B [] w0 Z0 ((.own t8 5 ao1 cap2 u1) :: Rr) Z w) (hZ : Z.on w) {K : (List Int) → Prop} (hp : sputd_vc u0 u1 u2 K) : Calls Tryz.prog 37 #[.agg #[str u0.Name, i6 u0.Start, i6 u0.Size, .bool u0.Back, .bool u0.Signed, i6 u0.Mul, i6 u0.Div, i6 u0.Add, i6 u0.Key], .slice ao1 u1.length cap2, i6 u2] w fun e w' => ∃ (r : (List Int)) (Z' : Fz), e = .returned (.tuple #[]) ∧ K r ∧ Fz.le Z Z' ∧ (r.length = u1.length) ∧ Mem B [] w0 Z0 ((.own t8 5 ao1 cap2 r) :: Rr) Z' w' := by
 refine enter0 Tryz.func37 rfl rfl (by kernel_rfl) ?_; intro a0 G; have n := Fz.le.refl Z
 have ax := hp (hM0.ownSmall 0 rfl)
 refine sqH ?_; intro ay H
 refine nw G hM0 pb (e46B u0) 46 ?_; intro o a6 bj I q
 apply H
 refine sqH ?_; intro az J
 refine l2 I q 8 0 0 9 (e46B u0) rfl rfl ?_; intro bk L
 obtain ⟨aA, M⟩ := ax
 refine ck L 62 #[.agg (e46B u0).toArray] ?_
 refine (splaces_fun u0 aA _ _ q.fz).mono ?_; rintro _ N ⟨f, i, aB, rfl, hm⟩; refine ⟨_, rfl, ?_⟩; intro bl O; have P := q.callZ hm; have aC := hm.ext.le
 replace n := Fz.le.trans n aC
 have A : Mem B [] w0 Z0 ((.own t6 3 f i (placesS u0)) :: (.row o (e46B u0) 46) :: (.own t8 5 ao1 cap2 u1) :: Rr) aB N := P
 have aD := M (A.ownSmall 0 rfl)
 refine bt O A 2 [] [] [(10, i6 ((placesS u0).length : Int)), (11, i6 0)] ?_; intro Q R
 apply J
 apply b_
 have S : Fr 39 [] [⟨1, [], .slice ao1 u1.length cap2⟩, ⟨2, [], i6 u2⟩, ⟨9, [], .slice f (placesS u0).length i⟩, ⟨10, [], i6 ((placesS u0).length : Int)⟩, ⟨11, [], i6 0⟩] Q := R.reg
 obtain ⟨l, aE, U, aF⟩ := A.freeze 0 rfl
 replace n := Fz.le.trans n aE
 have V : Mem B [] w0 Z0 ((.row o (e46B u0) 46) :: (.own t8 5 ao1 cap2 u1) :: Rr) l N := U
 have W : Fr 39 [] [⟨1, [], .slice ao1 u1.length cap2⟩, ⟨2, [], i6 u2⟩, ⟨9, [], .slice f (placesS u0).length i⟩, ⟨10, [], i6 ((placesS u0).length : Int)⟩, ⟨11, [], i6 0⟩] Q := S.reg
 obtain ⟨aG, aH, aI, aJ⟩ := aD
 refine lp (ι := Int × (List Int)) (fun s => [⟨1, [], .slice ao1 s.2.length cap2⟩, ⟨2, [], i6 u2⟩, ⟨9, [], .slice f (placesS u0).length i⟩, ⟨10, [], i6 ((placesS u0).length : Int)⟩, ⟨11, [], i6 s.1⟩]) (fun s => ((.row o (e46B u0) 46) :: (.own t8 5 ao1 cap2 s.2) :: Rr)) (fun s => l) (fun s => aG s.1 s.2) (fun s => aH s.1 s.2) ⟨0, u1⟩ aI (by exact W.region (by kernel_rfl) (by kernel_rfl)) (by exact V) ?_
 rintro ⟨b, c⟩ aK aL aM X Y
 have x := aJ b c aK
 refine sqB X Y [] [] [(12, .bool (decide (b < ((placesS u0).length : Int))))] ?_; intro bm p
 apply s_
 refine cd p (t := decide (b < ((placesS u0).length : Int))) (by kernel_rfl) (fun C => ?_) (fun C => ?_)
 · -- yes
  have aN := x.1 C
  refine k_ (s_ (b_ (sqH ?_))); intro aO ab
  refine s1 p 13 (i6 b) ?_; intro bn ac
  obtain ⟨aP, ad⟩ := aN
  refine ix_ ac aF b aP .i64 3 8 ?_; intro bo bp aQ a bq aR aS aT ae
  have aU := ad a aR
  obtain rfl : aQ = ([i6 a] : List Value) := aT
  refine z1 ae Y 15 aS 0 (i6 a) rfl ?_; intro br af
  refine bt af Y 2 [] [] [(6, i6 b), (7, i6 a)] ?_; intro aV ag
  apply ab
  have ah : Fr 39 [] [⟨1, [], .slice ao1 c.length cap2⟩, ⟨2, [], i6 u2⟩, ⟨6, [], i6 b⟩, ⟨7, [], i6 a⟩, ⟨9, [], .slice f (placesS u0).length i⟩, ⟨10, [], i6 ((placesS u0).length : Int)⟩, ⟨11, [], i6 b⟩] aV := ag.reg
  refine rgS mixed Y [(0, true), (1, true), (2, true), (3, true), (4, true), (5, true), (8, true), (9, true), (12, true), (13, true), (17, true), (18, true), (6, true), (7, true), (10, true), (11, true), (14, true), (15, true), (16, true), (19, true), (20, true), (21, true), (22, false)] [22] [1] [.own t8 5 ao1 cap2 c] ?_
  intro aW ai bs y
  refine cS ah 12 [] [] [(16, .slice ao1 c.length cap2), (18, i6 (w64 (a.tdiv 8))), (19, .slice ao1 c.length cap2), (21, i6 (w64 (a.tdiv 8))), (25, i6 (a.tmod 8)), (28, i6 u2), (29, i6 b), (34, i6 (a.tmod 8))] ?_; intro bv aj
  obtain ⟨aX, ak⟩ := aU
  refine cixo rfl aj y 1 (T := t8) (xs := c) (w64 (a.tdiv 8)) aX (k := .i64) (e := 5) (bytes := 1) (nog rfl _) rfl (by kernel_rfl) rfl (by kernel_rfl) (by kernel_rfl) rfl (by kernel_rfl) ?_; intro j bw aY al
  subst aY
  obtain ⟨d, aZ, a1⟩ := gxq ak (by first | omega | (simp only [List.length_set] at *; omega))
  refine clo1 rfl al 0 (T := t8) (xs := c) rfl (w64 (a.tdiv 8)).toNat 0 aZ [y8 d] (fun _ h => h) (y8 d) rfl (nog rfl _) rfl (by kernel_rfl) rfl (by kernel_rfl) (by kernel_rfl) ?_; intro bx D
  obtain ⟨a2, a3⟩ := a1
  refine cst rfl D (y8 (bShl .u8 1 (a.tmod 8))) (nog rfl _) rfl (by kernel_rfl) (fun v117 hC => shl_run D (g := []) (k' := .i64) rfl (by kernel_rfl) (by kernel_rfl) a2 rfl) ?_; intro bz am
  refine cS am 1 [] [] [(27, y8 (bAndNot .u8 d (bShl .u8 1 (a.tmod 8))))] ?_; intro bA E
  obtain ⟨a4, a5⟩ := a3
  refine cst rfl E (i6 (bShr .i64 u2 b)) (nog rfl _) rfl (by kernel_rfl) (fun v124 hC => shr_run E (g := []) (k' := .i64) rfl (by kernel_rfl) (by kernel_rfl) a4 rfl) ?_; intro bB an
  refine cS an 2 [] [] [(32, y8 (w8 (bAnd .i64 (bShr .i64 u2 b) 1)))] ?_; intro bC F
  obtain ⟨a7, a8⟩ := a5
  refine cst rfl F (y8 (bShl .u8 (w8 (bAnd .i64 (bShr .i64 u2 b) 1)) (a.tmod 8))) (nog rfl _) rfl (by kernel_rfl) (fun v133 hC => shl_run F (g := []) (k' := .i64) rfl (by kernel_rfl) (by kernel_rfl) a7 rfl) ?_; intro bD ao
  refine cS ao 1 [] [] [(36, y8 (bOr .u8 (bAndNot .u8 d (bShl .u8 1 (a.tmod 8))) (bShl .u8 (w8 (bAnd .i64 (bShr .i64 u2 b) 1)) (a.tmod 8))))] ?_; intro bE ap
  obtain ⟨a9, aq⟩ := a8
  refine cixo rfl ap y 1 (T := t8) (xs := c) (w64 (a.tdiv 8)) a9 (k := .i64) (e := 5) (bytes := 1) (nog rfl _) rfl (by kernel_rfl) rfl (by kernel_rfl) (by kernel_rfl) rfl (by kernel_rfl) ?_; intro ba bb bc z
  obtain rfl : j = ba := by simpa using bc
  refine eL rfl ?_; intro bd ar
  refine so z y 1 (T := t8) (xs := c) (w64 (a.tdiv 8)).toNat (bOr .u8 (bAndNot .u8 d (bShl .u8 1 (a.tmod 8))) (bShl .u8 (w8 (bAnd .i64 (bShr .i64 u2 b) 1)) (a.tmod 8))) (u := y8 (bOr .u8 (bAndNot .u8 d (bShl .u8 1 (a.tmod 8))) (bShl .u8 (w8 (bAnd .i64 (bShr .i64 u2 b) 1)) (a.tmod 8)))) (nog rfl _) rfl rfl (by kernel_rfl) rfl (by kernel_rfl) rfl (by kernel_rfl) (by first | omega | (simp only [List.length_set] at *; omega)) rfl ?_; intro be au
  have av : Fr 39 [] [⟨1, [], .slice (sm j) (c.set (w64 (a.tdiv 8)).toNat (bOr .u8 (bAndNot .u8 d (bShl .u8 1 (a.tmod 8))) (bShl .u8 (w8 (bAnd .i64 (bShr .i64 u2 b) 1)) (a.tmod 8)))).length cap2⟩, ⟨2, [], i6 u2⟩, ⟨6, [], i6 b⟩, ⟨7, [], i6 a⟩, ⟨9, [], .slice f (placesS u0).length i⟩, ⟨10, [], i6 ((placesS u0).length : Int)⟩, ⟨11, [], i6 b⟩, ⟨16, [], .slice (sm j) (c.set (w64 (a.tdiv 8)).toNat (bOr .u8 (bAndNot .u8 d (bShl .u8 1 (a.tmod 8))) (bShl .u8 (w8 (bAnd .i64 (bShr .i64 u2 b) 1)) (a.tmod 8)))).length cap2⟩, ⟨18, [], i6 (w64 (a.tdiv 8))⟩, ⟨19, [], .slice (sm j) (c.set (w64 (a.tdiv 8)).toNat (bOr .u8 (bAndNot .u8 d (bShl .u8 1 (a.tmod 8))) (bShl .u8 (w8 (bAnd .i64 (bShr .i64 u2 b) 1)) (a.tmod 8)))).length cap2⟩, ⟨21, [], i6 (w64 (a.tdiv 8))⟩, ⟨22, [], .pointer (some ⟨j, (w64 (a.tdiv 8)).toNat * 1, none⟩)⟩, ⟨23, [], y8 d⟩, ⟨25, [], i6 (a.tmod 8)⟩, ⟨26, [], y8 (bShl .u8 1 (a.tmod 8))⟩, ⟨27, [], y8 (bAndNot .u8 d (bShl .u8 1 (a.tmod 8)))⟩, ⟨28, [], i6 u2⟩, ⟨29, [], i6 b⟩, ⟨30, [], i6 (bShr .i64 u2 b)⟩, ⟨32, [], y8 (w8 (bAnd .i64 (bShr .i64 u2 b) 1))⟩, ⟨34, [], i6 (a.tmod 8)⟩, ⟨35, [], y8 (bShl .u8 (w8 (bAnd .i64 (bShr .i64 u2 b) 1)) (a.tmod 8))⟩, ⟨36, [], y8 (bOr .u8 (bAndNot .u8 d (bShl .u8 1 (a.tmod 8))) (bShl .u8 (w8 (bAnd .i64 (bShr .i64 u2 b) 1)) (a.tmod 8)))⟩, ⟨37, [], .pointer (some ⟨j, (w64 (a.tdiv 8)).toNat * 1, none⟩)⟩] bb := by (try simp only [List.length_set] at z); (try simp only [List.length_set]); exact z.region (by kernel_rfl) (by kernel_rfl)
  have aw : Mem B [] w0 Z0 ((.row o (e46B u0) 46) :: (.own t8 5 (sm j) cap2 (c.set (w64 (a.tdiv 8)).toNat (bOr .u8 (bAndNot .u8 d (bShl .u8 1 (a.tmod 8))) (bShl .u8 (w8 (bAnd .i64 (bShr .i64 u2 b) 1)) (a.tmod 8))))) :: Rr) l be := au
  refine nl (qnI (ar _ _ ?_))
  refine nS (ai _ _ ?_)
  refine j_ (t_ (rgB av aw [] [] [(11, i6 (w64 (b + 1)))] ?_)); intro bF bf
  exact d_ ⟨⟨w64 (b + 1), c.set (w64 (a.tdiv 8)).toNat (bOr .u8 (bAndNot .u8 d (bShl .u8 1 (a.tmod 8))) (bShl .u8 (w8 (bAnd .i64 (bShr .i64 u2 b) 1)) (a.tmod 8)))⟩, aq.1, aq.2, (bf.region (by kernel_rfl) (by kernel_rfl)).anyβ _ (by kernel_rfl), aw.kp⟩
 · -- no
  have bg := x.2 C
  refine x_ (y_ (y_ (z_ ?_)))
  obtain ⟨bh, bi⟩ := bg
  refine rN (fn := Tryz.f37) (v := .tuple #[]) p (re0 p (fn := Tryz.f37) rfl) ?_
  exact ⟨c, l, rfl, bi, n, bh, Y.kp⟩
end Go.Proofs.YtdndfbamhnchfaaGreatDoor
set_option linter.unusedVariables false
set_option linter.unusedSimpArgs false
set_option linter.defProp false
set_option maxRecDepth 100000
set_option maxHeartbeats 0
namespace Go.Proofs.YtdndfbamhnchfaaGreatDoor
open Go.Sy Go.RowKit
abbrev e46C (X : Signal) : List Value := [str X.Name, i6 X.Start, i6 X.Size, .bool X.Back, .bool X.Signed, i6 X.Mul, i6 X.Div, i6 X.Add, i6 X.Key]
def scheck_fun (u0 : Signal) (u1 : Int)  (Z : Fz) (w : World)  (hZ : Z.on w) := f_ (scheck_walk u0 u1  Z w  hZ (scheck_ok u0 u1))
def sget_fun (u0 : Signal) (u1 : List Int) (hpre : inD u0 u1) (ao1 : Option Addr) (cap2 : Nat) (Z : Fz) (w : World) (hs3 : SlR t8 Z ao1 cap2 u1) (hZ : Z.on w) := f_ (sget_walk u0 u1 ao1 cap2 Z w hs3 hZ (sget_ok u0 u1 hpre))
theorem sputd_fun (u0 : Signal) (u1 : List Int) (u2 : Int) (hpre : inD u0 u1) (ao1 : Option Addr) (cap2 : Nat) (B : Nat) (w0 : World) (Z0 : Fz) (Rr : List Res) (Z : Fz) (w : World) (hM0 : Mem B [] w0 Z0 ((.own t8 5 ao1 cap2 u1) :: Rr) Z w) (hZ : Z.on w) : Calls Tryz.prog 37 #[.agg #[str u0.Name, i6 u0.Start, i6 u0.Size, .bool u0.Back, .bool u0.Signed, i6 u0.Mul, i6 u0.Div, i6 u0.Add, i6 u0.Key], .slice ao1 u1.length cap2, i6 u2] w fun e w' => ∃ (Z' : Fz), e = .returned (.tuple #[]) ∧ Fz.le Z Z' ∧ ((putS u0 u1 u2).length = u1.length) ∧ Mem B [] w0 Z0 ((.own t8 5 ao1 cap2 (putS u0 u1 u2)) :: Rr) Z' w' :=
 (sputd_walk u0 u1 u2 ao1 cap2 B w0 Z0 Rr Z w hM0 hZ (sputd_ok u0 u1 u2 hpre)).mono fun _ _ ⟨r, h0, he, hk, f0, f1, hm⟩ => by subst hk; exact ⟨h0, he, f0, f1, hm⟩
theorem sraw_walk (u0 : Signal) (u1 : Int) (u2 : Int)  (Z : Fz) (w : World)  (hZ : Z.on w) {K : (Int × Int) → Prop} (hp : sraw_vc u0 u1 u2 K) : Calls Tryz.prog 36 #[.agg #[str u0.Name, i6 u0.Start, i6 u0.Size, .bool u0.Back, .bool u0.Signed, i6 u0.Mul, i6 u0.Div, i6 u0.Add, i6 u0.Key], i6 u1, i6 u2] w fun e w' => ∃ r : Int × Int, e = .returned (.tuple #[i6 r.1, i6 r.2]) ∧ K r ∧ Below w.heap.size w w' := by
 refine enter0 Tryz.func36 rfl rfl (by kernel_rfl) ?_; intro a0 aq; have ar := Mem.start w Z hZ
 refine sqH ?_; intro cH au
 refine nw aq ar pb (e46C u0) 46 ?_; intro k a3 dM av p
 refine bt av p 2 [] [] [] ?_; intro a9 aw
 apply au
 refine s_ (sqH ?_); intro cI ax
 refine l2 aw p 17 0 0 9 (e46C u0) rfl rfl ?_; intro dN ay
 refine fc ay p (scheck_fun u0 64 _ _ p.fz) ?_; intro dO dP az l
 refine s1 az 8 (i6 (checkS u0 64)) ?_; intro dQ aA
 apply ax
 refine sqB aA l [] [] [(20, .bool ((checkS u0 64) != 0))] ?_; intro dR q
 refine c_ q hp (fun _ cJ => ?_) fun _ B => ?_
 ·
  refine sqB q l [] [] [(6, i6 0), (7, i6 (checkS u0 64))] ?_; intro dS cK
  exact r_ (h_ (ra2 cK (.tuple #[i6 0, i6 (checkS u0 64)]) ⟨(0, (checkS u0 64)), rfl, cJ, l.below⟩))
 refine k_ (s_ (sqB q l [] [] [(35, .bool ((((decide (u2 < 1)) || (decide (u2 > 1000000))) || (decide (u1 > 1099511627776))) || (decide (u1 < (-1099511627776)))))] ?_)); intro dT s
 refine c_ s B (fun _ cL => ?_) fun _ cN => ?_
 ·
  refine sqB s l [] [] [(6, i6 0), (7, i6 3)] ?_; intro dU cM
  exact r_ (h_ (ra2 cM (.tuple #[i6 0, i6 3]) ⟨(0, 3), rfl, cL, l.below⟩))
 refine k_ (sqB s l [0] [] [(9, i6 (w64 (u1 - (w64 (u0.Add * u2)))))] ?_); intro dV aB
 refine sqH ?_; intro cO aC
 refine bt aB l 4 [0, 0] [] [(43, i6 u0.Div), (45, i6 u0.Mul)] ?_; intro dW aD
 refine ck aD 61 #[i6 u0.Div, i6 u0.Mul] ?_
 refine (sgcd_walk u0.Div u0.Mul _ _ l.fz cN).mono ?_; rintro _ dX ⟨i, rfl, cP, hb⟩; refine ⟨_, rfl, ?_⟩; intro dY aE; have aF := l.call hb
 refine s1 aE 10 (i6 i) ?_; intro cQ aG
 apply aC
 have aH : Fr 171 [] [⟨2, [], i6 u2⟩, ⟨3, [], pt k 0⟩, ⟨9, [], i6 (w64 (u1 - (w64 (u0.Add * u2))))⟩, ⟨10, [], i6 i⟩] cQ := aG.reg
 refine sqQH mixed (by kernel_rfl) aF ?_; intro cR aI
 refine q1 aH 47 (pt k 6) ?_; intro dZ M
 refine ql_ M 0 6 (i6 u0.Div) rfl rfl ?_; intro d0 aJ
 refine q1 aJ 49 (i6 i) ?_; intro d1 N
 obtain ⟨cS, cT⟩ := cP
 refine qu_ N (i6 (w64 (u0.Div.tdiv i))) (fun v118 hC => quo_run N (g := []) rfl (by kernel_rfl) (by kernel_rfl) cS rfl) ?_; intro d2 aK
 refine q1 aK 51 (pt k 5) ?_; intro d3 O
 refine ql_ O 0 5 (i6 u0.Mul) rfl rfl ?_; intro d4 aL
 refine q1 aL 53 (i6 i) ?_; intro d5 P
 obtain ⟨cU, cV⟩ := cT
 refine qu_ P (i6 (w64 (u0.Mul.tdiv i))) (fun v132 hC => quo_run P (g := []) rfl (by kernel_rfl) (by kernel_rfl) cU rfl) ?_; intro d6 aM
 refine q1 aM 11 (i6 (w64 (u0.Div.tdiv i))) ?_; intro d7 aN
 refine q1 aN 12 (i6 (w64 (u0.Mul.tdiv i))) ?_; intro d8 aO
 refine qnl (aI _ ?_); intro d9 u
 refine s_ (sqB aO u [] [] [(56, .bool (decide ((w64 (u0.Mul.tdiv i)) < 0)))] ?_); intro aP aQ
 have aR : Fr 171 [] [⟨2, [], i6 u2⟩, ⟨3, [], pt k 0⟩, ⟨9, [], i6 (w64 (u1 - (w64 (u0.Add * u2))))⟩, ⟨11, [], i6 (w64 (u0.Div.tdiv i))⟩, ⟨12, [], i6 (w64 (u0.Mul.tdiv i))⟩, ⟨56, [], .bool (decide ((w64 (u0.Mul.tdiv i)) < 0))⟩] aP := aQ.reg
 obtain ⟨cW, C, cX⟩ := cV
 refine wp_then_k fun KJ155 hKJ156 => ?_
 have aS : ∀ (f : Int) (j : Int), cW f j → ∀ a1 w1, Fr 171 [] [⟨2, [], i6 u2⟩, ⟨3, [], pt k 0⟩, ⟨9, [], i6 (w64 (u1 - (w64 (u0.Add * u2))))⟩, ⟨11, [], i6 f⟩, ⟨12, [], i6 j⟩] a1 → Mem w.heap.size [] w Z [.row k (e46C u0) 46] Z w1 → KJ155 a1 w1 := by
  rintro f j cY ea eb aT D
  refine hKJ156 _ _ ?_
  have cZ := cX f j cY
  refine sqH ?_; intro c0 aU
  refine bt aT D 2 [] [] [(61, i6 (w64 (u1 - (w64 (u0.Add * u2))))), (62, i6 u2)] ?_; intro ec aV
  refine ck aV 61 #[i6 (w64 (u1 - (w64 (u0.Add * u2)))), i6 u2] ?_
  refine (sgcd_walk (w64 (u1 - (w64 (u0.Add * u2)))) u2 _ _ D.fz cZ).mono ?_; rintro _ ed ⟨a, rfl, c1, hb⟩; refine ⟨_, rfl, ?_⟩; intro ee aW; have aX := D.call hb
  refine s1 aW 13 (i6 a) ?_; intro c2 aY
  apply aU
  have aZ : Fr 171 [] [⟨2, [], i6 u2⟩, ⟨3, [], pt k 0⟩, ⟨9, [], i6 (w64 (u1 - (w64 (u0.Add * u2))))⟩, ⟨11, [], i6 f⟩, ⟨12, [], i6 j⟩, ⟨13, [], i6 a⟩] c2 := aY.reg
  refine sqQH mixed (by kernel_rfl) aX ?_; intro c3 a2
  refine q1 aZ 64 (i6 (w64 (u1 - (w64 (u0.Add * u2))))) ?_; intro ef a4
  refine q1 a4 65 (i6 a) ?_; intro eg Q
  obtain ⟨c4, c5⟩ := c1
  refine qu_ Q (i6 (w64 ((w64 (u1 - (w64 (u0.Add * u2)))).tdiv a))) (fun v185 hC => quo_run Q (g := []) rfl (by kernel_rfl) (by kernel_rfl) c4 rfl) ?_; intro eh a5
  refine q1 a5 67 (i6 u2) ?_; intro ei a6
  refine q1 a6 68 (i6 a) ?_; intro ej R
  obtain ⟨c6, c7⟩ := c5
  refine qu_ R (i6 (w64 (u2.tdiv a))) (fun v196 hC => quo_run R (g := []) rfl (by kernel_rfl) (by kernel_rfl) c6 rfl) ?_; intro ek a7
  refine q1 a7 9 (i6 (w64 ((w64 (u1 - (w64 (u0.Add * u2)))).tdiv a))) ?_; intro el a8
  refine q1 a8 2 (i6 (w64 (u2.tdiv a))) ?_; intro em ba
  refine qnl (a2 _ ?_); intro en E
  refine sqH ?_; intro c8 bb
  refine bt ba E 2 [] [] [(70, i6 f), (71, i6 (w64 (u2.tdiv a)))] ?_; intro eo bc
  refine ck bc 61 #[i6 f, i6 (w64 (u2.tdiv a))] ?_
  refine (sgcd_walk f (w64 (u2.tdiv a)) _ _ E.fz c7).mono ?_; rintro _ ep ⟨h, rfl, c9, hb⟩; refine ⟨_, rfl, ?_⟩; intro eq bd; have be := E.call hb
  refine s1 bd 13 (i6 h) ?_; intro da bf
  apply bb
  have bg : Fr 171 [] [⟨2, [], i6 (w64 (u2.tdiv a))⟩, ⟨3, [], pt k 0⟩, ⟨9, [], i6 (w64 ((w64 (u1 - (w64 (u0.Add * u2)))).tdiv a))⟩, ⟨11, [], i6 f⟩, ⟨12, [], i6 j⟩, ⟨13, [], i6 h⟩] da := bf.reg
  refine sqQH mixed (by kernel_rfl) be ?_; intro db bh
  refine q1 bg 73 (i6 f) ?_; intro er bi
  refine q1 bi 74 (i6 h) ?_; intro es S
  obtain ⟨dc, dd⟩ := c9
  refine qu_ S (i6 (w64 (f.tdiv h))) (fun v230 hC => quo_run S (g := []) rfl (by kernel_rfl) (by kernel_rfl) dc rfl) ?_; intro et bk
  refine q1 bk 76 (i6 (w64 (u2.tdiv a))) ?_; intro eu bl
  refine q1 bl 77 (i6 h) ?_; intro ev T
  obtain ⟨de, df⟩ := dd
  refine qu_ T (i6 (w64 ((w64 (u2.tdiv a)).tdiv h))) (fun v241 hC => quo_run T (g := []) rfl (by kernel_rfl) (by kernel_rfl) de rfl) ?_; intro ew bm
  refine q1 bm 11 (i6 (w64 (f.tdiv h))) ?_; intro ex bn
  refine q1 bn 2 (i6 (w64 ((w64 (u2.tdiv a)).tdiv h))) ?_; intro ey bo
  refine qnl (bh _ ?_); intro ez F
  refine sqH ?_; intro dg bp
  refine bt bo F 2 [] [] [(79, i6 (w64 ((w64 (u1 - (w64 (u0.Add * u2)))).tdiv a))), (80, i6 j)] ?_; intro eA bq
  refine ck bq 61 #[i6 (w64 ((w64 (u1 - (w64 (u0.Add * u2)))).tdiv a)), i6 j] ?_
  refine (sgcd_walk (w64 ((w64 (u1 - (w64 (u0.Add * u2)))).tdiv a)) j _ _ F.fz df).mono ?_; rintro _ eB ⟨d, rfl, dh, hb⟩; refine ⟨_, rfl, ?_⟩; intro eC br; have bs := F.call hb
  refine s1 br 13 (i6 d) ?_; intro di bu
  apply bp
  have bv : Fr 171 [] [⟨2, [], i6 (w64 ((w64 (u2.tdiv a)).tdiv h))⟩, ⟨3, [], pt k 0⟩, ⟨9, [], i6 (w64 ((w64 (u1 - (w64 (u0.Add * u2)))).tdiv a))⟩, ⟨11, [], i6 (w64 (f.tdiv h))⟩, ⟨12, [], i6 j⟩, ⟨13, [], i6 d⟩] di := bu.reg
  refine sqQH mixed (by kernel_rfl) bs ?_; intro dj bw
  refine q1 bv 82 (i6 (w64 ((w64 (u1 - (w64 (u0.Add * u2)))).tdiv a))) ?_; intro eD bx
  refine q1 bx 83 (i6 d) ?_; intro eE U
  obtain ⟨dk, dl⟩ := dh
  refine qu_ U (i6 (w64 ((w64 ((w64 (u1 - (w64 (u0.Add * u2)))).tdiv a)).tdiv d))) (fun v275 hC => quo_run U (g := []) rfl (by kernel_rfl) (by kernel_rfl) dk rfl) ?_; intro eF bz
  refine q1 bz 85 (i6 j) ?_; intro eG bA
  refine q1 bA 86 (i6 d) ?_; intro eH V
  obtain ⟨dm, G⟩ := dl
  refine qu_ V (i6 (w64 (j.tdiv d))) (fun v286 hC => quo_run V (g := []) rfl (by kernel_rfl) (by kernel_rfl) dm rfl) ?_; intro eI bB
  refine q1 bB 9 (i6 (w64 ((w64 ((w64 (u1 - (w64 (u0.Add * u2)))).tdiv a)).tdiv d))) ?_; intro eJ bC
  refine q1 bC 12 (i6 (w64 (j.tdiv d))) ?_; intro eK bD
  refine qnl (bw _ ?_); intro eL o
  refine s_ (sqB bD o [] [] [(93, .bool (((w64 ((w64 (u2.tdiv a)).tdiv h)) != 1) || ((w64 (j.tdiv d)) != 1)))] ?_); intro eM y
  refine c_ y G (fun _ dn => ?_) fun _ dq => ?_
  ·
   refine sqB y o [] [] [(6, i6 0), (7, i6 4)] ?_; intro eN dp
   exact r_ (h_ (ra2 dp (.tuple #[i6 0, i6 4]) ⟨(0, 4), rfl, dn, o.below⟩))
  refine k_ (sqH ?_); intro dr bE
  refine l2 y o 95 0 0 9 (e46C u0) rfl rfl ?_; intro eO bF
  obtain ⟨ds, dt⟩ := dq
  refine fc bF o (sbounds_fun u0 ds _ _ o.fz) ?_; intro eP eQ bG n
  refine bt bG n 5 [] [] [(14, i6 (boundsS u0).1), (15, i6 (boundsS u0).2)] ?_; intro eR bH
  apply bE
  refine s_ (sqH ?_); intro du bI
  refine s1 bH 99 (i6 (w64 ((w64 ((w64 (u1 - (w64 (u0.Add * u2)))).tdiv a)).tdiv d))) ?_; intro eS bJ
  refine s1 bJ 100 (.bool (decide ((w64 ((w64 ((w64 (u1 - (w64 (u0.Add * u2)))).tdiv a)).tdiv d)) > 0))) ?_; intro eT bK
  refine s1 bK 101 (.bool (decide ((w64 ((w64 ((w64 (u1 - (w64 (u0.Add * u2)))).tdiv a)).tdiv d)) > 0))) ?_; intro eU bL
  have bM := bL.atom ((decide ((w64 ((w64 ((w64 (u1 - (w64 (u0.Add * u2)))).tdiv a)).tdiv d)) > 0)) == true) (by kernel_rfl)
  refine gp bM 102 0 [] (decide ((w64 ((w64 ((w64 (u1 - (w64 (u0.Add * u2)))).tdiv a)).tdiv d)) > 0)) (i6 (w64 (f.tdiv h))) rfl rfl ?_; intro eV bN
  refine gp bN 103 0 [] (decide ((w64 ((w64 ((w64 (u1 - (w64 (u0.Add * u2)))).tdiv a)).tdiv d)) > 0)) (.bool (decide ((w64 (f.tdiv h)) > 0))) rfl rfl ?_; intro eW X
  refine u_ X (.bool ((decide ((w64 ((w64 ((w64 (u1 - (w64 (u0.Add * u2)))).tdiv a)).tdiv d)) > 0)) && (decide ((w64 (f.tdiv h)) > 0)))) (pk_and X (g := []) (m := 0) (b := decide ((w64 ((w64 ((w64 (u1 - (w64 (u0.Add * u2)))).tdiv a)).tdiv d)) > 0)) (v := decide ((w64 (f.tdiv h)) > 0)) rfl (by kernel_rfl) (by kernel_rfl) (by kernel_rfl) rfl) ?_; intro eX bO
  refine s1 bO 105 (.bool ((decide ((w64 ((w64 ((w64 (u1 - (w64 (u0.Add * u2)))).tdiv a)).tdiv d)) > 0)) && (decide ((w64 (f.tdiv h)) > 0)))) ?_; intro eY bP
  have bQ := bP.atom (((decide ((w64 ((w64 ((w64 (u1 - (w64 (u0.Add * u2)))).tdiv a)).tdiv d)) > 0)) && (decide ((w64 (f.tdiv h)) > 0))) == true) (by kernel_rfl)
  refine gp bQ 106 1 [] ((decide ((w64 ((w64 ((w64 (u1 - (w64 (u0.Add * u2)))).tdiv a)).tdiv d)) > 0)) && (decide ((w64 (f.tdiv h)) > 0))) (i6 (w64 ((w64 ((w64 (u1 - (w64 (u0.Add * u2)))).tdiv a)).tdiv d))) rfl rfl ?_; intro eZ bR
  refine gp bR 107 1 [] ((decide ((w64 ((w64 ((w64 (u1 - (w64 (u0.Add * u2)))).tdiv a)).tdiv d)) > 0)) && (decide ((w64 (f.tdiv h)) > 0))) (i6 (boundsS u0).2) rfl rfl ?_; intro e0 bS
  refine gp bS 108 1 [] ((decide ((w64 ((w64 ((w64 (u1 - (w64 (u0.Add * u2)))).tdiv a)).tdiv d)) > 0)) && (decide ((w64 (f.tdiv h)) > 0))) (i6 (w64 (f.tdiv h))) rfl rfl ?_; intro e1 Y
  obtain ⟨dv, dw⟩ := dt
  refine gd Y (i6 (w64 ((boundsS u0).2.tdiv (w64 (f.tdiv h))))) (m := 1) (cj := []) (bj := (decide ((w64 ((w64 ((w64 (u1 - (w64 (u0.Add * u2)))).tdiv a)).tdiv d)) > 0)) && (decide ((w64 (f.tdiv h)) > 0))) rfl rfl (by kernel_rfl) rfl (by kernel_rfl) (by kernel_rfl) (by kernel_rfl) (fun hg => quo_run Y (g := [1]) rfl (by kernel_rfl) (by kernel_rfl) (gT (c := [1]) hg dv) hg) ?_; intro e2 bT
  refine gp bT 110 1 [] ((decide ((w64 ((w64 ((w64 (u1 - (w64 (u0.Add * u2)))).tdiv a)).tdiv d)) > 0)) && (decide ((w64 (f.tdiv h)) > 0))) (.bool (decide ((w64 ((w64 ((w64 (u1 - (w64 (u0.Add * u2)))).tdiv a)).tdiv d)) > (w64 ((boundsS u0).2.tdiv (w64 (f.tdiv h))))))) rfl rfl ?_; intro e3 aa
  refine u_ aa (.bool (((decide ((w64 ((w64 ((w64 (u1 - (w64 (u0.Add * u2)))).tdiv a)).tdiv d)) > 0)) && (decide ((w64 (f.tdiv h)) > 0))) && (decide ((w64 ((w64 ((w64 (u1 - (w64 (u0.Add * u2)))).tdiv a)).tdiv d)) > (w64 ((boundsS u0).2.tdiv (w64 (f.tdiv h)))))))) (pk_and aa (g := []) (m := 1) (b := (decide ((w64 ((w64 ((w64 (u1 - (w64 (u0.Add * u2)))).tdiv a)).tdiv d)) > 0)) && (decide ((w64 (f.tdiv h)) > 0))) (v := decide ((w64 ((w64 ((w64 (u1 - (w64 (u0.Add * u2)))).tdiv a)).tdiv d)) > (w64 ((boundsS u0).2.tdiv (w64 (f.tdiv h)))))) rfl (by kernel_rfl) (by kernel_rfl) (by kernel_rfl) rfl) ?_; intro e4 bU
  refine s1 bU 112 (.bool (((decide ((w64 ((w64 ((w64 (u1 - (w64 (u0.Add * u2)))).tdiv a)).tdiv d)) > 0)) && (decide ((w64 (f.tdiv h)) > 0))) && (decide ((w64 ((w64 ((w64 (u1 - (w64 (u0.Add * u2)))).tdiv a)).tdiv d)) > (w64 ((boundsS u0).2.tdiv (w64 (f.tdiv h)))))))) ?_; intro e5 bV
  have bW := bV.atom ((((decide ((w64 ((w64 ((w64 (u1 - (w64 (u0.Add * u2)))).tdiv a)).tdiv d)) > 0)) && (decide ((w64 (f.tdiv h)) > 0))) && (decide ((w64 ((w64 ((w64 (u1 - (w64 (u0.Add * u2)))).tdiv a)).tdiv d)) > (w64 ((boundsS u0).2.tdiv (w64 (f.tdiv h))))))) == false) (by kernel_rfl)
  refine gp bW 113 2 [] (((decide ((w64 ((w64 ((w64 (u1 - (w64 (u0.Add * u2)))).tdiv a)).tdiv d)) > 0)) && (decide ((w64 (f.tdiv h)) > 0))) && (decide ((w64 ((w64 ((w64 (u1 - (w64 (u0.Add * u2)))).tdiv a)).tdiv d)) > (w64 ((boundsS u0).2.tdiv (w64 (f.tdiv h))))))) (i6 (w64 ((w64 ((w64 (u1 - (w64 (u0.Add * u2)))).tdiv a)).tdiv d))) rfl rfl ?_; intro e6 bX
  refine gp bX 114 2 [] (((decide ((w64 ((w64 ((w64 (u1 - (w64 (u0.Add * u2)))).tdiv a)).tdiv d)) > 0)) && (decide ((w64 (f.tdiv h)) > 0))) && (decide ((w64 ((w64 ((w64 (u1 - (w64 (u0.Add * u2)))).tdiv a)).tdiv d)) > (w64 ((boundsS u0).2.tdiv (w64 (f.tdiv h))))))) (.bool (decide ((w64 ((w64 ((w64 (u1 - (w64 (u0.Add * u2)))).tdiv a)).tdiv d)) < 0))) rfl rfl ?_; intro e7 bY
  refine gp bY 115 2 [] (((decide ((w64 ((w64 ((w64 (u1 - (w64 (u0.Add * u2)))).tdiv a)).tdiv d)) > 0)) && (decide ((w64 (f.tdiv h)) > 0))) && (decide ((w64 ((w64 ((w64 (u1 - (w64 (u0.Add * u2)))).tdiv a)).tdiv d)) > (w64 ((boundsS u0).2.tdiv (w64 (f.tdiv h))))))) (.bool (decide ((w64 ((w64 ((w64 (u1 - (w64 (u0.Add * u2)))).tdiv a)).tdiv d)) < 0))) rfl rfl ?_; intro e8 bZ
  have b0 := bZ.atom ((decide ((w64 ((w64 ((w64 (u1 - (w64 (u0.Add * u2)))).tdiv a)).tdiv d)) < 0)) == true) (by kernel_rfl)
  refine gp b0 116 3 [2] (decide ((w64 ((w64 ((w64 (u1 - (w64 (u0.Add * u2)))).tdiv a)).tdiv d)) < 0)) (i6 (w64 (f.tdiv h))) rfl rfl ?_; intro e9 b1
  refine gp b1 117 3 [2] (decide ((w64 ((w64 ((w64 (u1 - (w64 (u0.Add * u2)))).tdiv a)).tdiv d)) < 0)) (.bool (decide ((w64 (f.tdiv h)) > 0))) rfl rfl ?_; intro fa ab
  refine gd ab (.bool ((decide ((w64 ((w64 ((w64 (u1 - (w64 (u0.Add * u2)))).tdiv a)).tdiv d)) < 0)) && (decide ((w64 (f.tdiv h)) > 0)))) (m := 2) (cj := []) (bj := ((decide ((w64 ((w64 ((w64 (u1 - (w64 (u0.Add * u2)))).tdiv a)).tdiv d)) > 0)) && (decide ((w64 (f.tdiv h)) > 0))) && (decide ((w64 ((w64 ((w64 (u1 - (w64 (u0.Add * u2)))).tdiv a)).tdiv d)) > (w64 ((boundsS u0).2.tdiv (w64 (f.tdiv h))))))) rfl rfl (by kernel_rfl) rfl (by kernel_rfl) (by kernel_rfl) (by kernel_rfl) (fun hg => pk_and ab (g := [2]) (m := 3) (b := decide ((w64 ((w64 ((w64 (u1 - (w64 (u0.Add * u2)))).tdiv a)).tdiv d)) < 0)) (v := decide ((w64 (f.tdiv h)) > 0)) rfl (by kernel_rfl) (by kernel_rfl) (by kernel_rfl) hg) ?_; intro fb b3
  refine gp b3 119 2 [] (((decide ((w64 ((w64 ((w64 (u1 - (w64 (u0.Add * u2)))).tdiv a)).tdiv d)) > 0)) && (decide ((w64 (f.tdiv h)) > 0))) && (decide ((w64 ((w64 ((w64 (u1 - (w64 (u0.Add * u2)))).tdiv a)).tdiv d)) > (w64 ((boundsS u0).2.tdiv (w64 (f.tdiv h))))))) (.bool ((decide ((w64 ((w64 ((w64 (u1 - (w64 (u0.Add * u2)))).tdiv a)).tdiv d)) < 0)) && (decide ((w64 (f.tdiv h)) > 0)))) rfl rfl ?_; intro fd b4
  have b5 := b4.atom (((decide ((w64 ((w64 ((w64 (u1 - (w64 (u0.Add * u2)))).tdiv a)).tdiv d)) < 0)) && (decide ((w64 (f.tdiv h)) > 0))) == true) (by kernel_rfl)
  refine gp b5 120 4 [2] ((decide ((w64 ((w64 ((w64 (u1 - (w64 (u0.Add * u2)))).tdiv a)).tdiv d)) < 0)) && (decide ((w64 (f.tdiv h)) > 0))) (i6 (w64 ((w64 ((w64 (u1 - (w64 (u0.Add * u2)))).tdiv a)).tdiv d))) rfl rfl ?_; intro fe b6
  refine gp b6 121 4 [2] ((decide ((w64 ((w64 ((w64 (u1 - (w64 (u0.Add * u2)))).tdiv a)).tdiv d)) < 0)) && (decide ((w64 (f.tdiv h)) > 0))) (i6 (boundsS u0).1) rfl rfl ?_; intro ff b7
  refine gp b7 122 4 [2] ((decide ((w64 ((w64 ((w64 (u1 - (w64 (u0.Add * u2)))).tdiv a)).tdiv d)) < 0)) && (decide ((w64 (f.tdiv h)) > 0))) (i6 (w64 (f.tdiv h))) rfl rfl ?_; intro fg ac
  obtain ⟨dx, dy⟩ := dw
  refine gd ac (i6 (w64 ((boundsS u0).1.tdiv (w64 (f.tdiv h))))) (m := 4) (cj := [2]) (bj := (decide ((w64 ((w64 ((w64 (u1 - (w64 (u0.Add * u2)))).tdiv a)).tdiv d)) < 0)) && (decide ((w64 (f.tdiv h)) > 0))) rfl rfl (by kernel_rfl) rfl (by kernel_rfl) (by kernel_rfl) (by kernel_rfl) (fun hg => quo_run ac (g := [4, 2]) rfl (by kernel_rfl) (by kernel_rfl) (gT (c := [4, 2]) hg dx) hg) ?_; intro fh b8
  refine gp b8 124 4 [2] ((decide ((w64 ((w64 ((w64 (u1 - (w64 (u0.Add * u2)))).tdiv a)).tdiv d)) < 0)) && (decide ((w64 (f.tdiv h)) > 0))) (.bool (decide ((w64 ((w64 ((w64 (u1 - (w64 (u0.Add * u2)))).tdiv a)).tdiv d)) < (w64 ((boundsS u0).1.tdiv (w64 (f.tdiv h))))))) rfl rfl ?_; intro fi ad
  refine gd ad (.bool (((decide ((w64 ((w64 ((w64 (u1 - (w64 (u0.Add * u2)))).tdiv a)).tdiv d)) < 0)) && (decide ((w64 (f.tdiv h)) > 0))) && (decide ((w64 ((w64 ((w64 (u1 - (w64 (u0.Add * u2)))).tdiv a)).tdiv d)) < (w64 ((boundsS u0).1.tdiv (w64 (f.tdiv h)))))))) (m := 2) (cj := []) (bj := ((decide ((w64 ((w64 ((w64 (u1 - (w64 (u0.Add * u2)))).tdiv a)).tdiv d)) > 0)) && (decide ((w64 (f.tdiv h)) > 0))) && (decide ((w64 ((w64 ((w64 (u1 - (w64 (u0.Add * u2)))).tdiv a)).tdiv d)) > (w64 ((boundsS u0).2.tdiv (w64 (f.tdiv h))))))) rfl rfl (by kernel_rfl) rfl (by kernel_rfl) (by kernel_rfl) (by kernel_rfl) (fun hg => pk_and ad (g := [2]) (m := 4) (b := (decide ((w64 ((w64 ((w64 (u1 - (w64 (u0.Add * u2)))).tdiv a)).tdiv d)) < 0)) && (decide ((w64 (f.tdiv h)) > 0))) (v := decide ((w64 ((w64 ((w64 (u1 - (w64 (u0.Add * u2)))).tdiv a)).tdiv d)) < (w64 ((boundsS u0).1.tdiv (w64 (f.tdiv h)))))) rfl (by kernel_rfl) (by kernel_rfl) (by kernel_rfl) hg) ?_; intro fj ae
  refine u_ ae (.bool ((((decide ((w64 ((w64 ((w64 (u1 - (w64 (u0.Add * u2)))).tdiv a)).tdiv d)) > 0)) && (decide ((w64 (f.tdiv h)) > 0))) && (decide ((w64 ((w64 ((w64 (u1 - (w64 (u0.Add * u2)))).tdiv a)).tdiv d)) > (w64 ((boundsS u0).2.tdiv (w64 (f.tdiv h))))))) || (((decide ((w64 ((w64 ((w64 (u1 - (w64 (u0.Add * u2)))).tdiv a)).tdiv d)) < 0)) && (decide ((w64 (f.tdiv h)) > 0))) && (decide ((w64 ((w64 ((w64 (u1 - (w64 (u0.Add * u2)))).tdiv a)).tdiv d)) < (w64 ((boundsS u0).1.tdiv (w64 (f.tdiv h))))))))) (pk_or ae (g := []) (m := 2) (b := ((decide ((w64 ((w64 ((w64 (u1 - (w64 (u0.Add * u2)))).tdiv a)).tdiv d)) > 0)) && (decide ((w64 (f.tdiv h)) > 0))) && (decide ((w64 ((w64 ((w64 (u1 - (w64 (u0.Add * u2)))).tdiv a)).tdiv d)) > (w64 ((boundsS u0).2.tdiv (w64 (f.tdiv h))))))) (v := ((decide ((w64 ((w64 ((w64 (u1 - (w64 (u0.Add * u2)))).tdiv a)).tdiv d)) < 0)) && (decide ((w64 (f.tdiv h)) > 0))) && (decide ((w64 ((w64 ((w64 (u1 - (w64 (u0.Add * u2)))).tdiv a)).tdiv d)) < (w64 ((boundsS u0).1.tdiv (w64 (f.tdiv h))))))) rfl (by kernel_rfl) (by kernel_rfl) (by kernel_rfl) rfl) ?_; intro fk b9
  refine s1 b9 127 (.bool ((((decide ((w64 ((w64 ((w64 (u1 - (w64 (u0.Add * u2)))).tdiv a)).tdiv d)) > 0)) && (decide ((w64 (f.tdiv h)) > 0))) && (decide ((w64 ((w64 ((w64 (u1 - (w64 (u0.Add * u2)))).tdiv a)).tdiv d)) > (w64 ((boundsS u0).2.tdiv (w64 (f.tdiv h))))))) || (((decide ((w64 ((w64 ((w64 (u1 - (w64 (u0.Add * u2)))).tdiv a)).tdiv d)) < 0)) && (decide ((w64 (f.tdiv h)) > 0))) && (decide ((w64 ((w64 ((w64 (u1 - (w64 (u0.Add * u2)))).tdiv a)).tdiv d)) < (w64 ((boundsS u0).1.tdiv (w64 (f.tdiv h))))))))) ?_; intro fl ca
  have cb := ca.atom (((((decide ((w64 ((w64 ((w64 (u1 - (w64 (u0.Add * u2)))).tdiv a)).tdiv d)) > 0)) && (decide ((w64 (f.tdiv h)) > 0))) && (decide ((w64 ((w64 ((w64 (u1 - (w64 (u0.Add * u2)))).tdiv a)).tdiv d)) > (w64 ((boundsS u0).2.tdiv (w64 (f.tdiv h))))))) || (((decide ((w64 ((w64 ((w64 (u1 - (w64 (u0.Add * u2)))).tdiv a)).tdiv d)) < 0)) && (decide ((w64 (f.tdiv h)) > 0))) && (decide ((w64 ((w64 ((w64 (u1 - (w64 (u0.Add * u2)))).tdiv a)).tdiv d)) < (w64 ((boundsS u0).1.tdiv (w64 (f.tdiv h)))))))) == false) (by kernel_rfl)
  refine gp cb 128 5 [] ((((decide ((w64 ((w64 ((w64 (u1 - (w64 (u0.Add * u2)))).tdiv a)).tdiv d)) > 0)) && (decide ((w64 (f.tdiv h)) > 0))) && (decide ((w64 ((w64 ((w64 (u1 - (w64 (u0.Add * u2)))).tdiv a)).tdiv d)) > (w64 ((boundsS u0).2.tdiv (w64 (f.tdiv h))))))) || (((decide ((w64 ((w64 ((w64 (u1 - (w64 (u0.Add * u2)))).tdiv a)).tdiv d)) < 0)) && (decide ((w64 (f.tdiv h)) > 0))) && (decide ((w64 ((w64 ((w64 (u1 - (w64 (u0.Add * u2)))).tdiv a)).tdiv d)) < (w64 ((boundsS u0).1.tdiv (w64 (f.tdiv h)))))))) (i6 (w64 ((w64 ((w64 (u1 - (w64 (u0.Add * u2)))).tdiv a)).tdiv d))) rfl rfl ?_; intro fm cc
  refine gp cc 129 5 [] ((((decide ((w64 ((w64 ((w64 (u1 - (w64 (u0.Add * u2)))).tdiv a)).tdiv d)) > 0)) && (decide ((w64 (f.tdiv h)) > 0))) && (decide ((w64 ((w64 ((w64 (u1 - (w64 (u0.Add * u2)))).tdiv a)).tdiv d)) > (w64 ((boundsS u0).2.tdiv (w64 (f.tdiv h))))))) || (((decide ((w64 ((w64 ((w64 (u1 - (w64 (u0.Add * u2)))).tdiv a)).tdiv d)) < 0)) && (decide ((w64 (f.tdiv h)) > 0))) && (decide ((w64 ((w64 ((w64 (u1 - (w64 (u0.Add * u2)))).tdiv a)).tdiv d)) < (w64 ((boundsS u0).1.tdiv (w64 (f.tdiv h)))))))) (.bool (decide ((w64 ((w64 ((w64 (u1 - (w64 (u0.Add * u2)))).tdiv a)).tdiv d)) > 0))) rfl rfl ?_; intro fn ce
  refine gp ce 130 5 [] ((((decide ((w64 ((w64 ((w64 (u1 - (w64 (u0.Add * u2)))).tdiv a)).tdiv d)) > 0)) && (decide ((w64 (f.tdiv h)) > 0))) && (decide ((w64 ((w64 ((w64 (u1 - (w64 (u0.Add * u2)))).tdiv a)).tdiv d)) > (w64 ((boundsS u0).2.tdiv (w64 (f.tdiv h))))))) || (((decide ((w64 ((w64 ((w64 (u1 - (w64 (u0.Add * u2)))).tdiv a)).tdiv d)) < 0)) && (decide ((w64 (f.tdiv h)) > 0))) && (decide ((w64 ((w64 ((w64 (u1 - (w64 (u0.Add * u2)))).tdiv a)).tdiv d)) < (w64 ((boundsS u0).1.tdiv (w64 (f.tdiv h)))))))) (.bool (decide ((w64 ((w64 ((w64 (u1 - (w64 (u0.Add * u2)))).tdiv a)).tdiv d)) > 0))) rfl rfl ?_; intro fo cf
  refine gp cf 131 0 [5] (decide ((w64 ((w64 ((w64 (u1 - (w64 (u0.Add * u2)))).tdiv a)).tdiv d)) > 0)) (i6 (w64 (f.tdiv h))) rfl rfl ?_; intro fp cg
  refine gp cg 132 0 [5] (decide ((w64 ((w64 ((w64 (u1 - (w64 (u0.Add * u2)))).tdiv a)).tdiv d)) > 0)) (.bool (decide ((w64 (f.tdiv h)) < 0))) rfl rfl ?_; intro fq af
  refine gd af (.bool ((decide ((w64 ((w64 ((w64 (u1 - (w64 (u0.Add * u2)))).tdiv a)).tdiv d)) > 0)) && (decide ((w64 (f.tdiv h)) < 0)))) (m := 5) (cj := []) (bj := (((decide ((w64 ((w64 ((w64 (u1 - (w64 (u0.Add * u2)))).tdiv a)).tdiv d)) > 0)) && (decide ((w64 (f.tdiv h)) > 0))) && (decide ((w64 ((w64 ((w64 (u1 - (w64 (u0.Add * u2)))).tdiv a)).tdiv d)) > (w64 ((boundsS u0).2.tdiv (w64 (f.tdiv h))))))) || (((decide ((w64 ((w64 ((w64 (u1 - (w64 (u0.Add * u2)))).tdiv a)).tdiv d)) < 0)) && (decide ((w64 (f.tdiv h)) > 0))) && (decide ((w64 ((w64 ((w64 (u1 - (w64 (u0.Add * u2)))).tdiv a)).tdiv d)) < (w64 ((boundsS u0).1.tdiv (w64 (f.tdiv h)))))))) rfl rfl (by kernel_rfl) rfl (by kernel_rfl) (by kernel_rfl) (by kernel_rfl) (fun hg => pk_and af (g := [5]) (m := 0) (b := decide ((w64 ((w64 ((w64 (u1 - (w64 (u0.Add * u2)))).tdiv a)).tdiv d)) > 0)) (v := decide ((w64 (f.tdiv h)) < 0)) rfl (by kernel_rfl) (by kernel_rfl) (by kernel_rfl) hg) ?_; intro fr ch
  refine gp ch 134 5 [] ((((decide ((w64 ((w64 ((w64 (u1 - (w64 (u0.Add * u2)))).tdiv a)).tdiv d)) > 0)) && (decide ((w64 (f.tdiv h)) > 0))) && (decide ((w64 ((w64 ((w64 (u1 - (w64 (u0.Add * u2)))).tdiv a)).tdiv d)) > (w64 ((boundsS u0).2.tdiv (w64 (f.tdiv h))))))) || (((decide ((w64 ((w64 ((w64 (u1 - (w64 (u0.Add * u2)))).tdiv a)).tdiv d)) < 0)) && (decide ((w64 (f.tdiv h)) > 0))) && (decide ((w64 ((w64 ((w64 (u1 - (w64 (u0.Add * u2)))).tdiv a)).tdiv d)) < (w64 ((boundsS u0).1.tdiv (w64 (f.tdiv h)))))))) (.bool ((decide ((w64 ((w64 ((w64 (u1 - (w64 (u0.Add * u2)))).tdiv a)).tdiv d)) > 0)) && (decide ((w64 (f.tdiv h)) < 0)))) rfl rfl ?_; intro fs ci
  have cl := ci.atom (((decide ((w64 ((w64 ((w64 (u1 - (w64 (u0.Add * u2)))).tdiv a)).tdiv d)) > 0)) && (decide ((w64 (f.tdiv h)) < 0))) == true) (by kernel_rfl)
  refine gp cl 135 6 [5] ((decide ((w64 ((w64 ((w64 (u1 - (w64 (u0.Add * u2)))).tdiv a)).tdiv d)) > 0)) && (decide ((w64 (f.tdiv h)) < 0))) (i6 (w64 ((w64 ((w64 (u1 - (w64 (u0.Add * u2)))).tdiv a)).tdiv d))) rfl rfl ?_; intro ft cm
  refine gp cm 136 6 [5] ((decide ((w64 ((w64 ((w64 (u1 - (w64 (u0.Add * u2)))).tdiv a)).tdiv d)) > 0)) && (decide ((w64 (f.tdiv h)) < 0))) (i6 (boundsS u0).1) rfl rfl ?_; intro fu cn
  refine gp cn 137 6 [5] ((decide ((w64 ((w64 ((w64 (u1 - (w64 (u0.Add * u2)))).tdiv a)).tdiv d)) > 0)) && (decide ((w64 (f.tdiv h)) < 0))) (i6 (w64 (f.tdiv h))) rfl rfl ?_; intro fv ag
  obtain ⟨dz, dA⟩ := dy
  refine gd ag (i6 (w64 ((boundsS u0).1.tdiv (w64 (f.tdiv h))))) (m := 6) (cj := [5]) (bj := (decide ((w64 ((w64 ((w64 (u1 - (w64 (u0.Add * u2)))).tdiv a)).tdiv d)) > 0)) && (decide ((w64 (f.tdiv h)) < 0))) rfl rfl (by kernel_rfl) rfl (by kernel_rfl) (by kernel_rfl) (by kernel_rfl) (fun hg => quo_run ag (g := [6, 5]) rfl (by kernel_rfl) (by kernel_rfl) (gT (c := [6, 5]) hg dz) hg) ?_; intro fw co
  refine gp co 139 6 [5] ((decide ((w64 ((w64 ((w64 (u1 - (w64 (u0.Add * u2)))).tdiv a)).tdiv d)) > 0)) && (decide ((w64 (f.tdiv h)) < 0))) (.bool (decide ((w64 ((w64 ((w64 (u1 - (w64 (u0.Add * u2)))).tdiv a)).tdiv d)) > (w64 ((boundsS u0).1.tdiv (w64 (f.tdiv h))))))) rfl rfl ?_; intro fx ah
  refine gd ah (.bool (((decide ((w64 ((w64 ((w64 (u1 - (w64 (u0.Add * u2)))).tdiv a)).tdiv d)) > 0)) && (decide ((w64 (f.tdiv h)) < 0))) && (decide ((w64 ((w64 ((w64 (u1 - (w64 (u0.Add * u2)))).tdiv a)).tdiv d)) > (w64 ((boundsS u0).1.tdiv (w64 (f.tdiv h)))))))) (m := 5) (cj := []) (bj := (((decide ((w64 ((w64 ((w64 (u1 - (w64 (u0.Add * u2)))).tdiv a)).tdiv d)) > 0)) && (decide ((w64 (f.tdiv h)) > 0))) && (decide ((w64 ((w64 ((w64 (u1 - (w64 (u0.Add * u2)))).tdiv a)).tdiv d)) > (w64 ((boundsS u0).2.tdiv (w64 (f.tdiv h))))))) || (((decide ((w64 ((w64 ((w64 (u1 - (w64 (u0.Add * u2)))).tdiv a)).tdiv d)) < 0)) && (decide ((w64 (f.tdiv h)) > 0))) && (decide ((w64 ((w64 ((w64 (u1 - (w64 (u0.Add * u2)))).tdiv a)).tdiv d)) < (w64 ((boundsS u0).1.tdiv (w64 (f.tdiv h)))))))) rfl rfl (by kernel_rfl) rfl (by kernel_rfl) (by kernel_rfl) (by kernel_rfl) (fun hg => pk_and ah (g := [5]) (m := 6) (b := (decide ((w64 ((w64 ((w64 (u1 - (w64 (u0.Add * u2)))).tdiv a)).tdiv d)) > 0)) && (decide ((w64 (f.tdiv h)) < 0))) (v := decide ((w64 ((w64 ((w64 (u1 - (w64 (u0.Add * u2)))).tdiv a)).tdiv d)) > (w64 ((boundsS u0).1.tdiv (w64 (f.tdiv h)))))) rfl (by kernel_rfl) (by kernel_rfl) (by kernel_rfl) hg) ?_; intro fy ai
  refine u_ ai (.bool (((((decide ((w64 ((w64 ((w64 (u1 - (w64 (u0.Add * u2)))).tdiv a)).tdiv d)) > 0)) && (decide ((w64 (f.tdiv h)) > 0))) && (decide ((w64 ((w64 ((w64 (u1 - (w64 (u0.Add * u2)))).tdiv a)).tdiv d)) > (w64 ((boundsS u0).2.tdiv (w64 (f.tdiv h))))))) || (((decide ((w64 ((w64 ((w64 (u1 - (w64 (u0.Add * u2)))).tdiv a)).tdiv d)) < 0)) && (decide ((w64 (f.tdiv h)) > 0))) && (decide ((w64 ((w64 ((w64 (u1 - (w64 (u0.Add * u2)))).tdiv a)).tdiv d)) < (w64 ((boundsS u0).1.tdiv (w64 (f.tdiv h)))))))) || (((decide ((w64 ((w64 ((w64 (u1 - (w64 (u0.Add * u2)))).tdiv a)).tdiv d)) > 0)) && (decide ((w64 (f.tdiv h)) < 0))) && (decide ((w64 ((w64 ((w64 (u1 - (w64 (u0.Add * u2)))).tdiv a)).tdiv d)) > (w64 ((boundsS u0).1.tdiv (w64 (f.tdiv h))))))))) (pk_or ai (g := []) (m := 5) (b := (((decide ((w64 ((w64 ((w64 (u1 - (w64 (u0.Add * u2)))).tdiv a)).tdiv d)) > 0)) && (decide ((w64 (f.tdiv h)) > 0))) && (decide ((w64 ((w64 ((w64 (u1 - (w64 (u0.Add * u2)))).tdiv a)).tdiv d)) > (w64 ((boundsS u0).2.tdiv (w64 (f.tdiv h))))))) || (((decide ((w64 ((w64 ((w64 (u1 - (w64 (u0.Add * u2)))).tdiv a)).tdiv d)) < 0)) && (decide ((w64 (f.tdiv h)) > 0))) && (decide ((w64 ((w64 ((w64 (u1 - (w64 (u0.Add * u2)))).tdiv a)).tdiv d)) < (w64 ((boundsS u0).1.tdiv (w64 (f.tdiv h)))))))) (v := ((decide ((w64 ((w64 ((w64 (u1 - (w64 (u0.Add * u2)))).tdiv a)).tdiv d)) > 0)) && (decide ((w64 (f.tdiv h)) < 0))) && (decide ((w64 ((w64 ((w64 (u1 - (w64 (u0.Add * u2)))).tdiv a)).tdiv d)) > (w64 ((boundsS u0).1.tdiv (w64 (f.tdiv h))))))) rfl (by kernel_rfl) (by kernel_rfl) (by kernel_rfl) rfl) ?_; intro fA cp
  refine s1 cp 142 (.bool (((((decide ((w64 ((w64 ((w64 (u1 - (w64 (u0.Add * u2)))).tdiv a)).tdiv d)) > 0)) && (decide ((w64 (f.tdiv h)) > 0))) && (decide ((w64 ((w64 ((w64 (u1 - (w64 (u0.Add * u2)))).tdiv a)).tdiv d)) > (w64 ((boundsS u0).2.tdiv (w64 (f.tdiv h))))))) || (((decide ((w64 ((w64 ((w64 (u1 - (w64 (u0.Add * u2)))).tdiv a)).tdiv d)) < 0)) && (decide ((w64 (f.tdiv h)) > 0))) && (decide ((w64 ((w64 ((w64 (u1 - (w64 (u0.Add * u2)))).tdiv a)).tdiv d)) < (w64 ((boundsS u0).1.tdiv (w64 (f.tdiv h)))))))) || (((decide ((w64 ((w64 ((w64 (u1 - (w64 (u0.Add * u2)))).tdiv a)).tdiv d)) > 0)) && (decide ((w64 (f.tdiv h)) < 0))) && (decide ((w64 ((w64 ((w64 (u1 - (w64 (u0.Add * u2)))).tdiv a)).tdiv d)) > (w64 ((boundsS u0).1.tdiv (w64 (f.tdiv h))))))))) ?_; intro fB cq
  have cr := cq.atom ((((((decide ((w64 ((w64 ((w64 (u1 - (w64 (u0.Add * u2)))).tdiv a)).tdiv d)) > 0)) && (decide ((w64 (f.tdiv h)) > 0))) && (decide ((w64 ((w64 ((w64 (u1 - (w64 (u0.Add * u2)))).tdiv a)).tdiv d)) > (w64 ((boundsS u0).2.tdiv (w64 (f.tdiv h))))))) || (((decide ((w64 ((w64 ((w64 (u1 - (w64 (u0.Add * u2)))).tdiv a)).tdiv d)) < 0)) && (decide ((w64 (f.tdiv h)) > 0))) && (decide ((w64 ((w64 ((w64 (u1 - (w64 (u0.Add * u2)))).tdiv a)).tdiv d)) < (w64 ((boundsS u0).1.tdiv (w64 (f.tdiv h)))))))) || (((decide ((w64 ((w64 ((w64 (u1 - (w64 (u0.Add * u2)))).tdiv a)).tdiv d)) > 0)) && (decide ((w64 (f.tdiv h)) < 0))) && (decide ((w64 ((w64 ((w64 (u1 - (w64 (u0.Add * u2)))).tdiv a)).tdiv d)) > (w64 ((boundsS u0).1.tdiv (w64 (f.tdiv h)))))))) == false) (by kernel_rfl)
  refine gp cr 143 7 [] (((((decide ((w64 ((w64 ((w64 (u1 - (w64 (u0.Add * u2)))).tdiv a)).tdiv d)) > 0)) && (decide ((w64 (f.tdiv h)) > 0))) && (decide ((w64 ((w64 ((w64 (u1 - (w64 (u0.Add * u2)))).tdiv a)).tdiv d)) > (w64 ((boundsS u0).2.tdiv (w64 (f.tdiv h))))))) || (((decide ((w64 ((w64 ((w64 (u1 - (w64 (u0.Add * u2)))).tdiv a)).tdiv d)) < 0)) && (decide ((w64 (f.tdiv h)) > 0))) && (decide ((w64 ((w64 ((w64 (u1 - (w64 (u0.Add * u2)))).tdiv a)).tdiv d)) < (w64 ((boundsS u0).1.tdiv (w64 (f.tdiv h)))))))) || (((decide ((w64 ((w64 ((w64 (u1 - (w64 (u0.Add * u2)))).tdiv a)).tdiv d)) > 0)) && (decide ((w64 (f.tdiv h)) < 0))) && (decide ((w64 ((w64 ((w64 (u1 - (w64 (u0.Add * u2)))).tdiv a)).tdiv d)) > (w64 ((boundsS u0).1.tdiv (w64 (f.tdiv h)))))))) (i6 (w64 ((w64 ((w64 (u1 - (w64 (u0.Add * u2)))).tdiv a)).tdiv d))) rfl rfl ?_; intro fC ct
  refine gp ct 144 7 [] (((((decide ((w64 ((w64 ((w64 (u1 - (w64 (u0.Add * u2)))).tdiv a)).tdiv d)) > 0)) && (decide ((w64 (f.tdiv h)) > 0))) && (decide ((w64 ((w64 ((w64 (u1 - (w64 (u0.Add * u2)))).tdiv a)).tdiv d)) > (w64 ((boundsS u0).2.tdiv (w64 (f.tdiv h))))))) || (((decide ((w64 ((w64 ((w64 (u1 - (w64 (u0.Add * u2)))).tdiv a)).tdiv d)) < 0)) && (decide ((w64 (f.tdiv h)) > 0))) && (decide ((w64 ((w64 ((w64 (u1 - (w64 (u0.Add * u2)))).tdiv a)).tdiv d)) < (w64 ((boundsS u0).1.tdiv (w64 (f.tdiv h)))))))) || (((decide ((w64 ((w64 ((w64 (u1 - (w64 (u0.Add * u2)))).tdiv a)).tdiv d)) > 0)) && (decide ((w64 (f.tdiv h)) < 0))) && (decide ((w64 ((w64 ((w64 (u1 - (w64 (u0.Add * u2)))).tdiv a)).tdiv d)) > (w64 ((boundsS u0).1.tdiv (w64 (f.tdiv h)))))))) (.bool (decide ((w64 ((w64 ((w64 (u1 - (w64 (u0.Add * u2)))).tdiv a)).tdiv d)) < 0))) rfl rfl ?_; intro fD cu
  refine gp cu 145 7 [] (((((decide ((w64 ((w64 ((w64 (u1 - (w64 (u0.Add * u2)))).tdiv a)).tdiv d)) > 0)) && (decide ((w64 (f.tdiv h)) > 0))) && (decide ((w64 ((w64 ((w64 (u1 - (w64 (u0.Add * u2)))).tdiv a)).tdiv d)) > (w64 ((boundsS u0).2.tdiv (w64 (f.tdiv h))))))) || (((decide ((w64 ((w64 ((w64 (u1 - (w64 (u0.Add * u2)))).tdiv a)).tdiv d)) < 0)) && (decide ((w64 (f.tdiv h)) > 0))) && (decide ((w64 ((w64 ((w64 (u1 - (w64 (u0.Add * u2)))).tdiv a)).tdiv d)) < (w64 ((boundsS u0).1.tdiv (w64 (f.tdiv h)))))))) || (((decide ((w64 ((w64 ((w64 (u1 - (w64 (u0.Add * u2)))).tdiv a)).tdiv d)) > 0)) && (decide ((w64 (f.tdiv h)) < 0))) && (decide ((w64 ((w64 ((w64 (u1 - (w64 (u0.Add * u2)))).tdiv a)).tdiv d)) > (w64 ((boundsS u0).1.tdiv (w64 (f.tdiv h)))))))) (.bool (decide ((w64 ((w64 ((w64 (u1 - (w64 (u0.Add * u2)))).tdiv a)).tdiv d)) < 0))) rfl rfl ?_; intro fE cv
  refine gp cv 146 3 [7] (decide ((w64 ((w64 ((w64 (u1 - (w64 (u0.Add * u2)))).tdiv a)).tdiv d)) < 0)) (i6 (w64 (f.tdiv h))) rfl rfl ?_; intro fF cw
  refine gp cw 147 3 [7] (decide ((w64 ((w64 ((w64 (u1 - (w64 (u0.Add * u2)))).tdiv a)).tdiv d)) < 0)) (.bool (decide ((w64 (f.tdiv h)) < 0))) rfl rfl ?_; intro fG aj
  refine gd aj (.bool ((decide ((w64 ((w64 ((w64 (u1 - (w64 (u0.Add * u2)))).tdiv a)).tdiv d)) < 0)) && (decide ((w64 (f.tdiv h)) < 0)))) (m := 7) (cj := []) (bj := ((((decide ((w64 ((w64 ((w64 (u1 - (w64 (u0.Add * u2)))).tdiv a)).tdiv d)) > 0)) && (decide ((w64 (f.tdiv h)) > 0))) && (decide ((w64 ((w64 ((w64 (u1 - (w64 (u0.Add * u2)))).tdiv a)).tdiv d)) > (w64 ((boundsS u0).2.tdiv (w64 (f.tdiv h))))))) || (((decide ((w64 ((w64 ((w64 (u1 - (w64 (u0.Add * u2)))).tdiv a)).tdiv d)) < 0)) && (decide ((w64 (f.tdiv h)) > 0))) && (decide ((w64 ((w64 ((w64 (u1 - (w64 (u0.Add * u2)))).tdiv a)).tdiv d)) < (w64 ((boundsS u0).1.tdiv (w64 (f.tdiv h)))))))) || (((decide ((w64 ((w64 ((w64 (u1 - (w64 (u0.Add * u2)))).tdiv a)).tdiv d)) > 0)) && (decide ((w64 (f.tdiv h)) < 0))) && (decide ((w64 ((w64 ((w64 (u1 - (w64 (u0.Add * u2)))).tdiv a)).tdiv d)) > (w64 ((boundsS u0).1.tdiv (w64 (f.tdiv h)))))))) rfl rfl (by kernel_rfl) rfl (by kernel_rfl) (by kernel_rfl) (by kernel_rfl) (fun hg => pk_and aj (g := [7]) (m := 3) (b := decide ((w64 ((w64 ((w64 (u1 - (w64 (u0.Add * u2)))).tdiv a)).tdiv d)) < 0)) (v := decide ((w64 (f.tdiv h)) < 0)) rfl (by kernel_rfl) (by kernel_rfl) (by kernel_rfl) hg) ?_; intro fH cx
  refine gp cx 149 7 [] (((((decide ((w64 ((w64 ((w64 (u1 - (w64 (u0.Add * u2)))).tdiv a)).tdiv d)) > 0)) && (decide ((w64 (f.tdiv h)) > 0))) && (decide ((w64 ((w64 ((w64 (u1 - (w64 (u0.Add * u2)))).tdiv a)).tdiv d)) > (w64 ((boundsS u0).2.tdiv (w64 (f.tdiv h))))))) || (((decide ((w64 ((w64 ((w64 (u1 - (w64 (u0.Add * u2)))).tdiv a)).tdiv d)) < 0)) && (decide ((w64 (f.tdiv h)) > 0))) && (decide ((w64 ((w64 ((w64 (u1 - (w64 (u0.Add * u2)))).tdiv a)).tdiv d)) < (w64 ((boundsS u0).1.tdiv (w64 (f.tdiv h)))))))) || (((decide ((w64 ((w64 ((w64 (u1 - (w64 (u0.Add * u2)))).tdiv a)).tdiv d)) > 0)) && (decide ((w64 (f.tdiv h)) < 0))) && (decide ((w64 ((w64 ((w64 (u1 - (w64 (u0.Add * u2)))).tdiv a)).tdiv d)) > (w64 ((boundsS u0).1.tdiv (w64 (f.tdiv h)))))))) (.bool ((decide ((w64 ((w64 ((w64 (u1 - (w64 (u0.Add * u2)))).tdiv a)).tdiv d)) < 0)) && (decide ((w64 (f.tdiv h)) < 0)))) rfl rfl ?_; intro fI cy
  have cz := cy.atom (((decide ((w64 ((w64 ((w64 (u1 - (w64 (u0.Add * u2)))).tdiv a)).tdiv d)) < 0)) && (decide ((w64 (f.tdiv h)) < 0))) == true) (by kernel_rfl)
  refine gp cz 150 8 [7] ((decide ((w64 ((w64 ((w64 (u1 - (w64 (u0.Add * u2)))).tdiv a)).tdiv d)) < 0)) && (decide ((w64 (f.tdiv h)) < 0))) (i6 (w64 ((w64 ((w64 (u1 - (w64 (u0.Add * u2)))).tdiv a)).tdiv d))) rfl rfl ?_; intro fJ cA
  refine gp cA 151 8 [7] ((decide ((w64 ((w64 ((w64 (u1 - (w64 (u0.Add * u2)))).tdiv a)).tdiv d)) < 0)) && (decide ((w64 (f.tdiv h)) < 0))) (i6 (boundsS u0).2) rfl rfl ?_; intro fK cB
  refine gp cB 152 8 [7] ((decide ((w64 ((w64 ((w64 (u1 - (w64 (u0.Add * u2)))).tdiv a)).tdiv d)) < 0)) && (decide ((w64 (f.tdiv h)) < 0))) (i6 (w64 (f.tdiv h))) rfl rfl ?_; intro fL ak
  obtain ⟨dB, H⟩ := dA
  refine gd ak (i6 (w64 ((boundsS u0).2.tdiv (w64 (f.tdiv h))))) (m := 8) (cj := [7]) (bj := (decide ((w64 ((w64 ((w64 (u1 - (w64 (u0.Add * u2)))).tdiv a)).tdiv d)) < 0)) && (decide ((w64 (f.tdiv h)) < 0))) rfl rfl (by kernel_rfl) rfl (by kernel_rfl) (by kernel_rfl) (by kernel_rfl) (fun hg => quo_run ak (g := [8, 7]) rfl (by kernel_rfl) (by kernel_rfl) (gT (c := [8, 7]) hg dB) hg) ?_; intro fM cC
  refine gp cC 154 8 [7] ((decide ((w64 ((w64 ((w64 (u1 - (w64 (u0.Add * u2)))).tdiv a)).tdiv d)) < 0)) && (decide ((w64 (f.tdiv h)) < 0))) (.bool (decide ((w64 ((w64 ((w64 (u1 - (w64 (u0.Add * u2)))).tdiv a)).tdiv d)) < (w64 ((boundsS u0).2.tdiv (w64 (f.tdiv h))))))) rfl rfl ?_; intro fN al
  refine gd al (.bool (((decide ((w64 ((w64 ((w64 (u1 - (w64 (u0.Add * u2)))).tdiv a)).tdiv d)) < 0)) && (decide ((w64 (f.tdiv h)) < 0))) && (decide ((w64 ((w64 ((w64 (u1 - (w64 (u0.Add * u2)))).tdiv a)).tdiv d)) < (w64 ((boundsS u0).2.tdiv (w64 (f.tdiv h)))))))) (m := 7) (cj := []) (bj := ((((decide ((w64 ((w64 ((w64 (u1 - (w64 (u0.Add * u2)))).tdiv a)).tdiv d)) > 0)) && (decide ((w64 (f.tdiv h)) > 0))) && (decide ((w64 ((w64 ((w64 (u1 - (w64 (u0.Add * u2)))).tdiv a)).tdiv d)) > (w64 ((boundsS u0).2.tdiv (w64 (f.tdiv h))))))) || (((decide ((w64 ((w64 ((w64 (u1 - (w64 (u0.Add * u2)))).tdiv a)).tdiv d)) < 0)) && (decide ((w64 (f.tdiv h)) > 0))) && (decide ((w64 ((w64 ((w64 (u1 - (w64 (u0.Add * u2)))).tdiv a)).tdiv d)) < (w64 ((boundsS u0).1.tdiv (w64 (f.tdiv h)))))))) || (((decide ((w64 ((w64 ((w64 (u1 - (w64 (u0.Add * u2)))).tdiv a)).tdiv d)) > 0)) && (decide ((w64 (f.tdiv h)) < 0))) && (decide ((w64 ((w64 ((w64 (u1 - (w64 (u0.Add * u2)))).tdiv a)).tdiv d)) > (w64 ((boundsS u0).1.tdiv (w64 (f.tdiv h)))))))) rfl rfl (by kernel_rfl) rfl (by kernel_rfl) (by kernel_rfl) (by kernel_rfl) (fun hg => pk_and al (g := [7]) (m := 8) (b := (decide ((w64 ((w64 ((w64 (u1 - (w64 (u0.Add * u2)))).tdiv a)).tdiv d)) < 0)) && (decide ((w64 (f.tdiv h)) < 0))) (v := decide ((w64 ((w64 ((w64 (u1 - (w64 (u0.Add * u2)))).tdiv a)).tdiv d)) < (w64 ((boundsS u0).2.tdiv (w64 (f.tdiv h)))))) rfl (by kernel_rfl) (by kernel_rfl) (by kernel_rfl) hg) ?_; intro fO am
  refine u_ am (.bool ((((((decide ((w64 ((w64 ((w64 (u1 - (w64 (u0.Add * u2)))).tdiv a)).tdiv d)) > 0)) && (decide ((w64 (f.tdiv h)) > 0))) && (decide ((w64 ((w64 ((w64 (u1 - (w64 (u0.Add * u2)))).tdiv a)).tdiv d)) > (w64 ((boundsS u0).2.tdiv (w64 (f.tdiv h))))))) || (((decide ((w64 ((w64 ((w64 (u1 - (w64 (u0.Add * u2)))).tdiv a)).tdiv d)) < 0)) && (decide ((w64 (f.tdiv h)) > 0))) && (decide ((w64 ((w64 ((w64 (u1 - (w64 (u0.Add * u2)))).tdiv a)).tdiv d)) < (w64 ((boundsS u0).1.tdiv (w64 (f.tdiv h)))))))) || (((decide ((w64 ((w64 ((w64 (u1 - (w64 (u0.Add * u2)))).tdiv a)).tdiv d)) > 0)) && (decide ((w64 (f.tdiv h)) < 0))) && (decide ((w64 ((w64 ((w64 (u1 - (w64 (u0.Add * u2)))).tdiv a)).tdiv d)) > (w64 ((boundsS u0).1.tdiv (w64 (f.tdiv h)))))))) || (((decide ((w64 ((w64 ((w64 (u1 - (w64 (u0.Add * u2)))).tdiv a)).tdiv d)) < 0)) && (decide ((w64 (f.tdiv h)) < 0))) && (decide ((w64 ((w64 ((w64 (u1 - (w64 (u0.Add * u2)))).tdiv a)).tdiv d)) < (w64 ((boundsS u0).2.tdiv (w64 (f.tdiv h))))))))) (pk_or am (g := []) (m := 7) (b := ((((decide ((w64 ((w64 ((w64 (u1 - (w64 (u0.Add * u2)))).tdiv a)).tdiv d)) > 0)) && (decide ((w64 (f.tdiv h)) > 0))) && (decide ((w64 ((w64 ((w64 (u1 - (w64 (u0.Add * u2)))).tdiv a)).tdiv d)) > (w64 ((boundsS u0).2.tdiv (w64 (f.tdiv h))))))) || (((decide ((w64 ((w64 ((w64 (u1 - (w64 (u0.Add * u2)))).tdiv a)).tdiv d)) < 0)) && (decide ((w64 (f.tdiv h)) > 0))) && (decide ((w64 ((w64 ((w64 (u1 - (w64 (u0.Add * u2)))).tdiv a)).tdiv d)) < (w64 ((boundsS u0).1.tdiv (w64 (f.tdiv h)))))))) || (((decide ((w64 ((w64 ((w64 (u1 - (w64 (u0.Add * u2)))).tdiv a)).tdiv d)) > 0)) && (decide ((w64 (f.tdiv h)) < 0))) && (decide ((w64 ((w64 ((w64 (u1 - (w64 (u0.Add * u2)))).tdiv a)).tdiv d)) > (w64 ((boundsS u0).1.tdiv (w64 (f.tdiv h)))))))) (v := ((decide ((w64 ((w64 ((w64 (u1 - (w64 (u0.Add * u2)))).tdiv a)).tdiv d)) < 0)) && (decide ((w64 (f.tdiv h)) < 0))) && (decide ((w64 ((w64 ((w64 (u1 - (w64 (u0.Add * u2)))).tdiv a)).tdiv d)) < (w64 ((boundsS u0).2.tdiv (w64 (f.tdiv h))))))) rfl (by kernel_rfl) (by kernel_rfl) (by kernel_rfl) rfl) ?_; intro cD z
  apply bI
  refine c_ z H (fun _ dC => ?_) fun _ I => ?_
  ·
   have cE : Fr 171 [] [] cD := z.reg
   refine sqB cE n [] [] [(6, i6 0), (7, i6 3)] ?_; intro fP dD
   exact r_ (h_ (ra2 dD (.tuple #[i6 0, i6 3]) ⟨(0, 3), rfl, dC, n.below⟩))
  refine k_ (s_ ?_)
  have cF : Fr 171 [] [⟨9, [], i6 (w64 ((w64 ((w64 (u1 - (w64 (u0.Add * u2)))).tdiv a)).tdiv d))⟩, ⟨11, [], i6 (w64 (f.tdiv h))⟩, ⟨14, [], i6 (boundsS u0).1⟩, ⟨15, [], i6 (boundsS u0).2⟩] cD := z.reg
  refine sqB cF n [] [] [(16, i6 (w64 ((w64 ((w64 ((w64 (u1 - (w64 (u0.Add * u2)))).tdiv a)).tdiv d)) * (w64 (f.tdiv h)))))] ?_; intro fQ cG
  refine sqB cG n [] [] [(167, .bool ((decide ((w64 ((w64 ((w64 ((w64 (u1 - (w64 (u0.Add * u2)))).tdiv a)).tdiv d)) * (w64 (f.tdiv h)))) < (boundsS u0).1)) || (decide ((w64 ((w64 ((w64 ((w64 (u1 - (w64 (u0.Add * u2)))).tdiv a)).tdiv d)) * (w64 (f.tdiv h)))) > (boundsS u0).2))))] ?_; intro fR A
  refine c_ A I (fun _ dE => ?_) fun _ dG => ?_
  ·
   refine sqB A n [] [] [(6, i6 0), (7, i6 3)] ?_; intro fS dF
   exact r_ (h_ (ra2 dF (.tuple #[i6 0, i6 3]) ⟨(0, 3), rfl, dE, n.below⟩))
  refine k_ (sqB A n [] [] [(6, i6 (w64 ((w64 ((w64 ((w64 (u1 - (w64 (u0.Add * u2)))).tdiv a)).tdiv d)) * (w64 (f.tdiv h))))), (7, i6 0)] ?_); intro fT dH
  exact r_ (ra2 dH (.tuple #[i6 (w64 ((w64 ((w64 ((w64 (u1 - (w64 (u0.Add * u2)))).tdiv a)).tdiv d)) * (w64 (f.tdiv h)))), i6 0]) ⟨(w64 ((w64 ((w64 ((w64 (u1 - (w64 (u0.Add * u2)))).tdiv a)).tdiv d)) * (w64 (f.tdiv h))), 0), rfl, dG, n.below⟩)
 refine c_ aR C (fun _ dI => ?_) fun _ dK => ?_
 ·
  refine rgB aR u [] [] [(11, i6 (w64 (0 - (w64 (u0.Div.tdiv i))))), (12, i6 (w64 (0 - (w64 (u0.Mul.tdiv i)))))] ?_; intro fU dJ
  exact d_ (aS (w64 (0 - (w64 (u0.Div.tdiv i)))) (w64 (0 - (w64 (u0.Mul.tdiv i)))) dI _ _ ((dJ.reg).anyβ _ (by kernel_rfl)) (u.kp))
 exact l_ (d_ (aS (w64 (u0.Div.tdiv i)) (w64 (u0.Mul.tdiv i)) dK _ _ ((aR.reg).anyβ _ (by kernel_rfl)) (u.kp)))
end Go.Proofs.YtdndfbamhnchfaaGreatDoor
set_option linter.unusedVariables false
set_option linter.unusedSimpArgs false
set_option linter.defProp false
set_option maxRecDepth 100000
set_option maxHeartbeats 0
namespace Go.Proofs.YtdndfbamhnchfaaGreatDoor
open Go.Sy Go.RowKit
theorem iisnan_walk (u0 : Int)  (Z : Fz) (w : World)  (hZ : Z.on w) {K : Bool → Prop} (hp : iisnan_vc u0 K) : Calls Tryz.prog 108 #[i6 u0] w fun e w' => ∃ r : Bool, e = .returned (.bool r) ∧ K r ∧ Below w.heap.size w w' := by
 refine enter0 Tryz.func108 rfl rfl (by kernel_rfl) ?_; intro f b; have a := Mem.start w Z hZ
 refine sqB b a [] [] [] ?_; intro h c
 refine sqB c a [] [] [(2, .bool (u0 != u0))] ?_; intro i d
 exact r_ (ra1 d (.bool (u0 != u0)) ⟨u0 != u0, rfl, hp, a.below⟩)
def iisnan_fun (u0 : Int)  (Z : Fz) (w : World)  (hZ : Z.on w) := f_ (iisnan_walk u0  Z w  hZ (iisnan_ok u0))
def sraw_fun (u0 : Signal) (u1 : Int) (u2 : Int)  (Z : Fz) (w : World)  (hZ : Z.on w) := f_ (sraw_walk u0 u1 u2  Z w  hZ (sraw_ok u0 u1 u2))
end Go.Proofs.YtdndfbamhnchfaaGreatDoor
namespace Go.Proofs
open Go.Shelf
def Tryz.lays189_ren : Go.Shelf.Ren := ⟨fun | 189 => 88 | 125 => 107 | 257 => 106 | 128 => 124 | 129 => 125 | 294 => 115 | 295 => 116 | 296 => 117 | 297 => 118 | 298 => 119 | 299 => 120 | 216 => 121 | 300 => 122 | 301 => 123 | 328 => 132 | 329 => 133 | 330 => 134 | 331 => 135 | 332 => 136 | 215 => 108 | 343 => 141 | n => n, fun | 28 => 59 | 3 => 3 | 46 => 82 | 0 => 0 | 51 => 105 | 53 => 108 | 4 => 4 | 183 => 134 | 182 => 133 | 131 => 139 | 5 => 5 | 9 => 9 | 218 => 148 | 222 => 151 | 228 => 161 | 229 => 96 | n => n, fun | n => n⟩
theorem Tryz.lays189 : Go.Proofs.Lays.n189 Tryz.prog Tryz.lays189_ren := {
  mixed := by kernel_rfl
  f125 := Tryz.func107.trans (congrArg some (by kernel_rfl))
  f128 := Tryz.func124.trans (congrArg some (by kernel_rfl))
  f129 := Tryz.func125.trans (congrArg some (by kernel_rfl))
  f189 := Tryz.func88.trans (congrArg some (by kernel_rfl))
  f215 := Tryz.func108.trans (congrArg some (by kernel_rfl))
  f216 := Tryz.func121.trans (congrArg some (by kernel_rfl))
  f257 := Tryz.func106.trans (congrArg some (by kernel_rfl))
  f294 := Tryz.func115.trans (congrArg some (by kernel_rfl))
  f295 := Tryz.func116.trans (congrArg some (by kernel_rfl))
  f296 := Tryz.func117.trans (congrArg some (by kernel_rfl))
  f297 := Tryz.func118.trans (congrArg some (by kernel_rfl))
  f298 := Tryz.func119.trans (congrArg some (by kernel_rfl))
  f299 := Tryz.func120.trans (congrArg some (by kernel_rfl))
  f300 := Tryz.func122.trans (congrArg some (by kernel_rfl))
  f301 := Tryz.func123.trans (congrArg some (by kernel_rfl))
  f328 := Tryz.func132.trans (congrArg some (by kernel_rfl))
  f329 := Tryz.func133.trans (congrArg some (by kernel_rfl))
  f330 := Tryz.func134.trans (congrArg some (by kernel_rfl))
  f331 := Tryz.func135.trans (congrArg some (by kernel_rfl))
  f332 := Tryz.func136.trans (congrArg some (by kernel_rfl))
  f343 := Tryz.func141.trans (congrArg some (by kernel_rfl))
  t0 := Tryz.underlying0
  a0 := Tryz.isAgg0
  z0 := Tryz.sizeOf0
  v0 := Tryz.zeroValue0
  t3 := Tryz.underlying3
  a3 := Tryz.isAgg3
  z3 := Tryz.sizeOf3
  v3 := Tryz.zeroValue3
  t4 := Tryz.underlying4
  a4 := Tryz.isAgg4
  z4 := Tryz.sizeOf4
  v4 := Tryz.zeroValue4
  t5 := Tryz.underlying5
  a5 := Tryz.isAgg5
  z5 := Tryz.sizeOf5
  v5 := Tryz.zeroValue5
  t9 := Tryz.underlying9
  a9 := Tryz.isAgg9
  z9 := Tryz.sizeOf9
  v9 := Tryz.zeroValue9
  t28 := Tryz.underlying59
  a28 := Tryz.isAgg59
  z28 := Tryz.sizeOf59
  v28 := Tryz.zeroValue59
  t46 := Tryz.underlying82
  a46 := Tryz.isAgg82
  z46 := Tryz.sizeOf82
  v46 := Tryz.zeroValue82
  t51 := Tryz.underlying105
  a51 := Tryz.isAgg105
  z51 := Tryz.sizeOf105
  v51 := Tryz.zeroValue105
  t53 := Tryz.underlying108
  a53 := Tryz.isAgg108
  z53 := Tryz.sizeOf108
  v53 := Tryz.zeroValue108
  t131 := Tryz.underlying139
  a131 := Tryz.isAgg139
  z131 := Tryz.sizeOf139
  v131 := Tryz.zeroValue139
  t182 := Tryz.underlying133
  a182 := Tryz.isAgg133
  z182 := Tryz.sizeOf133
  v182 := Tryz.zeroValue133
  t183 := Tryz.underlying134
  a183 := Tryz.isAgg134
  z183 := Tryz.sizeOf134
  v183 := Tryz.zeroValue134
  t218 := Tryz.underlying148
  a218 := Tryz.isAgg148
  z218 := Tryz.sizeOf148
  v218 := Tryz.zeroValue148
  t222 := Tryz.underlying151
  a222 := Tryz.isAgg151
  z222 := Tryz.sizeOf151
  v222 := Tryz.zeroValue151
  t228 := Tryz.underlying161
  a228 := Tryz.isAgg161
  z228 := Tryz.sizeOf161
  v228 := Tryz.zeroValue161
  t229 := Tryz.underlying96
  a229 := Tryz.isAgg96
  z229 := Tryz.sizeOf96
  v229 := Tryz.zeroValue96 }
end Go.Proofs
set_option linter.unusedVariables false
set_option linter.unusedSimpArgs false
set_option maxRecDepth 100000
set_option maxHeartbeats 0
namespace Go.Proofs.YtdndfbamhnchfaaGreatDoor
open Go.Sy Go.RowKit
open Go Go.Sort
theorem sort_block (w : World) (blk n : Nat) (d : Array Int) (os : Array Obj) (cur : Array Value) (e : TypeId) (fr : Nat × Nat) (h : w.heap[blk]? = some (.cells cur e fr)) : (grow (putRow (Value.int .i64) (Go.Sort.ahead w n) blk 0 d) os).heap[blk]? = some (.cells (putCells (Value.int .i64) 0 d cur) e fr) := by
 have hl := (Array.getElem?_eq_some_iff.1 h).1
 have hl' : blk < (w.heap.modify blk (onCells (putCells (Value.int .i64) 0 d))).size := by rw [Array.size_modify]; exact hl
 show (w.heap.modify blk (onCells (putCells (Value.int .i64) 0 d)) ++ os)[blk]? = _
 rw [Array.getElem?_append, if_pos hl', Array.getElem?_modify, if_pos rfl, h]
 rfl
theorem sort_grown (w : World) (blk n : Nat) (d : Array Int) (os : Array Obj) : w.grownBy (grow (putRow (Value.int .i64) (Go.Sort.ahead w n) blk 0 d) os) (some blk) := by
 refine ⟨rfl, rfl, rfl, ?_, fun k hk hne => ?_⟩
 · show w.heap.size ≤ (w.heap.modify blk _ ++ os).size
   rw [Array.size_append, Array.size_modify]
   omega
 · have hl' : k < (w.heap.modify blk (onCells (putCells (Value.int .i64) 0 d))).size := by rw [Array.size_modify]; exact hk
   show (w.heap.modify blk (onCells (putCells (Value.int .i64) 0 d)) ++ os)[k]? = _
   rw [Array.getElem?_append, if_pos hl', Array.getElem?_modify, if_neg (fun h => hne (by rw [h]))]
theorem sort_cells (d : List Int) (cur : Array Value) (n cap : Nat) (hc : cur.size = cap) (hd : d.length ≤ cap) : ((putCells (Value.int .i64) 0 d.toArray cur).toList.take d.length) = d.map (Value.int .i64) := by
 apply List.ext_getElem?
 intro k
 rw [List.getElem?_take, List.getElem?_map]
 by_cases hk : k < d.length
 · rw [if_pos hk, List.getElem?_eq_getElem hk, Array.getElem?_toList]
   unfold putCells
   rw [Array.getElem?_mapIdx, Array.getElem?_eq_getElem (by omega), Option.map_some, Option.map_some, if_pos ⟨by omega, by simpa using hk⟩]
   congr 1
   simp [hk]
 · rw [if_neg hk, List.getElem?_eq_none (by omega)]
   rfl
theorem sort_mem {B : Nat} {U : List Nat} {w0 : World} {Z0 : Fz} {R : List Res} {Z : Fz} {w : World} (hM : Mem B U w0 Z0 R Z w) (i : Nat) {e : TypeId} {ad : Addr} {cap : Nat} {xs : List Int} (hR : R[i]? = some (.own t6 e (some ad) cap xs)) (n : Nat) (os : Array Obj) (ys : List Int) (hl : ys.length = xs.length) : Mem B U w0 Z0 (R.set i (.own t6 e (some ad) cap ys)) Z (grow (putRow (Value.int .i64) (Go.Sort.ahead w n) ad.block 0 ys.toArray) os) := by
 obtain ⟨a, c, cells, ho, hr⟩ := hM.res _ (List.mem_of_getElem? hR)
 rcases ho.2 with ⟨hv, _⟩ | ⟨g, cap', cur, hv, hb, hg, hn, hc, hs, ht⟩
 · cases hv
 · cases hv
   refine hM.upd hR (sort_grown w _ n _ os) _ ⟨a, by rw [hl]; exact c, ys.map (Value.int .i64), ⟨by simp [tyInt], .inr ⟨g, cap, _, by rw [hl], hb, sort_block w g n _ os cur e _ hg, by rw [hl]; exact hn, hc, ?_, ?_⟩⟩, ?_⟩ (fun b hb => .inl hb)
   · unfold putCells; rw [Array.size_mapIdx]; exact hs
   · have := sort_cells ys cur n (cap * 1) (by simpa [tyInt] using hs) (by omega)
     simpa [tyInt] using this
   · refine ⟨by simp [tyInt], fun j x hx => ?_⟩
     show List.take 1 (List.drop (j * 1) (ys.map (Value.int .i64))) = [Value.int .i64 x]
     have hj := (List.getElem?_eq_some_iff.1 hx).1
     rw [Nat.mul_one, List.drop_eq_getElem_cons (by rw [List.length_map]; exact hj), List.take_succ_cons, List.take_zero, List.getElem_map, (List.getElem?_eq_some_iff.1 hx).2]
theorem sort_frozen (w : World) (g j : Nat) (cur : Array Value) (e : TypeId) (hg : w.heap[g]? = some (.cells cur e (0, 0))) : w.frozen? ⟨g, j, none⟩ = false := by
 simp [World.frozen?, hg]
theorem sort_holds {B : Nat} {U : List Nat} {Z : Fz} {w : World} {e : TypeId} {ad : Addr} {cap : Nat} {xs : List Int} (h : (Res.own t6 e (some ad) cap xs).holds B U Z w) : ad = ⟨ad.block, 0, none⟩ ∧ ad.block < w.heap.size ∧ Holds (Value.int .i64) w ad.block 0 xs.toArray := by
 obtain ⟨d, f, cells, ho, hr⟩ := h
 rcases ho.2 with ⟨hv, _⟩ | ⟨g, cap', cur, hv, hb, hg, hn, hc, hs, ht⟩
 · cases hv
 · cases hv
   refine ⟨rfl, (Array.getElem?_eq_some_iff.1 hg).1, fun j hj => ⟨?_, sort_frozen w g _ cur e hg⟩⟩
   have hj : j < xs.length := by simpa using hj
   have b := hr.2 j xs[j] (List.getElem?_eq_getElem hj)
   have b : List.take 1 (List.drop (j * 1) cells) = [Value.int .i64 xs[j]] := b
   have a : cells[j]? = some (Value.int .i64 xs[j]) := by
    have c := congrArg (fun l => l[0]?) b
    simpa using c
   rw [← ht, List.getElem?_take] at a
   split at a
   · show w.cell? ⟨g, 0 + j, none⟩ = _
     rw [cell_of_row w g _ cur e (0, 0) hg, Nat.zero_add]
     rw [Array.getElem?_toList] at a
     rw [a]
     simp [hj]
   · cases a
theorem isort_at {P : Program} {fid : Nat} (u0 : List Int) (ao1 : Option Addr) (cap2 : Nat) (B : Nat) (w0 : World) (Z0 : Fz) (Rr : List Res) (Z : Fz) (w : World) {e : TypeId} (hM0 : Mem B [] w0 Z0 ((.own t6 e ao1 cap2 u0) :: Rr) Z w) (h1 : ∀ (blk off cap : Nat) (zs : List Int) (w : World) (hH : Holds (Value.int .i64) w blk off zs.toArray) (hblk : blk < w.heap.size) (hsz : zs.length < 4611686018427387904), Calls P fid #[.slice (some ⟨blk, off, none⟩) zs.length cap] w fun e w' => e = .returned (.tuple #[]) ∧ ∃ n os, w' = grow (putRow (Value.int .i64) (Go.Sort.ahead w n) blk off (zs.mergeSort fun x y => decide (x ≤ y)).toArray) os) (h2 : ∀ (p : Option Addr) (cap : Nat) (w : World), Calls P fid #[.slice p 0 cap] w fun e w' => e = .returned (.tuple #[]) ∧ w' = w) : Calls P fid #[.slice ao1 u0.length cap2] w fun e9 w' => ∃ (Z' : Fz), e9 = .returned (.tuple #[]) ∧ Fz.le Z Z' ∧ ((isortS u0).length = u0.length) ∧ Mem B [] w0 Z0 ((.own t6 e ao1 cap2 (isortS u0)) :: Rr) Z' w' := by
 have hr := hM0.res _ List.mem_cons_self
 cases ao1 with
 | none =>
  obtain ⟨_, _, cells, ho, _⟩ := hr
  rcases ho.2 with ⟨hv, hn⟩ | ⟨g, cap', cur, hv, _⟩
  · have : u0 = [] := List.eq_nil_of_length_eq_zero hn
    subst this
    have a : isortS [] = [] := by unfold isortS; exact List.mergeSort_nil
    rw [a]
    exact (h2 none cap2 w).mono fun _ _ ⟨ha, hb⟩ => by subst hb; exact ⟨Z, ha, Fz.le.refl Z, rfl, hM0⟩
  · cases hv
 | some ad =>
  obtain ⟨ha, hb, hc⟩ := sort_holds hr
  have hsm : u0.length < 4611686018427387904 := by
   have := hr.2.1
   have e : lim = 140737488355328 := rfl
   omega
  have hcall := h1 ad.block 0 cap2 u0 w hc hb hsm
  rw [← ha] at hcall
  refine hcall.mono ?_
  rintro _ _ ⟨he, n, os, rfl⟩
  exact ⟨Z, he, Fz.le.refl Z, isort_len u0, sort_mem hM0 0 rfl n os (isortS u0) (isort_len u0)⟩
theorem isort_fun (u0 : List Int) (ao1 : Option Addr) (cap2 : Nat) (B : Nat) (w0 : World) (Z0 : Fz) (Rr : List Res) (Z : Fz) (w : World) (hM0 : Mem B [] w0 Z0 ((.own t6 3 ao1 cap2 u0) :: Rr) Z w) (hZ : Z.on w) : Calls Tryz.prog 88 #[.slice ao1 u0.length cap2] w fun e w' => ∃ (Z' : Fz), e = .returned (.tuple #[]) ∧ Fz.le Z Z' ∧ ((isortS u0).length = u0.length) ∧ Mem B [] w0 Z0 ((.own t6 3 ao1 cap2 (isortS u0)) :: Rr) Z' w' :=
 isort_at u0 ao1 cap2 B w0 Z0 Rr Z w hM0 (fun blk off cap zs w hH hb hs => Any.slices_Sort_int Tryz.lays189 blk off cap zs w hH hb hs) (fun p cap w => Any.slices_Sort_int_none Tryz.lays189 p cap w)
theorem icmp_walk (u0 : Int) (u1 : Int)  (Z : Fz) (w : World)  (hZ : Z.on w) {K : Int → Prop} (hp : icmp_vc u0 u1 K) : Calls Tryz.prog 89 #[i6 u0, i6 u1] w fun e w' => ∃ r : Int, e = .returned (i6 r) ∧ K r ∧ Below w.heap.size w w' := by
 refine enter0 Tryz.func89 rfl rfl (by kernel_rfl) ?_; intro U u; have h := Mem.start w Z hZ
 refine sqB u h [] [] [] ?_; intro W v
 refine sqH ?_; intro F x
 refine s1 v 7 (i6 u0) ?_; intro X y
 refine fc y h (iisnan_fun u0 _ _ h.fz) ?_; intro Y aa z m
 refine s1 z 5 (.bool (iisnan u0)) ?_; intro ab A
 apply x
 refine sqH ?_; intro G B
 refine s1 A 9 (i6 u1) ?_; intro ac C
 refine fc C m (iisnan_fun u1 _ _ m.fz) ?_; intro ad ae D a
 refine s1 D 6 (.bool (iisnan u1)) ?_; intro af E
 apply B
 refine s_ (sqB E a [] [] [(11, .bool (iisnan u0))] ?_); intro ag b
 refine cd b (t := (iisnan u0)) (by kernel_rfl) (fun n => ?_) (fun n => ?_)
 · -- yes
  have i := hp.1 n
  refine s_ (sqB b a [] [] [(12, .bool (iisnan u1))] ?_); intro ah c
  refine cd c (t := (iisnan u1)) (by kernel_rfl) (fun o => ?_) (fun o => ?_)
  · -- yes
   have H := i.1 o
   refine sqB c a [] [] [(4, i6 0)] ?_; intro ai I
   exact r_ (h_ (h_ (ra1 I (i6 0) ⟨0, rfl, H, a.below⟩)))
  · -- no
   have J := i.2 o
   refine k_ (sqB c a [] [] [(4, i6 (-1))] ?_); intro aj L
   exact r_ (h_ (ra1 L (i6 (-1)) ⟨-1, rfl, J, a.below⟩))
 · -- no
  have j := hp.2 n
  refine k_ (s_ (sqB b a [] [] [(13, .bool (iisnan u1))] ?_)); intro ak d
  refine cd d (t := (iisnan u1)) (by kernel_rfl) (fun p => ?_) (fun p => ?_)
  · -- yes
   have M := j.1 p
   refine sqB d a [] [] [(4, i6 1)] ?_; intro al N
   exact r_ (h_ (ra1 N (i6 1) ⟨1, rfl, M, a.below⟩))
  · -- no
   have k := j.2 p
   refine k_ (s_ (sqB d a [] [] [(16, .bool (decide (u0 < u1)))] ?_)); intro am f
   refine cd f (t := decide (u0 < u1)) (by kernel_rfl) (fun q => ?_) (fun q => ?_)
   · -- yes
    have O := k.1 q
    refine sqB f a [] [] [(4, i6 (-1))] ?_; intro an P
    exact r_ (h_ (ra1 P (i6 (-1)) ⟨-1, rfl, O, a.below⟩))
   · -- no
    have l := k.2 q
    refine k_ (s_ (sqB f a [] [] [(19, .bool (decide (u0 > u1)))] ?_)); intro ao g
    refine cd g (t := decide (u0 > u1)) (by kernel_rfl) (fun s => ?_) (fun s => ?_)
    · -- yes
     have Q := l.1 s
     refine sqB g a [] [] [(4, i6 1)] ?_; intro ap R
     exact r_ (h_ (ra1 R (i6 1) ⟨1, rfl, Q, a.below⟩))
    · -- no
     have S := l.2 s
     refine k_ (sqB g a [] [] [(4, i6 0)] ?_); intro aq T
     exact r_ (ra1 T (i6 0) ⟨0, rfl, S, a.below⟩)
end Go.Proofs.YtdndfbamhnchfaaGreatDoor
set_option linter.unusedVariables false
set_option linter.unusedSimpArgs false
set_option linter.defProp false
set_option maxRecDepth 100000
set_option maxHeartbeats 0
namespace Go.Proofs.YtdndfbamhnchfaaGreatDoor
open Go.Sy Go.RowKit
abbrev e46F (X : Signal) : List Value := [str X.Name, i6 X.Start, i6 X.Size, .bool X.Back, .bool X.Signed, i6 X.Mul, i6 X.Div, i6 X.Add, i6 X.Key]
def icmp_fun (u0 : Int) (u1 : Int)  (Z : Fz) (w : World)  (hZ : Z.on w) := f_ (icmp_walk u0 u1  Z w  hZ (icmp_ok u0 u1))
theorem sover_walk (u0 : Signal) (u1 : Signal)  (Z : Fz) (w : World)  (hZ : Z.on w) {K : Bool → Prop} (hp : sover_vc u0 u1 K) : Calls Tryz.prog 59 #[.agg #[str u0.Name, i6 u0.Start, i6 u0.Size, .bool u0.Back, .bool u0.Signed, i6 u0.Mul, i6 u0.Div, i6 u0.Add, i6 u0.Key], .agg #[str u1.Name, i6 u1.Start, i6 u1.Size, .bool u1.Back, .bool u1.Signed, i6 u1.Mul, i6 u1.Div, i6 u1.Add, i6 u1.Key]] w fun e w' => ∃ r : Bool, e = .returned (.bool r) ∧ K r ∧ Below w.heap.size w w' := by
 refine enter0 Tryz.func59 rfl rfl (by kernel_rfl) ?_; intro a0 aj; have ak := Mem.start w Z hZ
 refine sqH ?_; intro bB al
 refine nw aj ak pb (e46F u0) 46 ?_; intro j a3 cJ am an
 refine nw am an pb (e46F u1) 46 ?_; intro i a8 cK ao H
 refine s1 ao 4 (.bool false) ?_; intro cL ap
 apply al
 refine s_ (sqH ?_); intro bC aq
 refine l2 ap H 8 1 0 9 (e46F u0) rfl rfl ?_; intro cM ar
 refine fc ar H (scheck_fun u0 64 _ _ H.fz) ?_; intro cN cO au I
 refine s1 au 10 (.bool ((checkS u0 64) != 0)) ?_; intro cP av
 refine s1 av 11 (.bool ((checkS u0 64) != 0)) ?_; intro cQ aw
 have S := aw.atom (((checkS u0 64) != 0) == false) (by kernel_rfl)
 refine gd S (.agg (e46F u1).toArray) (m := 0) (cj := []) (bj := (checkS u0 64) != 0) rfl rfl (by kernel_rfl) rfl (by kernel_rfl) (by kernel_rfl) (by kernel_rfl) (fun hg => lda S I 0 (g := [0]) (b := i) (off := 0) (k := 9) (cs := (e46F u1)) (vs := (e46F u1)) (ty := 46) rfl (by kernel_rfl) (by kernel_rfl) (by kernel_rfl) (by kernel_rfl) (by kernel_rfl) hg) ?_; intro cR ax
 refine gcl ax I (i6 (checkS u1 64)) 58 #[.agg (e46F u1).toArray, i6 64] (m := 0) (cj := []) (bj := (checkS u0 64) != 0) rfl rfl (by kernel_rfl) rfl (by kernel_rfl) (by kernel_rfl) (by kernel_rfl) (fun _ => by kernel_rfl) (fun hg => scheck_fun u1 64 _ _ I.fz) ?_; intro cT cU ay J
 refine gp ay 14 0 [] ((checkS u0 64) != 0) (.bool ((checkS u1 64) != 0)) rfl rfl ?_; intro cV U
 refine u_ U (.bool (((checkS u0 64) != 0) || ((checkS u1 64) != 0))) (pk_or U (g := []) (m := 0) (b := (checkS u0 64) != 0) (v := (checkS u1 64) != 0) rfl (by kernel_rfl) (by kernel_rfl) (by kernel_rfl) rfl) ?_; intro az x
 apply aq
 refine cd x (t := ((checkS u0 64) != 0) || ((checkS u1 64) != 0)) (by kernel_rfl) (fun V => ?_) (fun V => ?_)
 · -- yes
  have bD := hp.1 V
  have aA : Fr 49 [] [] az := x.reg
  refine sqB aA J [] [] [(4, .bool false)] ?_; intro cW bE
  exact r_ (h_ (ra1 bE (.bool false) ⟨false, rfl, bD, J.below⟩))
 · -- no
  have bF := hp.2 V
  apply k_
  have aB : Fr 49 [] [⟨2, [], pt j 0⟩, ⟨3, [], pt i 0⟩] az := x.reg
  refine wp_seq (rgS mixed J [(0, true), (2, true), (1, false), (3, false), (4, true), (5, true)] [] [1, 0] [.row j (e46F u0) 46, .row i (e46F u1) 46] ?_)
  intro bG aC cX W
  have q := Fz.le.refl Z
  refine cS aB 2 [0, 1] [] [(16, .agg (e46F u0).toArray), (18, .agg (e46F u1).toArray)] ?_; intro cY aD
  refine eS rfl ?_; intro bH aE
  obtain ⟨bI, bJ⟩ := bF
  refine ck aD 62 #[.agg (e46F u0).toArray] ?_
  refine (splaces_fun u0 bI _ _ W.fz).mono ?_; rintro _ bK ⟨a, c, bL, rfl, hm⟩; refine ⟨_, rfl, ?_⟩; intro cZ aF; have aG := W.callZ hm; have aH := hm.ext.le
  replace q := q.mono aH
  have L : Mem w.heap.size [] w Z [.own t6 3 a c (placesS u0), .row i (e46F u1) 46, .row j (e46F u0) 46] bL bK := aG
  refine nl (qnI (aE _ _ (L.cst q [2, 1]) ?_))
  refine eS rfl ?_; intro bM aI
  obtain ⟨bN, aJ⟩ := bJ
  refine ck aF 62 #[.agg (e46F u1).toArray] ?_
  refine (splaces_fun u1 bN _ _ L.fz).mono ?_; rintro _ bO ⟨d, f, bP, rfl, hm⟩; refine ⟨_, rfl, ?_⟩; intro c0 aK; have aL := L.callZ hm; have aM := hm.ext.le
  replace q := q.mono aM
  have M : Mem w.heap.size [] w Z [.own t6 3 d f (placesS u1), .own t6 3 a c (placesS u0), .row i (e46F u1) 46, .row j (e46F u0) 46] bP bO := aL
  refine nl (qnI (aI _ _ (M.cst q [3, 2]) ?_))
  refine cS aK 2 [] [] [(5, .slice a (placesS u0).length c), (6, .slice d (placesS u1).length f)] ?_; intro c1 aN
  refine nS (aC _ _ ?_)
  refine t_ (sqH ?_); intro bQ aO
  refine s1 aN 20 (.slice a (placesS u0).length c) ?_; intro c2 aP
  refine ck aP 88 #[.slice a (placesS u0).length c] ?_
  refine (isort_fun (placesS u0) a c _ _ _ _ _ _ (M.perm (pk 1 rfl)) M.fz).mono ?_; rintro _ bR ⟨bS, rfl, bT, bU, hm⟩; refine ⟨_, rfl, ?_⟩; intro bV aQ; have aR := hm
  have aS : Fr 49 [] [⟨2, [], pt j 0⟩, ⟨3, [], pt i 0⟩, ⟨5, [], .slice a (isortS (placesS u0)).length c⟩, ⟨6, [], .slice d (placesS u1).length f⟩, ⟨16, [], .agg (e46F u0).toArray⟩, ⟨17, [], .slice a (isortS (placesS u0)).length c⟩, ⟨18, [], .agg (e46F u1).toArray⟩, ⟨19, [], .slice d (placesS u1).length f⟩, ⟨20, [], .slice a (isortS (placesS u0)).length c⟩, ⟨21, [], .tuple #[]⟩] bV := by rw [bU]; exact aQ.region (by kernel_rfl) (by kernel_rfl)
  have N : Mem w.heap.size [] w Z [.own t6 3 a c (isortS (placesS u0)), .own t6 3 d f (placesS u1), .row i (e46F u1) 46, .row j (e46F u0) 46] bS bR := aR
  have aT := aJ (N.ownSmall 0 rfl)
  apply aO
  refine sqH ?_; intro bW aU
  refine s1 aS 22 (.slice d (placesS u1).length f) ?_; intro c3 aV
  refine ck aV 88 #[.slice d (placesS u1).length f] ?_
  refine (isort_fun (placesS u1) d f _ _ _ _ _ _ (N.perm (pk 1 rfl)) N.fz).mono ?_; rintro _ X ⟨bX, rfl, bY, bZ, hm⟩; refine ⟨_, rfl, ?_⟩; intro Y aW; have aX := hm
  have aY : Fr 49 [] [⟨2, [], pt j 0⟩, ⟨3, [], pt i 0⟩, ⟨5, [], .slice a (isortS (placesS u0)).length c⟩, ⟨6, [], .slice d (isortS (placesS u1)).length f⟩, ⟨16, [], .agg (e46F u0).toArray⟩, ⟨17, [], .slice a (isortS (placesS u0)).length c⟩, ⟨18, [], .agg (e46F u1).toArray⟩, ⟨19, [], .slice d (isortS (placesS u1)).length f⟩, ⟨20, [], .slice a (isortS (placesS u0)).length c⟩, ⟨21, [], .tuple #[]⟩, ⟨22, [], .slice d (isortS (placesS u1)).length f⟩, ⟨23, [], .tuple #[]⟩] Y := by rw [bZ]; exact aW.region (by kernel_rfl) (by kernel_rfl)
  have aZ : Mem w.heap.size [] w Z [.own t6 3 d f (isortS (placesS u1)), .own t6 3 a c (isortS (placesS u0)), .row i (e46F u1) 46, .row j (e46F u0) 46] bX X := aX
  have b0 := aT (aZ.ownSmall 0 rfl)
  apply aU
  refine s_ (b_ ?_)
  have a1 : Fr 49 [] [⟨5, [], .slice a (isortS (placesS u0)).length c⟩, ⟨6, [], .slice d (isortS (placesS u1)).length f⟩] Y := aY.reg
  obtain ⟨b1, b3, a2, O⟩ := aZ.freeze 1 rfl
  have b4 : Mem w.heap.size [] w Z [.own t6 3 d f (isortS (placesS u1)), .row i (e46F u1) 46, .row j (e46F u0) 46] b1 X := a2
  obtain ⟨aa, a4, a5, a6⟩ := b4.freeze 0 rfl
  replace O := O.mono a4
  have a7 : Mem w.heap.size [] w Z [.row i (e46F u1) 46, .row j (e46F u0) 46] aa X := a5
  have a9 : Fr 49 [] [⟨5, [], .slice a (isortS (placesS u0)).length c⟩, ⟨6, [], .slice d (isortS (placesS u1)).length f⟩] Y := a1.reg
  obtain ⟨b5, b6, b8, b9⟩ := b0
  refine lp (ι := (List Int) × (List Int) × (Option Addr) × Nat × (Option Addr) × Nat × Fz) (fun s => [⟨5, [], .slice s.2.2.1 s.1.length s.2.2.2.1⟩, ⟨6, [], .slice s.2.2.2.2.1 s.2.1.length s.2.2.2.2.2.1⟩]) (fun s => [.row i (e46F u1) 46, .row j (e46F u0) 46]) (fun s => s.2.2.2.2.2.2) (fun s => b5 s.1 s.2.1 ∧ SlR t6 s.2.2.2.2.2.2 s.2.2.1 s.2.2.2.1 s.1 ∧ SlR t6 s.2.2.2.2.2.2 s.2.2.2.2.1 s.2.2.2.2.2.1 s.2.1 ∧ Fz.le aa s.2.2.2.2.2.2) (fun s => b6 s.1 s.2.1) ⟨(isortS (placesS u0)), (isortS (placesS u1)), a, c, d, f, aa⟩ ⟨b8, O, a6, Fz.le.refl _⟩ (by exact a9.region (by kernel_rfl) (by kernel_rfl)) (by exact a7) ?_
  rintro ⟨l, n, y, z, A, B, ab⟩ ⟨ca, ac, ad, C⟩ cb cc ba bb
  have P := b9 l n ca
  refine s_ (sqB ba bb [] [] [(31, .bool ((decide ((l.length : Int) > 0)) && (decide ((n.length : Int) > 0))))] ?_); intro ce E
  refine cd E (t := (decide ((l.length : Int) > 0)) && (decide ((n.length : Int) > 0))) (by kernel_rfl) (fun ae => ?_) (fun ae => ?_)
  · -- yes
   have cf := P.1 ae
   refine k_ (b_ ?_)
   have bd : Fr 49 [] [⟨5, [], .slice y l.length z⟩, ⟨6, [], .slice A n.length B⟩] ce := E.reg
   refine sqQH mixed (by kernel_rfl) bb ?_; intro cg be
   refine q1 bd 32 (.slice y l.length z) ?_; intro c7 bf
   obtain ⟨ch, bg⟩ := cf
   refine qx_ bf ac (0 : Int) ch .i64 3 8 ?_; intro c8 c9 ci o da cl cm cn af
   have co := bg o cl
   obtain rfl : ci = ([i6 o] : List Value) := cn
   refine qz_ af cm 0 (i6 o) rfl ?_; intro db bh
   refine q1 bh 35 (.slice A n.length B) ?_; intro dc bi
   obtain ⟨cp, bk⟩ := co
   refine qx_ bi ad (0 : Int) cp .i64 3 8 ?_; intro dd de cq p df cr ct cu ag
   have Q := bk p cr
   obtain rfl : cq = ([i6 p] : List Value) := cu
   refine qz_ ag ct 0 (i6 p) rfl ?_; intro dg bl
   refine qcl bl (i6 (icmpS o p)) 89 #[i6 o, i6 p] (nog rfl _) rfl (by kernel_rfl) (fun _ => by kernel_rfl) (qfc fun w hC => icmp_fun o p _ _ hC.fz) ?_; intro dh bm
   refine q1 bm 7 (i6 (icmpS o p)) ?_; intro di bn
   refine qnl (be _ ?_); intro dj u
   refine b_ (sqB bn u [] [] [(41, .bool ((icmpS o p) == 0))] ?_); intro dk F
   refine cd F (t := (icmpS o p) == 0) (by kernel_rfl) (fun ah => ?_) (fun ah => ?_)
   · -- yes
    have cv := Q.1 ah
    refine sqB F u [] [] [(4, .bool true)] ?_; intro dl cw
    exact r_ (i_ (i_ (h_ (i_ (h_ (ra1 cw (.bool true) ⟨true, rfl, cv, u.below⟩))))))
   · -- no
    have R := Q.2 ah
    refine sqB F u [] [] [(44, .bool (decide ((icmpS o p) < 0)))] ?_; intro dm G
    refine cd G (t := decide ((icmpS o p) < 0)) (by kernel_rfl) (fun ai => ?_) (fun ai => ?_)
    · -- yes
     have cx := R.1 ai
     refine rgH ?_; intro cy bo
     refine s1 G 47 (.slice y l.length z) ?_; intro dn bp
     obtain ⟨cz, bq⟩ := cx
     refine slL bp (T := t6) (xs := l) ac (1 : Int) cz (k := .i64) (e := 3) (bytes := 8) (nog rfl _) rfl (by kernel_rfl) rfl (by kernel_rfl) (by kernel_rfl) (by kernel_rfl) ?_; intro br bs dp dq cA bt
     refine s1 bt 5 (.slice br (l.drop (1 : Int).toNat).length bs) ?_; intro dr cB
     apply bo
     exact j_ (j_ (d_ ⟨⟨l.drop (1 : Int).toNat, n, br, bs, A, B, ab⟩, ⟨bq.1, cA, ad, C⟩, bq.2, (cB.region (by kernel_rfl) (by kernel_rfl)).anyβ _ (by kernel_rfl), u.kp⟩))
    · -- no
     have cC := R.2 ai
     refine rgH ?_; intro cD bu
     refine s1 G 39 (.slice A n.length B) ?_; intro ds bv
     obtain ⟨cE, bw⟩ := cC
     refine slL bv (T := t6) (xs := n) ad (1 : Int) cE (k := .i64) (e := 3) (bytes := 8) (nog rfl _) rfl (by kernel_rfl) rfl (by kernel_rfl) (by kernel_rfl) (by kernel_rfl) ?_; intro bx bz dt du cF bA
     refine s1 bA 6 (.slice bx (n.drop (1 : Int).toNat).length bz) ?_; intro dv cG
     apply bu
     exact j_ (j_ (d_ ⟨⟨l, n.drop (1 : Int).toNat, y, z, bx, bz, ab⟩, ⟨bw.1, ac, cF, C⟩, bw.2, (cG.region (by kernel_rfl) (by kernel_rfl)).anyβ _ (by kernel_rfl), u.kp⟩))
  · -- no
   have cH := P.2 ae
   refine x_ (y_ (y_ (z_ (t_ (sqB E bb [] [] [(4, .bool false)] ?_))))); intro dw cI
   exact r_ (ra1 cI (.bool false) ⟨false, rfl, cH, bb.below⟩)
end Go.Proofs.YtdndfbamhnchfaaGreatDoor
set_option linter.unusedVariables false
set_option linter.unusedSimpArgs false
set_option linter.defProp false
namespace Go.Proofs.YtdndfbamhnchfaaGreatDoor
open Go.Sy Go.RowKit
def sover_fun (u0 : Signal) (u1 : Signal)  (Z : Fz) (w : World)  (hZ : Z.on w) := f_ (sover_walk u0 u1  Z w  hZ (sover_ok u0 u1))
end Go.Proofs.YtdndfbamhnchfaaGreatDoor
set_option linter.unusedVariables false
set_option linter.unusedSimpArgs false
set_option linter.defProp false
set_option maxRecDepth 100000
set_option maxHeartbeats 0
namespace Go.Proofs.YtdndfbamhnchfaaGreatDoor
open Go.Sy Go.RowKit
theorem fsizes_walk   (Z : Fz) (w : World)  (hZ : Z.on w) {K : (List Int) → Prop} (hp : fsizes_vc  K) : Calls Tryz.prog 60 #[] w fun e w' => ∃ (r : (List Int)) (ao1001 : Option Addr) (cap1002 : Nat) (Z' : Fz), e = .returned (.slice ao1001 r.length cap1002) ∧ K r ∧ Mem w.heap.size [] w Z [.own t6 3 ao1001 cap1002 r] Z' w' := by
 refine enter0 Tryz.func60 rfl rfl (by kernel_rfl) ?_; intro n d; have c := Mem.start w Z hZ
 refine sqB d c [] [] [] ?_; intro p f
 refine sqH ?_; intro j g
 refine nw f c (fun b => .slice (sm b) 16 16) [i6 0, i6 1, i6 2, i6 3, i6 4, i6 5, i6 6, i6 7, i6 8, i6 12, i6 16, i6 20, i6 24, i6 32, i6 48, i6 64] 3 ?_; intro a q k h i
 refine s1 h 0 (.slice (sm a) 16 16) ?_; intro s l
 apply g
 apply r_
 have m : Mem w.heap.size [] w Z [.own t6 3 (sm a) 16 ([0, 1, 2, 3, 4, 5, 6, 7, 8, 12, 16, 20, 24, 32, 48, 64] : List Int)] Z k := i.rowOwn (T := t6) (xs := ([0, 1, 2, 3, 4, 5, 6, 7, 8, 12, 16, 20, 24, 32, 48, 64] : List Int)) 0 rfl (by decide) (by show 16 ≤ lim; decide) ((RepAll.one (T := t6) (x := 0) rfl).append ((RepAll.one (T := t6) (x := 1) rfl).append ((RepAll.one (T := t6) (x := 2) rfl).append ((RepAll.one (T := t6) (x := 3) rfl).append ((RepAll.one (T := t6) (x := 4) rfl).append ((RepAll.one (T := t6) (x := 5) rfl).append ((RepAll.one (T := t6) (x := 6) rfl).append ((RepAll.one (T := t6) (x := 7) rfl).append ((RepAll.one (T := t6) (x := 8) rfl).append ((RepAll.one (T := t6) (x := 12) rfl).append ((RepAll.one (T := t6) (x := 16) rfl).append ((RepAll.one (T := t6) (x := 20) rfl).append ((RepAll.one (T := t6) (x := 24) rfl).append ((RepAll.one (T := t6) (x := 32) rfl).append ((RepAll.one (T := t6) (x := 48) rfl).append (RepAll.one (T := t6) (x := 64) rfl))))))))))))))))
 exact ra1 l (.slice (sm a) ([0, 1, 2, 3, 4, 5, 6, 7, 8, 12, 16, 20, 24, 32, 48, 64] : List Int).length 16) ⟨([0, 1, 2, 3, 4, 5, 6, 7, 8, 12, 16, 20, 24, 32, 48, 64] : List Int), (sm a), 16, Z, rfl, hp, m.kp⟩
def fsizes_fun   (Z : Fz) (w : World)  (hZ : Z.on w) := fc_ (fsizes_walk   Z w  hZ (fsizes_ok ))
theorem sindex_walk (u0 : List Int) (u1 : Int) (ao1 : Option Addr) (cap2 : Nat) (Z : Fz) (w : World) (hs3 : SlR t6 Z ao1 cap2 u0) (hZ : Z.on w) {K : Int → Prop} (hp : sindex_vc u0 u1 K) : Calls Tryz.prog 67 #[.slice ao1 u0.length cap2, i6 u1] w fun e w' => ∃ r : Int, e = .returned (i6 r) ∧ K r ∧ Below w.heap.size w w' := by
 refine enter0 Tryz.func67 rfl rfl (by kernel_rfl) ?_; intro a0 m; have g := Mem.start w Z hZ
 have G := hp (hs3.small)
 refine sqB m g [] [] [] ?_; intro a6 n
 refine s_ (sqB n g [] [] [(7, i6 (u0.length : Int)), (8, i6 0)] ?_); intro o p
 apply b_
 have q : Fr 19 [] [⟨0, [], .slice ao1 u0.length cap2⟩, ⟨1, [], i6 u1⟩, ⟨7, [], i6 (u0.length : Int)⟩, ⟨8, [], i6 0⟩] o := p.reg
 obtain ⟨H, I, J, L⟩ := G
 refine lp (ι := Int) (fun s => [⟨0, [], .slice ao1 u0.length cap2⟩, ⟨1, [], i6 u1⟩, ⟨7, [], i6 (u0.length : Int)⟩, ⟨8, [], i6 s⟩]) (fun s => []) (fun s => Z) (fun s => H s) (fun s => I s) 0 J (by exact q.region (by kernel_rfl) (by kernel_rfl)) (by exact g) ?_
 rintro a M N O v x
 have h := L a M
 refine sqB v x [] [] [(9, .bool (decide (a < (u0.length : Int))))] ?_; intro ae c
 apply s_
 refine cd c (t := decide (a < (u0.length : Int))) (by kernel_rfl) (fun j => ?_) (fun j => ?_)
 · -- yes
  have P := h.1 j
  refine k_ (s_ (b_ (sqB c x [] [] [(5, i6 a)] ?_))); intro af z
  refine sqH ?_; intro Q A
  refine bt z x 3 [] [] [(11, i6 u1), (12, .slice ao1 u0.length cap2), (13, i6 a)] ?_; intro ag B
  obtain ⟨R, C⟩ := P
  refine ix_ B hs3 a R .i64 3 8 ?_; intro ah ai S d aj U V W D
  have i := C d U
  obtain rfl : S = ([i6 d] : List Value) := W
  refine z1 D x 15 V 0 (i6 d) rfl ?_; intro ak E
  refine s1 E 16 (.bool (u1 == d)) ?_; intro al f
  apply A
  refine cd f (t := u1 == d) (by kernel_rfl) (fun l => ?_) (fun l => ?_)
  · -- yes
   have X := i.1 l
   refine sqB f x [] [] [(4, i6 a)] ?_; intro am Y
   exact r_ (i_ (h_ (h_ (i_ (h_ (ra1 Y (i6 a) ⟨a, rfl, X, x.below⟩))))))
  · -- no
   have F := i.2 l
   refine l_ (j_ (t_ (rgB f x [] [] [(8, i6 (w64 (a + 1)))] ?_))); intro an aa
   exact d_ ⟨w64 (a + 1), F.1, F.2, (aa.region (by kernel_rfl) (by kernel_rfl)).anyβ _ (by kernel_rfl), x.kp⟩
 · -- no
  have ab := h.2 j
  refine x_ (y_ (y_ (z_ (t_ (sqB c x [] [] [(4, i6 (-1))] ?_))))); intro ao ac
  exact r_ (ra1 ac (i6 (-1)) ⟨-1, rfl, ab, x.below⟩)
theorem scontains_walk (u0 : List Int) (u1 : Int) (ao1 : Option Addr) (cap2 : Nat) (Z : Fz) (w : World) (hs3 : SlR t6 Z ao1 cap2 u0) (hZ : Z.on w) {K : Bool → Prop} (hp : scontains_vc u0 u1 K) : Calls Tryz.prog 29 #[.slice ao1 u0.length cap2, i6 u1] w fun e w' => ∃ r : Bool, e = .returned (.bool r) ∧ K r ∧ Below w.heap.size w w' := by
 refine enter0 Tryz.func29 rfl rfl (by kernel_rfl) ?_; intro n c; have a := Mem.start w Z hZ
 have j := hp (hs3.small)
 refine sqB c a [] [] [] ?_; intro p d
 refine sqH ?_; intro k f
 refine bt d a 2 [] [] [(5, .slice ao1 u0.length cap2), (6, i6 u1)] ?_; intro q g
 refine ck g 67 #[.slice ao1 u0.length cap2, i6 u1] ?_
 refine (sindex_walk u0 u1 ao1 cap2 _ _ hs3 a.fz j).mono ?_; rintro _ s ⟨b, rfl, l, hb⟩; refine ⟨_, rfl, ?_⟩; intro t h; have i := a.call hb
 refine bt h i 2 [] [] [(4, .bool (decide (b ≥ 0)))] ?_; intro u m
 apply f
 exact r_ (ra1 m (.bool (decide (b ≥ 0))) ⟨decide (b ≥ 0), rfl, l, i.below⟩)
end Go.Proofs.YtdndfbamhnchfaaGreatDoor
set_option linter.unusedVariables false
set_option linter.unusedSimpArgs false
set_option linter.defProp false
set_option maxRecDepth 100000
set_option maxHeartbeats 0
namespace Go.Proofs.YtdndfbamhnchfaaGreatDoor
open Go.Sy Go.RowKit
abbrev e46Mb (X : Signal) : List Value := [str X.Name, i6 X.Start, i6 X.Size, .bool X.Back, .bool X.Signed, i6 X.Mul, i6 X.Div, i6 X.Add, i6 X.Key]
abbrev e27Mb (X : Frame) (A0 : Option Addr) (C0 : Nat) : List Value := [i6 X.ID, .bool X.Long, .bool X.Fast, .bool X.Remote, i6 X.Size, .slice A0 X.Data.length C0]
abbrev e24Mb (X : Message) (A0 : Option Addr) (C0 : Nat) : List Value := [i6 X.ID, .bool X.Long, str X.Name, i6 X.Size, i6 X.Chooser, .slice A0 X.Signals.length C0]
def scontains_fun (u0 : List Int) (u1 : Int) (ao1 : Option Addr) (cap2 : Nat) (Z : Fz) (w : World) (hs3 : SlR t6 Z ao1 cap2 u0) (hZ : Z.on w) := f_ (scontains_walk u0 u1 ao1 cap2 Z w hs3 hZ (scontains_ok u0 u1))
theorem fcheckfr_walk (u0 : Frame) (ao1 : Option Addr) (cap2 : Nat) (Z : Fz) (w : World) (hs3 : SlR t8 Z ao1 cap2 u0.Data) (hZ : Z.on w) {K : Int → Prop} (hp : fcheckfr_vc u0 K) : Calls Tryz.prog 22 #[.agg #[i6 u0.ID, .bool u0.Long, .bool u0.Fast, .bool u0.Remote, i6 u0.Size, .slice ao1 u0.Data.length cap2]] w fun e w' => ∃ r : Int, e = .returned (i6 r) ∧ K r ∧ Below w.heap.size w w' := by
 refine enter0 Tryz.func22 rfl rfl (by kernel_rfl) ?_; intro a0 C; have D := Mem.start w Z hZ
 have k := hp (hs3.small)
 refine sqH ?_; intro V E
 refine nw C D pb (e27Mb u0 ao1 cap2) 27 ?_; intro l a7 aq F a
 refine s1 F 2 (i6 0) ?_; intro ar G
 apply E
 refine s_ (b_ (sqB G a [0, 0, 0, 0] [] [(3, .bool (((decide (u0.ID < 0)) || ((!u0.Long) && (decide (u0.ID > 2047)))) || (decide (u0.ID > 536870911))))] ?_)); intro au c
 refine cd c (t := ((decide (u0.ID < 0)) || ((!u0.Long) && (decide (u0.ID > 2047)))) || (decide (u0.ID > 536870911))) (by kernel_rfl) (fun q => ?_) (fun q => ?_)
 · -- yes
  have W := k.1 q
  refine sqB c a [] [] [(2, i6 3)] ?_; intro av X
  exact r_ (i_ (h_ (ra1 X (i6 3) ⟨3, rfl, W, a.below⟩)))
 · -- no
  have m := k.2 q
  refine sqB c a [0, 0, 0] [] [(22, .bool (u0.Remote && (u0.Fast || (decide ((u0.Data.length : Int) > 0)))))] ?_; intro aw d
  refine cd d (t := u0.Remote && (u0.Fast || (decide ((u0.Data.length : Int) > 0)))) (by kernel_rfl) (fun s => ?_) (fun s => ?_)
  · -- yes
   have Y := m.1 s
   refine sqB d a [] [] [(2, i6 4)] ?_; intro ax aa
   exact r_ (i_ (h_ (ra1 aa (i6 4) ⟨4, rfl, Y, a.below⟩)))
  · -- no
   have n := m.2 s
   refine sqB d a [0, 0, 0, 0] [] [(35, .bool (((decide (u0.Size < 0)) || (decide (u0.Size > 8))) || ((!u0.Remote) && (u0.Size != 0))))] ?_; intro ay f
   refine cd f (t := ((decide (u0.Size < 0)) || (decide (u0.Size > 8))) || ((!u0.Remote) && (u0.Size != 0))) (by kernel_rfl) (fun u => ?_) (fun u => ?_)
   · -- yes
    have ab := n.1 u
    refine sqB f a [] [] [(2, i6 3)] ?_; intro az ac
    exact r_ (i_ (h_ (ra1 ac (i6 3) ⟨3, rfl, ab, a.below⟩)))
   · -- no
    have o := n.2 u
    refine sqB f a [0, 0, 0] [] [(54, .bool ((decide ((u0.Data.length : Int) > 64)) || ((!u0.Fast) && (decide ((u0.Data.length : Int) > 8)))))] ?_; intro ad g
    refine cd g (t := (decide ((u0.Data.length : Int) > 64)) || ((!u0.Fast) && (decide ((u0.Data.length : Int) > 8)))) (by kernel_rfl) (fun v => ?_) (fun v => ?_)
    · -- yes
     have ae := o.1 v
     refine sqB g a [] [] [(2, i6 2)] ?_; intro aA af
     exact r_ (i_ (h_ (ra1 af (i6 2) ⟨2, rfl, ae, a.below⟩)))
    · -- no
     have p := o.2 v
     have H : Fr 77 [] [⟨1, [], pt l 0⟩] ad := g.reg
     refine wp_seq (rgS mixed a [(1, true), (2, true), (3, true), (0, false), (4, false), (5, true), (6, true)] [] [0] [.row l (e27Mb u0 ao1 cap2) 27] ?_)
     intro ag I aB x
     have b := Fz.le.refl Z
     refine cS H 3 [0] [] [(74, i6 (u0.Data.length : Int))] ?_; intro aC J
     refine eS rfl ?_; intro ah L
     refine ck J 60 #[] ?_
     refine (fsizes_fun  _ _ x.fz).mono ?_; rintro _ M ⟨N, O, ai, rfl, hm⟩; refine ⟨_, rfl, ?_⟩; intro aD P; have Q := x.callZ hm; have y := hm.ext.le
     replace b := b.mono y
     have R : Mem w.heap.size [] w Z [.own t6 3 N O fsizes, .row l (e27Mb u0 ao1 cap2) 27] ai M := Q
     refine nl (qnI (L _ _ (R.cst b [1]) ?_))
     refine eS rfl ?_; intro aj S
     obtain ⟨ak, z, T, al⟩ := R.freeze 0 rfl
     replace b := b.mono z
     have A : Mem w.heap.size [] w Z [.row l (e27Mb u0 ao1 cap2) 27] ak M := T
     refine fc P A (scontains_fun fsizes (u0.Data.length : Int) N O _ _ al A.fz) ?_; intro aE aF U h
     refine nl (qnI (S _ _ (h.cst b [0]) ?_))
     refine cS U 2 [] [] [(70, .bool (!(scontainsS fsizes (u0.Data.length : Int))))] ?_; intro aG i
     refine nS (I _ _ ?_)
     apply t_
     refine cd i (t := !(scontainsS fsizes (u0.Data.length : Int))) (by kernel_rfl) (fun B => ?_) (fun B => ?_)
     · -- yes
      have am := p.1 B
      refine sqB i h [] [] [(2, i6 4)] ?_; intro aH an
      exact r_ (i_ (h_ (ra1 an (i6 4) ⟨4, rfl, am, h.below⟩)))
     · -- no
      have ao := p.2 B
      refine l_ (j_ (t_ (sqB i h [] [] [(2, i6 0)] ?_))); intro aI ap
      exact r_ (ra1 ap (i6 0) ⟨0, rfl, ao, h.below⟩)
def fcheckfr_fun (u0 : Frame) (ao1 : Option Addr) (cap2 : Nat) (Z : Fz) (w : World) (hs3 : SlR t8 Z ao1 cap2 u0.Data) (hZ : Z.on w) := f_ (fcheckfr_walk u0 ao1 cap2 Z w hs3 hZ (fcheckfr_ok u0))
theorem mthere_walk (u0 : Message) (u1 : Signal) (u2 : List Int) (ao1 : Option Addr) (cap2 : Nat) (ao4 : Option Addr) (cap5 : Nat) (Z : Fz) (w : World) (hs3 : SlR tySignal Z ao1 cap2 u0.Signals) (hs6 : SlR t8 Z ao4 cap5 u2) (hZ : Z.on w) {K : Bool → Prop} (hp : mthere_vc u0 u1 u2 K) : Calls Tryz.prog 23 #[.agg #[i6 u0.ID, .bool u0.Long, str u0.Name, i6 u0.Size, i6 u0.Chooser, .slice ao1 u0.Signals.length cap2], .agg #[str u1.Name, i6 u1.Start, i6 u1.Size, .bool u1.Back, .bool u1.Signed, i6 u1.Mul, i6 u1.Div, i6 u1.Add, i6 u1.Key], .slice ao4 u2.length cap5] w fun e w' => ∃ r : Bool, e = .returned (.bool r) ∧ K r ∧ Below w.heap.size w w' := by
 refine enter0 Tryz.func23 rfl rfl (by kernel_rfl) ?_; intro a0 F; have G := Mem.start w Z hZ
 have j := hp (hs3.small) (hs6.small)
 refine sqH ?_; intro aq I
 refine nw F G pb (e24Mb u0 ao1 cap2) 24 ?_; intro h aK aL J L
 refine nw J L pb (e46Mb u1) 46 ?_; intro f aM aN M l
 refine s1 M 6 (.bool false) ?_; intro A N
 apply I
 have n : Fr 23 [] [⟨2, [], .slice ao4 u2.length cap5⟩, ⟨3, [], pt h 0⟩, ⟨4, [], pt f 0⟩] A := N.reg
 rcases Bool.eq_false_or_eq_true (decide (u1.Key < 0)) with i | i
 · -- true
  have ar := j.1 i
  have O : Fr 23 [] [⟨2, [], .slice ao4 u2.length cap5⟩, ⟨3, [], pt h 0⟩, ⟨4, [], pt f 0⟩] A := n.reg
  refine sqQH mixed (by kernel_rfl) l ?_; intro au P
  refine q1 O 7 (pt f 8) ?_; intro aO B
  refine ql_ B 0 8 (i6 u1.Key) rfl rfl ?_; intro aP Q
  refine q1 Q 9 (.bool (decide (u1.Key < 0))) ?_; intro aQ R
  have S := R.reval (d := 9) (c := []) (v := .bool (decide (u1.Key < 0))) (by kernel_rfl) (.bool true) (by rw [i])
  refine q1 S 10 (.bool true) ?_; intro aR U
  refine qk_ U true ?_; intro aS V
  refine qk_ V true ?_; intro aT W
  refine qk_ W true ?_; intro aU X
  refine qk_ X true ?_; intro aV Y
  refine qk_ Y true ?_; intro aW aa
  refine qk_ aa true ?_; intro aX ab
  refine qk_ ab true ?_; intro aY ac
  refine qk_ ac true ?_; intro aZ ad
  refine qk_ ad true ?_; intro a1 ae
  refine qk_ ae true ?_; intro a2 af
  refine qk_ af true ?_; intro a3 ag
  refine q1 ag 22 (.bool true) ?_; intro a4 ah
  refine q1 ah 6 (.bool true) ?_; intro a5 av
  refine qnl (P _ ?_); intro a6 aw
  exact r_ (ra1 av (.bool true) ⟨true, rfl, ar, aw.below⟩)
 · -- false
  have ax := j.2 i
  have ai : Fr 23 [] [⟨2, [], .slice ao4 u2.length cap5⟩, ⟨3, [], pt h 0⟩, ⟨4, [], pt f 0⟩] A := n.reg
  refine sqQH mixed (by kernel_rfl) l ?_; intro ay aj
  refine q1 ai 7 (pt f 8) ?_; intro a7 C
  refine ql_ C 0 8 (i6 u1.Key) rfl rfl ?_; intro a8 ak
  refine q1 ak 9 (.bool (decide (u1.Key < 0))) ?_; intro a9 al
  have am := al.reval (d := 9) (c := []) (v := .bool (decide (u1.Key < 0))) (by kernel_rfl) (.bool false) (by rw [i])
  refine q1 am 10 (.bool false) ?_; intro ba o
  refine qg_ o false (pt h 5) ?_; intro bb p
  refine qst p (.slice ao1 u0.Signals.length cap2) (wK p false) rfl (by kernel_rfl) (fun v89 hC => ld p hC 1 (g := []) (b := h) (off := 5) (cs := (e24Mb u0 ao1 cap2)) (ty := 24) rfl (by kernel_rfl) (by kernel_rfl) (by kernel_rfl) (by kernel_rfl) rfl) ?_; intro bc q
  refine qg_ q false (pt h 4) ?_; intro bd s
  refine qst s (i6 u0.Chooser) (wK s false) rfl (by kernel_rfl) (fun v95 hC => ld s hC 1 (g := []) (b := h) (off := 4) (cs := (e24Mb u0 ao1 cap2)) (ty := 24) rfl (by kernel_rfl) (by kernel_rfl) (by kernel_rfl) (by kernel_rfl) rfl) ?_; intro be D
  obtain ⟨az, an⟩ := ax
  refine qix D (T := tySignal) (xs := u0.Signals) hs3 u0.Chooser az (k := .i64) (e := 46) (bytes := 72) (wK D false) rfl (by kernel_rfl) rfl (by kernel_rfl) (by kernel_rfl) (by kernel_rfl) ?_; intro bf bg aA a bh aB aC aD t
  have aE := an a aB
  obtain rfl : aA = ((e46Mb a) : List Value) := aD
  refine qst t (.agg (e46Mb a).toArray) (wK t false) rfl (by kernel_rfl) (fun v111 hC => lza t hC.fz aC 0 (g := []) (m := 9) (vs := (e46Mb a)) rfl (by kernel_rfl) (by kernel_rfl) (by kernel_rfl) (by kernel_rfl) rfl) ?_; intro bi u
  refine qg_ u false (.slice ao4 u2.length cap5) ?_; intro bj E
  obtain ⟨aF, aG⟩ := aE
  refine qcl E (i6 (getS a u2)) 25 #[.agg (e46Mb a).toArray, .slice ao4 u2.length cap5] (wK E false) rfl (by kernel_rfl) (fun _ => by kernel_rfl) (qfc fun w hC => sget_fun a u2 aF ao4 cap5 _ _ hs6 hC.fz) ?_; intro bk x
  refine qg_ x false (pt f 8) ?_; intro bl y
  refine qst y (i6 u1.Key) (wK y false) rfl (by kernel_rfl) (fun v125 hC => ld y hC 0 (g := []) (b := f) (off := 8) (cs := (e46Mb u1)) (ty := 46) rfl (by kernel_rfl) (by kernel_rfl) (by kernel_rfl) (by kernel_rfl) rfl) ?_; intro bm z
  refine qg_ z false (.bool ((getS a u2) == u1.Key)) ?_; intro bn ao
  refine q1 ao 22 (.bool ((getS a u2) == u1.Key)) ?_; intro bo ap
  refine q1 ap 6 (.bool ((getS a u2) == u1.Key)) ?_; intro bp aH
  refine qnl (aj _ ?_); intro bq aI
  exact r_ (ra1 aH (.bool ((getS a u2) == u1.Key)) ⟨(getS a u2) == u1.Key, rfl, aG, aI.below⟩)
end Go.Proofs.YtdndfbamhnchfaaGreatDoor
set_option linter.unusedVariables false
set_option linter.unusedSimpArgs false
set_option maxRecDepth 100000
set_option maxHeartbeats 0
namespace Go.Proofs.YtdndfbamhnchfaaGreatDoor
open Go.Sy Go.RowKit
abbrev e46Mc (X : Signal) : List Value := [str X.Name, i6 X.Start, i6 X.Size, .bool X.Back, .bool X.Signed, i6 X.Mul, i6 X.Div, i6 X.Add, i6 X.Key]
abbrev e24Mc (X : Message) (A0 : Option Addr) (C0 : Nat) : List Value := [i6 X.ID, .bool X.Long, str X.Name, i6 X.Size, i6 X.Chooser, .slice A0 X.Signals.length C0]
theorem mcheck_walk (u0 : Message) (ao1 : Option Addr) (cap2 : Nat) (Z : Fz) (w : World) (hs3 : SlR tySignal Z ao1 cap2 u0.Signals) (hZ : Z.on w) {K : Int → Prop} (hp : mcheck_vc u0 K) : Calls Tryz.prog 21 #[.agg #[i6 u0.ID, .bool u0.Long, str u0.Name, i6 u0.Size, i6 u0.Chooser, .slice ao1 u0.Signals.length cap2]] w fun e w' => ∃ r : Int, e = .returned (i6 r) ∧ K r ∧ Below w.heap.size w w' := by
 refine enter0 Tryz.func21 rfl rfl (by kernel_rfl) ?_; intro a0 b3; have b4 := Mem.start w Z hZ
 have ai := hp (hs3.small)
 refine sqH ?_; intro fv b5
 refine nw b3 b4 pb (e24Mc u0 ao1 cap2) 24 ?_; intro i a7 id b7 aj
 refine s1 b7 2 (i6 0) ?_; intro ie b8
 apply b5
 refine s_ (sqH ?_); intro fw b9
 refine bt b8 aj 2 [0] [] [(14, str u0.Name)] ?_; intro ig ca
 refine fc ca aj (sname_fun u0.Name _ _ aj.fz) ?_; intro ih ii cb L
 refine s1 cb 16 (.bool (!(nameS u0.Name))) ?_; intro ij P
 apply b9
 refine c_ P ai (fun _ fx => ?_) fun _ ak => ?_
 ·
  refine sqB P L [] [] [(2, i6 1)] ?_; intro ik fy
  exact r_ (h_ (ra1 fy (i6 1) ⟨1, rfl, fx, L.below⟩))
 refine k_ (s_ (sqH ?_)); intro fA cc
 refine bt P L 5 [0, 0] [] [(21, .agg #[i6 u0.ID, .bool u0.Long, .bool false, .bool false, i6 0, .slice none 0 0])] ?_; intro il ce
 refine fc ce L (fcheckfr_fun (⟨u0.ID, u0.Long, false, false, 0, []⟩ : Frame) none 0 _ _ (SlR.nil _ _) L.fz) ?_; intro im io cf B
 refine s1 cf 3 (i6 (fcheckfr (⟨u0.ID, u0.Long, false, false, 0, []⟩ : Frame))) ?_; intro ip cg
 apply cc
 refine sqB cg B [] [] [(24, .bool ((fcheckfr (⟨u0.ID, u0.Long, false, false, 0, []⟩ : Frame)) != 0))] ?_; intro iq Q
 refine c_ Q ak (fun _ fB => ?_) fun _ al => ?_
 ·
  refine sqB Q B [] [] [(2, i6 (fcheckfr (⟨u0.ID, u0.Long, false, false, 0, []⟩ : Frame)))] ?_; intro ir fC
  exact r_ (h_ (ra1 fC (i6 (fcheckfr (⟨u0.ID, u0.Long, false, false, 0, []⟩ : Frame))) ⟨(fcheckfr (⟨u0.ID, u0.Long, false, false, 0, []⟩ : Frame)), rfl, fB, B.below⟩))
 refine k_ (s_ (sqB Q B [0, 0] [] [(33, .bool ((decide (u0.Size < 0)) || (decide (u0.Size > 8))))] ?_)); intro it R
 refine c_ R al (fun _ fD => ?_) fun _ am => ?_
 ·
  refine sqB R B [] [] [(2, i6 3)] ?_; intro iu fE
  exact r_ (h_ (ra1 fE (i6 3) ⟨3, rfl, fD, B.below⟩))
 refine k_ (s_ (sqB R B [0] [] [(37, .bool (decide ((u0.Signals.length : Int) > 16)))] ?_)); intro iv S
 refine c_ S am (fun _ fF => ?_) fun _ fH => ?_
 ·
  refine sqB S B [] [] [(2, i6 2)] ?_; intro iw fG
  exact r_ (h_ (ra1 fG (i6 2) ⟨2, rfl, fF, B.below⟩))
 refine k_ (s_ (sqB S B [0] [] [(39, .slice ao1 u0.Signals.length cap2), (40, i6 (u0.Signals.length : Int)), (41, i6 0)] ?_)); intro ch ci
 apply b_
 have ck : Fr 152 [] [⟨1, [], pt i 0⟩, ⟨39, [], .slice ao1 u0.Signals.length cap2⟩, ⟨40, [], i6 (u0.Signals.length : Int)⟩, ⟨41, [], i6 0⟩] ch := ci.reg
 obtain ⟨fI, fJ, fK, fL⟩ := fH
 refine lp (ι := Int) (fun s => [⟨1, [], pt i 0⟩, ⟨39, [], .slice ao1 u0.Signals.length cap2⟩, ⟨40, [], i6 (u0.Signals.length : Int)⟩, ⟨41, [], i6 s⟩]) (fun s => [.row i (e24Mc u0 ao1 cap2) 24]) (fun s => Z) (fun s => fI s) (fun s => fJ s) 0 fK (by exact ck.reg) (by exact B) ?_
 rintro n fM fN fO cm cn
 have an := fL n fM
 refine sqB cm cn [] [] [(42, .bool (decide (n < (u0.Signals.length : Int))))] ?_; intro cp U
 refine s_ (c_ U an (fun _ fP => ?_) fun _ ax => ?_)
 ·
  apply k_
  have cq : Fr 152 [] [⟨1, [], pt i 0⟩, ⟨39, [], .slice ao1 u0.Signals.length cap2⟩, ⟨40, [], i6 (u0.Signals.length : Int)⟩, ⟨41, [], i6 n⟩] cp := U.reg
  obtain ⟨fQ, fR, fS⟩ := fP
  refine wp_seq_k fun KJ132 hKJ133 => ?_
  have fT : ∀ (_u : Unit), fQ → ∀ a1 w1, Fr 152 [] [⟨1, [], pt i 0⟩, ⟨39, [], .slice ao1 u0.Signals.length cap2⟩, ⟨40, [], i6 (u0.Signals.length : Int)⟩, ⟨41, [], i6 n⟩] a1 → Mem w.heap.size [] w Z [.row i (e24Mc u0 ao1 cap2) 24] Z w1 → KJ132 a1 w1 := by
   rintro _u fU iy iz cr ct
   refine hKJ133 _ _ ?_
   have cu := fS  fU
   refine rgB cr ct [] [] [(41, i6 (w64 (n + 1)))] ?_; intro iA fV
   exact d_ ⟨w64 (n + 1), cu.1, cu.2, (fV.reg).anyβ _ (by kernel_rfl), ct.kp⟩
  refine b_ (sqH ?_); intro fW cv
  refine s1 cq 43 (i6 n) ?_; intro iB cw
  obtain ⟨fX, cx⟩ := fR
  refine ix_ cw hs3 n fX .i64 46 72 ?_; intro iC iD fY a iE fZ f0 f1 cy
  have ao := cx a fZ
  obtain rfl : fY = ((e46Mc a) : List Value) := f1
  refine z2 cy cn 45 f0 0 9 (e46Mc a) rfl ?_; intro iF cz
  refine nw cz cn pb [str [], i6 0, i6 0, .bool false, .bool false, i6 0, i6 0, i6 0, i6 0] 46 ?_; intro C iG iH cA cB
  refine s1 cA 4 (i6 n) ?_; intro iI bb
  refine sx bb cB 0 (e46Mc a) 0 ?_; intro f2 cC
  have ap : Mem w.heap.size [] w Z [.row C (e46Mc a) 46, .row i (e24Mc u0 ao1 cap2) 24] Z f2 := cC
  apply cv
  refine s_ (sqH ?_); intro f3 cD
  refine bt bb ap 3 [0, 1] [] [(46, .agg (e46Mc a).toArray), (48, i6 u0.Size)] ?_; intro iJ cE
  refine fc cE ap (scheck_fun a u0.Size _ _ ap.fz) ?_; intro iK iL cF H
  refine s1 cF 6 (i6 (checkS a u0.Size)) ?_; intro iM cG
  apply cD
  refine sqB cG H [] [] [(51, .bool ((checkS a u0.Size) != 0))] ?_; intro iN V
  refine c_ V ao (fun _ f4 => ?_) fun _ f6 => ?_
  ·
   refine sqB V H [] [] [(2, i6 (checkS a u0.Size))] ?_; intro iO f5
   exact r_ (h_ (i_ (h_ (h_ (i_ (h_ (ra1 f5 (i6 (checkS a u0.Size)) ⟨(checkS a u0.Size), rfl, f4, H.below⟩)))))))
  refine k_ (sqH ?_); intro f7 cH
  refine bt V H 3 [1] [] [(54, .slice ao1 u0.Signals.length cap2), (55, i6 n)] ?_; intro iP cI
  obtain ⟨f8, f9⟩ := f6
  refine slH cI (T := tySignal) (xs := u0.Signals) hs3 n f8 (k' := .i64) (e := 46) (bytes := 72) (nog rfl _) rfl (by kernel_rfl) rfl (by kernel_rfl) (by kernel_rfl) (by kernel_rfl) ?_; intro W X iQ iR ga cJ
  refine bt cJ H 2 [] [] [(57, i6 ((u0.Signals.take n.toNat).length : Int)), (58, i6 0)] ?_; intro cK cL
  apply cH
  apply b_
  have cM : Fr 152 [] [⟨1, [], pt i 0⟩, ⟨5, [], pt C 0⟩, ⟨39, [], .slice ao1 u0.Signals.length cap2⟩, ⟨40, [], i6 (u0.Signals.length : Int)⟩, ⟨41, [], i6 n⟩, ⟨56, [], .slice W (u0.Signals.take n.toNat).length X⟩, ⟨57, [], i6 ((u0.Signals.take n.toNat).length : Int)⟩, ⟨58, [], i6 0⟩] cK := cL.reg
  obtain ⟨gb, gc, ge, gf⟩ := f9
  refine lp (ι := Int) (fun s => [⟨1, [], pt i 0⟩, ⟨5, [], pt C 0⟩, ⟨39, [], .slice ao1 u0.Signals.length cap2⟩, ⟨40, [], i6 (u0.Signals.length : Int)⟩, ⟨41, [], i6 n⟩, ⟨56, [], .slice W (u0.Signals.take n.toNat).length X⟩, ⟨57, [], i6 ((u0.Signals.take n.toNat).length : Int)⟩, ⟨58, [], i6 s⟩]) (fun s => [.row C (e46Mc a) 46, .row i (e24Mc u0 ao1 cap2) 24]) (fun s => Z) (fun s => gb s) (fun s => gc s) 0 ge (by exact cM.reg) (by exact H) ?_
  rintro G gg gh gi cO cP
  have aq := gf G gg
  refine sqB cO cP [] [] [(59, .bool (decide (G < ((u0.Signals.take n.toNat).length : Int))))] ?_; intro iS ar
  refine s_ (c_ ar aq (fun _ gj => ?_) fun _ gx => ?_)
  ·
   refine k_ (s_ (b_ (sqH ?_))); intro gk cR
   obtain ⟨gl, cS⟩ := gj
   refine ix_ ar ga G gl .i64 46 72 ?_; intro iT iU gm f iV gn go gp cT
   have au := cS f gn
   obtain rfl : gm = ((e46Mc f) : List Value) := gp
   refine z2 cT cP 61 go 0 9 (e46Mc f) rfl ?_; intro iW cU
   refine nw cU cP pb [str [], i6 0, i6 0, .bool false, .bool false, i6 0, i6 0, i6 0, i6 0] 46 ?_; intro cV iX iY be cW
   refine sx be cW 0 (e46Mc f) 0 ?_; intro gq cX
   have F : Mem w.heap.size [] w Z [.row cV (e46Mc f) 46, .row C (e46Mc a) 46, .row i (e24Mc u0 ao1 cap2) 24] Z gq := cX
   apply cR
   refine s_ (sqB be F [0, 1] [218] [(66, .bool (f.Name == a.Name))] ?_); intro iZ aa
   refine c_ aa au (fun _ gr => ?_) fun _ av => ?_
   ·
    refine sqB aa F [] [] [(2, i6 9)] ?_; intro i0 gs
    exact r_ (h_ (i_ (h_ (h_ (i_ (i_ (h_ (h_ (i_ (h_ (ra1 gs (i6 9) ⟨9, rfl, gr, F.below⟩)))))))))))
   refine k_ (sqB aa F [0, 1, 0, 1] [] [(9, .bool (((decide (f.Key ≥ 0)) && (decide (a.Key ≥ 0))) && (f.Key != a.Key)))] ?_); intro i1 cY
   refine sqH ?_; intro gt cZ
   refine s1 cY 82 (.bool (((decide (f.Key ≥ 0)) && (decide (a.Key ≥ 0))) && (f.Key != a.Key))) ?_; intro i2 c0
   refine s1 c0 83 (.bool (!(((decide (f.Key ≥ 0)) && (decide (a.Key ≥ 0))) && (f.Key != a.Key)))) ?_; intro i3 c1
   refine s1 c1 84 (.bool (!(((decide (f.Key ≥ 0)) && (decide (a.Key ≥ 0))) && (f.Key != a.Key)))) ?_; intro i4 c2
   have bg := c2.atom ((!(((decide (f.Key ≥ 0)) && (decide (a.Key ≥ 0))) && (f.Key != a.Key))) == true) (by kernel_rfl)
   refine gd bg (.agg (e46Mc f).toArray) (m := 0) (cj := []) (bj := !(((decide (f.Key ≥ 0)) && (decide (a.Key ≥ 0))) && (f.Key != a.Key))) rfl rfl (by kernel_rfl) rfl (by kernel_rfl) (by kernel_rfl) (by kernel_rfl) (fun hg => lda bg F 0 (g := [0]) (b := cV) (off := 0) (k := 9) (cs := (e46Mc f)) (vs := (e46Mc f)) (ty := 46) rfl (by kernel_rfl) (by kernel_rfl) (by kernel_rfl) (by kernel_rfl) (by kernel_rfl) hg) ?_; intro i5 bh
   refine gd bh (.agg (e46Mc a).toArray) (m := 0) (cj := []) (bj := !(((decide (f.Key ≥ 0)) && (decide (a.Key ≥ 0))) && (f.Key != a.Key))) rfl rfl (by kernel_rfl) rfl (by kernel_rfl) (by kernel_rfl) (by kernel_rfl) (fun hg => lda bh F 1 (g := [0]) (b := C) (off := 0) (k := 9) (cs := (e46Mc a)) (vs := (e46Mc a)) (ty := 46) rfl (by kernel_rfl) (by kernel_rfl) (by kernel_rfl) (by kernel_rfl) (by kernel_rfl) hg) ?_; intro i7 c3
   refine gcl c3 F (.bool (overS f a)) 59 #[.agg (e46Mc f).toArray, .agg (e46Mc a).toArray] (m := 0) (cj := []) (bj := !(((decide (f.Key ≥ 0)) && (decide (a.Key ≥ 0))) && (f.Key != a.Key))) rfl rfl (by kernel_rfl) rfl (by kernel_rfl) (by kernel_rfl) (by kernel_rfl) (fun _ => by kernel_rfl) (fun hg => sover_fun f a _ _ F.fz) ?_; intro i8 i9 bi aw
   refine u_ bi (.bool ((!(((decide (f.Key ≥ 0)) && (decide (a.Key ≥ 0))) && (f.Key != a.Key))) && (overS f a))) (pk_and bi (g := []) (m := 0) (b := !(((decide (f.Key ≥ 0)) && (decide (a.Key ≥ 0))) && (f.Key != a.Key))) (v := (overS f a)) rfl (by kernel_rfl) (by kernel_rfl) (by kernel_rfl) rfl) ?_; intro c4 ab
   apply cZ
   refine c_ ab av (fun _ gu => ?_) fun _ c6 => ?_
   ·
    have c5 : Fr 152 [] [] c4 := ab.reg
    refine sqB c5 aw [] [] [(2, i6 10)] ?_; intro ja gv
    exact r_ (i_ (h_ (h_ (i_ (i_ (h_ (h_ (i_ (h_ (ra1 gv (i6 10) ⟨10, rfl, gu, aw.below⟩))))))))))
   refine l_ (j_ (t_ ?_))
   have c7 : Fr 152 [] [⟨1, [], pt i 0⟩, ⟨5, [], pt C 0⟩, ⟨39, [], .slice ao1 u0.Signals.length cap2⟩, ⟨40, [], i6 (u0.Signals.length : Int)⟩, ⟨41, [], i6 n⟩, ⟨56, [], .slice W (u0.Signals.take n.toNat).length X⟩, ⟨57, [], i6 ((u0.Signals.take n.toNat).length : Int)⟩, ⟨58, [], i6 G⟩] c4 := ab.reg
   refine rgB c7 aw [] [] [(58, i6 (w64 (G + 1)))] ?_; intro jb gw
   exact d_ ⟨w64 (G + 1), c6.1, c6.2, (gw.reg).anyβ _ (by kernel_rfl), aw.kp⟩
  exact x_ (y_ (y_ (z_ (j_ (d_ (fT () gx _ _ ((ar.reg).anyβ _ (by kernel_rfl)) (cP.kp)))))))
 refine x_ (y_ (y_ (z_ (t_ (s_ (sqB U cn [0, 0, 0] [] [(101, .bool ((decide (u0.Chooser < (-1))) || (decide (u0.Chooser ≥ (u0.Signals.length : Int)))))] ?_)))))); intro jc ac
 refine c_ ac ax (fun _ gy => ?_) fun _ ay => ?_
 ·
  refine sqB ac cn [] [] [(2, i6 8)] ?_; intro jd gz
  exact r_ (h_ (ra1 gz (i6 8) ⟨8, rfl, gy, cn.below⟩))
 refine k_ (s_ (sqB ac cn [0] [] [(104, .bool (decide (u0.Chooser ≥ 0)))] ?_)); intro je ad
 refine c_ ad ay (fun _ gA => ?_) fun _ ht => ?_
 ·
  refine sqH ?_; intro gB c8
  refine bt ad cn 4 [0, 0] [] [(106, .slice ao1 u0.Signals.length cap2), (108, i6 u0.Chooser)] ?_; intro jf c9
  obtain ⟨gC, da⟩ := gA
  refine ix_ c9 hs3 u0.Chooser gC .i64 46 72 ?_; intro jg jh gD h ji gE gF gG db
  have az := da h gE
  obtain rfl : gD = ((e46Mc h) : List Value) := gG
  refine z2 db cn 110 gF 0 9 (e46Mc h) rfl ?_; intro jj dc
  refine nw dc cn pb [str [], i6 0, i6 0, .bool false, .bool false, i6 0, i6 0, i6 0, i6 0] 46 ?_; intro ae jk jl bn dd
  refine sx bn dd 0 (e46Mc h) 0 ?_; intro gH de
  have M : Mem w.heap.size [] w Z [.row ae (e46Mc h) 46, .row i (e24Mc u0 ao1 cap2) 24] Z gH := de
  apply c8
  refine sqB bn M [0, 0, 0] [] [(122, .bool ((h.Signed || (decide (h.Key ≥ 0))) || (decide (h.Size > 8))))] ?_; intro jm af
  refine c_ af az (fun _ gI => ?_) fun _ gK => ?_
  ·
   refine sqB af M [] [] [(2, i6 4)] ?_; intro jn gJ
   exact r_ (h_ (ra1 gJ (i6 4) ⟨4, rfl, gI, M.below⟩))
  refine k_ (s_ (sqB af M [1] [] [(124, .slice ao1 u0.Signals.length cap2), (125, i6 (u0.Signals.length : Int)), (126, i6 0)] ?_)); intro df dg
  apply b_
  have dh : Fr 152 [] [⟨1, [], pt i 0⟩, ⟨124, [], .slice ao1 u0.Signals.length cap2⟩, ⟨125, [], i6 (u0.Signals.length : Int)⟩, ⟨126, [], i6 0⟩] df := dg.reg
  obtain ⟨gL, gM, gN, gO⟩ := gK
  refine lp (ι := Int) (fun s => [⟨1, [], pt i 0⟩, ⟨124, [], .slice ao1 u0.Signals.length cap2⟩, ⟨125, [], i6 (u0.Signals.length : Int)⟩, ⟨126, [], i6 s⟩]) (fun s => [.row ae (e46Mc h) 46, .row i (e24Mc u0 ao1 cap2) 24]) (fun s => Z) (fun s => gL s) (fun s => gM s) 0 gN (by exact dh.reg) (by exact M) ?_
  rintro q gP gQ gR dj dk
  have aA := gO q gP
  refine sqB dj dk [] [] [(127, .bool (decide (q < (u0.Signals.length : Int))))] ?_; intro dm ag
  refine s_ (c_ ag aA (fun _ gS => ?_) fun _ hr => ?_)
  ·
   apply k_
   have dn : Fr 152 [] [⟨1, [], pt i 0⟩, ⟨124, [], .slice ao1 u0.Signals.length cap2⟩, ⟨125, [], i6 (u0.Signals.length : Int)⟩, ⟨126, [], i6 q⟩] dm := ag.reg
   obtain ⟨gT, gU, gV⟩ := gS
   refine wp_seq_k fun KJ481 hKJ482 => ?_
   have dp : ∀ (_u : Unit), gT → ∀ a1 w1, Fr 152 [] [⟨1, [], pt i 0⟩, ⟨124, [], .slice ao1 u0.Signals.length cap2⟩, ⟨125, [], i6 (u0.Signals.length : Int)⟩, ⟨126, [], i6 q⟩] a1 → Mem w.heap.size [] w Z [.row ae (e46Mc h) 46, .row i (e24Mc u0 ao1 cap2) 24] Z w1 → KJ481 a1 w1 := by
    rintro _u gW jo jp dq dr
    refine hKJ482 _ _ ?_
    have ds := gV  gW
    refine rgB dq dr [] [] [(126, i6 (w64 (q + 1)))] ?_; intro jq gX
    exact d_ ⟨w64 (q + 1), ds.1, ds.2, (gX.reg).anyβ _ (by kernel_rfl), dr.kp⟩
   refine b_ (sqH ?_); intro gY dt
   obtain ⟨gZ, du⟩ := gU
   refine ix_ dn hs3 q gZ .i64 46 72 ?_; intro jr js g0 j jt g1 g2 g3 dv
   have aB := du j g1
   obtain rfl : g0 = ((e46Mc j) : List Value) := g3
   refine z2 dv dk 129 g2 0 9 (e46Mc j) rfl ?_; intro ju dw
   refine nw dw dk pb [str [], i6 0, i6 0, .bool false, .bool false, i6 0, i6 0, i6 0, i6 0] 46 ?_; intro D g4 jv br dx
   refine sx br dx 0 (e46Mc j) 0 ?_; intro g5 dy
   have aC : Mem w.heap.size [] w Z [.row D (e46Mc j) 46, .row ae (e46Mc h) 46, .row i (e24Mc u0 ao1 cap2) 24] Z g5 := dy
   apply dt
   have dz : Fr 152 [] [⟨1, [], pt i 0⟩, ⟨12, [], pt D 0⟩, ⟨124, [], .slice ao1 u0.Signals.length cap2⟩, ⟨125, [], i6 (u0.Signals.length : Int)⟩, ⟨126, [], i6 q⟩] g4 := br.reg
   refine sqQH mixed (by kernel_rfl) aC ?_; intro bs N
   refine q1 dz 130 (pt D 8) ?_; intro jw bu
   refine ql_ bu 0 8 (i6 j.Key) rfl rfl ?_; intro jx dA
   refine q1 dA 132 (.bool (decide (j.Key ≥ 0))) ?_; intro jy dB
   refine q1 dB 133 (.bool (decide (j.Key ≥ 0))) ?_; intro jz dC
   have bv := dC.atom ((decide (j.Key ≥ 0)) == true) (by kernel_rfl)
   refine qgd bv (pt i 4) (m := 0) (cj := []) (bj := decide (j.Key ≥ 0)) rfl rfl (by kernel_rfl) rfl (by kernel_rfl) (by kernel_rfl) (by kernel_rfl) (fun hg => qat_ok (fun v533 hC => pu bv (g := [0]) (by kernel_rfl) hg)) ?_; intro jA bw
   refine qgd bw (i6 u0.Chooser) (m := 0) (cj := []) (bj := decide (j.Key ≥ 0)) rfl rfl (by kernel_rfl) rfl (by kernel_rfl) (by kernel_rfl) (by kernel_rfl) (fun hg => qat_ok (fun v536 hC => ld bw hC 2 (g := [0]) (b := i) (off := 4) (cs := (e24Mc u0 ao1 cap2)) (ty := 24) rfl (by kernel_rfl) (by kernel_rfl) (by kernel_rfl) (by kernel_rfl) hg)) ?_; intro jB bx
   refine qgd bx (.bool (decide (u0.Chooser < 0))) (m := 0) (cj := []) (bj := decide (j.Key ≥ 0)) rfl rfl (by kernel_rfl) rfl (by kernel_rfl) (by kernel_rfl) (by kernel_rfl) (fun hg => qat_ok (fun v539 hC => pu bx (g := [0]) (by kernel_rfl) hg)) ?_; intro jC bz
   refine qgd bz (.bool (decide (u0.Chooser < 0))) (m := 0) (cj := []) (bj := decide (j.Key ≥ 0)) rfl rfl (by kernel_rfl) rfl (by kernel_rfl) (by kernel_rfl) (by kernel_rfl) (fun hg => qat_ok (fun v542 hC => pu bz (g := [0]) (by kernel_rfl) hg)) ?_; intro jD dD
   have bA := dD.atom ((decide (u0.Chooser < 0)) == false) (by kernel_rfl)
   refine qgd bA (pt D 8) (m := 1) (cj := [0]) (bj := decide (u0.Chooser < 0)) rfl rfl (by kernel_rfl) rfl (by kernel_rfl) (by kernel_rfl) (by kernel_rfl) (fun hg => qat_ok (fun v546 hC => pu bA (g := [1, 0]) (by kernel_rfl) hg)) ?_; intro jE bB
   refine qgd bB (i6 j.Key) (m := 1) (cj := [0]) (bj := decide (u0.Chooser < 0)) rfl rfl (by kernel_rfl) rfl (by kernel_rfl) (by kernel_rfl) (by kernel_rfl) (fun hg => qat_ok (fun v549 hC => ld bB hC 0 (g := [1, 0]) (b := D) (off := 8) (cs := (e46Mc j)) (ty := 46) rfl (by kernel_rfl) (by kernel_rfl) (by kernel_rfl) (by kernel_rfl) hg)) ?_; intro jF bC
   refine qgd bC (pt i 5) (m := 1) (cj := [0]) (bj := decide (u0.Chooser < 0)) rfl rfl (by kernel_rfl) rfl (by kernel_rfl) (by kernel_rfl) (by kernel_rfl) (fun hg => qat_ok (fun v552 hC => pu bC (g := [1, 0]) (by kernel_rfl) hg)) ?_; intro jG bD
   refine qgd bD (.slice ao1 u0.Signals.length cap2) (m := 1) (cj := [0]) (bj := decide (u0.Chooser < 0)) rfl rfl (by kernel_rfl) rfl (by kernel_rfl) (by kernel_rfl) (by kernel_rfl) (fun hg => qat_ok (fun v555 hC => ld bD hC 2 (g := [1, 0]) (b := i) (off := 5) (cs := (e24Mc u0 ao1 cap2)) (ty := 24) rfl (by kernel_rfl) (by kernel_rfl) (by kernel_rfl) (by kernel_rfl) hg)) ?_; intro jH bE
   refine qgd bE (pt i 4) (m := 1) (cj := [0]) (bj := decide (u0.Chooser < 0)) rfl rfl (by kernel_rfl) rfl (by kernel_rfl) (by kernel_rfl) (by kernel_rfl) (fun hg => qat_ok (fun v558 hC => pu bE (g := [1, 0]) (by kernel_rfl) hg)) ?_; intro jI bF
   refine qgd bF (i6 u0.Chooser) (m := 1) (cj := [0]) (bj := decide (u0.Chooser < 0)) rfl rfl (by kernel_rfl) rfl (by kernel_rfl) (by kernel_rfl) (by kernel_rfl) (fun hg => qat_ok (fun v561 hC => ld bF hC 2 (g := [1, 0]) (b := i) (off := 4) (cs := (e24Mc u0 ao1 cap2)) (ty := 24) rfl (by kernel_rfl) (by kernel_rfl) (by kernel_rfl) (by kernel_rfl) hg)) ?_; intro jJ aD
   refine e_ aB (fun o aE => ?_) fun o ho => ?_
   ·
    have dE := aD.reval (d := 133) (c := []) (v := .bool (decide (j.Key ≥ 0))) (by kernel_rfl) (.bool true) (by rw [o])
    have dF := dE.setc (d := 134) (c := [0]) (v := pt i 4) (by kernel_rfl) (v' := pt i 4) (by rw [o]; kernel_rfl)
    have dG := dF.setc (d := 135) (c := [0]) (v := i6 u0.Chooser) (by kernel_rfl) (v' := i6 u0.Chooser) (by rw [o]; kernel_rfl)
    have dH := dG.setc (d := 136) (c := [0]) (v := .bool (decide (u0.Chooser < 0))) (by kernel_rfl) (v' := .bool (decide (u0.Chooser < 0))) (by rw [o]; kernel_rfl)
    have aF := dH.setc (d := 137) (c := [0]) (v := .bool (decide (u0.Chooser < 0))) (by kernel_rfl) (v' := .bool (decide (u0.Chooser < 0))) (by rw [o]; kernel_rfl)
    refine e_ aE (fun u g6 => ?_) fun u g9 => ?_
    ·
     have dI := aF.reval (d := 137) (c := []) (v := .bool (decide (u0.Chooser < 0))) (by kernel_rfl) (.bool true) (by rw [u])
     have dJ := dI.setc (d := 138) (c := [1, 0]) (v := pt D 8) (by kernel_rfl) (v' := undef) (by rw [u, o]; kernel_rfl)
     have dK := dJ.setc (d := 139) (c := [1, 0]) (v := i6 j.Key) (by kernel_rfl) (v' := undef) (by rw [u, o]; kernel_rfl)
     have dL := dK.setc (d := 140) (c := [1, 0]) (v := pt i 5) (by kernel_rfl) (v' := undef) (by rw [u, o]; kernel_rfl)
     have dM := dL.setc (d := 141) (c := [1, 0]) (v := .slice ao1 u0.Signals.length cap2) (by kernel_rfl) (v' := undef) (by rw [u, o]; kernel_rfl)
     have dN := dM.setc (d := 142) (c := [1, 0]) (v := pt i 4) (by kernel_rfl) (v' := undef) (by rw [u, o]; kernel_rfl)
     have dO := dN.setc (d := 143) (c := [1, 0]) (v := i6 u0.Chooser) (by kernel_rfl) (v' := undef) (by rw [u, o]; kernel_rfl)
     refine qk_ dO true ?_; intro jK dP
     refine qk_ dP true ?_; intro jL dQ
     refine qk_ dQ true ?_; intro jM dR
     refine qk_ dR true ?_; intro jN dS
     refine qk_ dS true ?_; intro jO aG
     refine qg_ aG true (.bool true) ?_; intro jP dT
     refine q1 dT 150 (.bool true) ?_; intro g7 bG
     refine qnl (N _ ?_); intro jQ dU
     refine cdT bG (by kernel_rfl) ?_
     have dV : Fr 152 [] [] g7 := bG.reg
     refine sqB dV dU [] [] [(2, i6 4)] ?_; intro jR g8
     exact r_ (i_ (h_ (h_ (i_ (h_ (ra1 g8 (i6 4) ⟨4, rfl, g6, dU.below⟩))))))
    have dW := aF.reval (d := 137) (c := []) (v := .bool (decide (u0.Chooser < 0))) (by kernel_rfl) (.bool false) (by rw [u])
    have dX := dW.setc (d := 138) (c := [1, 0]) (v := pt D 8) (by kernel_rfl) (v' := pt D 8) (by rw [u, o]; kernel_rfl)
    have dY := dX.setc (d := 139) (c := [1, 0]) (v := i6 j.Key) (by kernel_rfl) (v' := i6 j.Key) (by rw [u, o]; kernel_rfl)
    have dZ := dY.setc (d := 140) (c := [1, 0]) (v := pt i 5) (by kernel_rfl) (v' := pt i 5) (by rw [u, o]; kernel_rfl)
    have d0 := dZ.setc (d := 141) (c := [1, 0]) (v := .slice ao1 u0.Signals.length cap2) (by kernel_rfl) (v' := .slice ao1 u0.Signals.length cap2) (by rw [u, o]; kernel_rfl)
    have d1 := d0.setc (d := 142) (c := [1, 0]) (v := pt i 4) (by kernel_rfl) (v' := pt i 4) (by rw [u, o]; kernel_rfl)
    have bH := d1.setc (d := 143) (c := [1, 0]) (v := i6 u0.Chooser) (by kernel_rfl) (v' := i6 u0.Chooser) (by rw [u, o]; kernel_rfl)
    obtain ⟨ha, d2⟩ := g9
    refine qix bH (T := tySignal) (xs := u0.Signals) hs3 u0.Chooser ha (k := .i64) (e := 46) (bytes := 72) (wK bH false) rfl (by kernel_rfl) rfl (by kernel_rfl) (by kernel_rfl) (by kernel_rfl) ?_; intro hb hc hd z jS he hf hh aH
    have hi := d2 z he
    obtain rfl : hd = ((e46Mc z) : List Value) := hh
    refine qg_ aH false (.pointer (some ⟨hb, hc + 2, none⟩)) ?_; intro jT aI
    refine qst aI (i6 z.Size) (wK aI false) rfl (by kernel_rfl) (fun v626 hC => lz aI hC.fz hf 2 (g := []) rfl (by kernel_rfl) (by kernel_rfl) (by kernel_rfl) rfl) ?_; intro jU aJ
    obtain ⟨hj, aK⟩ := hi
    refine qst aJ (i6 (bShr .i64 j.Key z.Size)) (wK aJ false) rfl (by kernel_rfl) (fun v629 hC => shr_run aJ (g := []) (k' := .i64) rfl (by kernel_rfl) (by kernel_rfl) hj rfl) ?_; intro jV aL
    refine qg_ aL false (.bool ((bShr .i64 j.Key z.Size) != 0)) ?_; intro jW aM
    refine qg_ aM true (.bool ((bShr .i64 j.Key z.Size) != 0)) ?_; intro jX d3
    refine q1 d3 150 (.bool ((bShr .i64 j.Key z.Size) != 0)) ?_; intro hk aN
    refine qnl (N _ ?_); intro jY bI
    refine c_ aN aK (fun _ hl => ?_) fun _ hn => ?_
    ·
     have d4 : Fr 152 [] [] hk := aN.reg
     refine sqB d4 bI [] [] [(2, i6 4)] ?_; intro jZ hm
     exact r_ (i_ (h_ (h_ (i_ (h_ (ra1 hm (i6 4) ⟨4, rfl, hl, bI.below⟩))))))
    exact l_ (j_ (d_ (dp () hn _ _ ((aN.reg).anyβ _ (by kernel_rfl)) (bI.kp))))
   have d5 := aD.reval (d := 133) (c := []) (v := .bool (decide (j.Key ≥ 0))) (by kernel_rfl) (.bool false) (by rw [o])
   have d6 := d5.setc (d := 134) (c := [0]) (v := pt i 4) (by kernel_rfl) (v' := undef) (by rw [o]; kernel_rfl)
   have d7 := d6.setc (d := 135) (c := [0]) (v := i6 u0.Chooser) (by kernel_rfl) (v' := undef) (by rw [o]; kernel_rfl)
   have d8 := d7.setc (d := 136) (c := [0]) (v := .bool (decide (u0.Chooser < 0))) (by kernel_rfl) (v' := undef) (by rw [o]; kernel_rfl)
   have d9 := d8.setc (d := 137) (c := [0]) (v := .bool (decide (u0.Chooser < 0))) (by kernel_rfl) (v' := undef) (by rw [o]; kernel_rfl)
   have ea := d9.setu (d := 138) (c := [1, 0]) (v := pt D 8) (by kernel_rfl) 0 (by kernel_rfl) (by rw [o]; kernel_rfl)
   have eb := ea.setu (d := 139) (c := [1, 0]) (v := i6 j.Key) (by kernel_rfl) 0 (by kernel_rfl) (by rw [o]; kernel_rfl)
   have ec := eb.setu (d := 140) (c := [1, 0]) (v := pt i 5) (by kernel_rfl) 0 (by kernel_rfl) (by rw [o]; kernel_rfl)
   have ed := ec.setu (d := 141) (c := [1, 0]) (v := .slice ao1 u0.Signals.length cap2) (by kernel_rfl) 0 (by kernel_rfl) (by rw [o]; kernel_rfl)
   have ee := ed.setu (d := 142) (c := [1, 0]) (v := pt i 4) (by kernel_rfl) 0 (by kernel_rfl) (by rw [o]; kernel_rfl)
   have ef := ee.setu (d := 143) (c := [1, 0]) (v := i6 u0.Chooser) (by kernel_rfl) 0 (by kernel_rfl) (by rw [o]; kernel_rfl)
   refine qsku ef rfl rfl (by kernel_rfl) (by kernel_rfl) rfl (by kernel_rfl) ?_; intro j0 eg
   refine qsku eg rfl rfl (by kernel_rfl) (by kernel_rfl) rfl (by kernel_rfl) ?_; intro j1 eh
   refine qsku eh rfl rfl (by kernel_rfl) (by kernel_rfl) rfl (by kernel_rfl) ?_; intro j2 ei
   refine qsku ei rfl rfl (by kernel_rfl) (by kernel_rfl) rfl (by kernel_rfl) ?_; intro j3 ej
   refine qsku ej rfl rfl (by kernel_rfl) (by kernel_rfl) rfl (by kernel_rfl) ?_; intro j4 ek
   refine qk_ ek false ?_; intro j5 el
   refine q1 el 150 (.bool false) ?_; intro j6 em
   refine qnl (N _ ?_); intro j7 hq
   refine cdF em (by kernel_rfl) ?_
   exact l_ (j_ (d_ (dp () ho _ _ ((em.reg).anyβ _ (by kernel_rfl)) (hq.kp))))
  refine x_ (y_ (y_ (z_ (t_ (sqB ag dk [] [] [(2, i6 0)] ?_))))); intro j8 hs
  exact r_ (ra1 hs (i6 0) ⟨0, rfl, hr, dk.below⟩)
 refine k_ (s_ (sqB ad cn [0] [] [(124, .slice ao1 u0.Signals.length cap2), (125, i6 (u0.Signals.length : Int)), (126, i6 0)] ?_)); intro en eo
 apply b_
 have ep : Fr 152 [] [⟨1, [], pt i 0⟩, ⟨124, [], .slice ao1 u0.Signals.length cap2⟩, ⟨125, [], i6 (u0.Signals.length : Int)⟩, ⟨126, [], i6 0⟩] en := eo.reg
 obtain ⟨hu, hv, hw, hx⟩ := ht
 refine lp (ι := Int) (fun s => [⟨1, [], pt i 0⟩, ⟨124, [], .slice ao1 u0.Signals.length cap2⟩, ⟨125, [], i6 (u0.Signals.length : Int)⟩, ⟨126, [], i6 s⟩]) (fun s => [.row i (e24Mc u0 ao1 cap2) 24]) (fun s => Z) (fun s => hu s) (fun s => hv s) 0 hw (by exact ep.reg) (by exact cn) ?_
 rintro q hy hz hA er es
 have aO := hx q hy
 refine sqB er es [] [] [(127, .bool (decide (q < (u0.Signals.length : Int))))] ?_; intro eu ah
 refine s_ (c_ ah aO (fun _ hB => ?_) fun _ ia => ?_)
 ·
  apply k_
  have ev : Fr 152 [] [⟨1, [], pt i 0⟩, ⟨124, [], .slice ao1 u0.Signals.length cap2⟩, ⟨125, [], i6 (u0.Signals.length : Int)⟩, ⟨126, [], i6 q⟩] eu := ah.reg
  obtain ⟨hD, hE, hF⟩ := hB
  refine wp_seq_k fun KJ719 hKJ720 => ?_
  have ew : ∀ (_u : Unit), hD → ∀ a1 w1, Fr 152 [] [⟨1, [], pt i 0⟩, ⟨124, [], .slice ao1 u0.Signals.length cap2⟩, ⟨125, [], i6 (u0.Signals.length : Int)⟩, ⟨126, [], i6 q⟩] a1 → Mem w.heap.size [] w Z [.row i (e24Mc u0 ao1 cap2) 24] Z w1 → KJ719 a1 w1 := by
   rintro _u hG j9 ka ex ey
   refine hKJ720 _ _ ?_
   have ez := hF  hG
   refine rgB ex ey [] [] [(126, i6 (w64 (q + 1)))] ?_; intro kb hH
   exact d_ ⟨w64 (q + 1), ez.1, ez.2, (hH.reg).anyβ _ (by kernel_rfl), ey.kp⟩
  refine b_ (sqH ?_); intro hI eA
  obtain ⟨hJ, eB⟩ := hE
  refine ix_ ev hs3 q hJ .i64 46 72 ?_; intro kc kd hK l ke hL hM hN eC
  have aP := eB l hL
  obtain rfl : hK = ((e46Mc l) : List Value) := hN
  refine z2 eC es 129 hM 0 9 (e46Mc l) rfl ?_; intro kf eD
  refine nw eD es pb [str [], i6 0, i6 0, .bool false, .bool false, i6 0, i6 0, i6 0, i6 0] 46 ?_; intro E hO kg bM eE
  refine sx bM eE 0 (e46Mc l) 0 ?_; intro hP eF
  have aQ : Mem w.heap.size [] w Z [.row E (e46Mc l) 46, .row i (e24Mc u0 ao1 cap2) 24] Z hP := eF
  apply eA
  have eG : Fr 152 [] [⟨1, [], pt i 0⟩, ⟨12, [], pt E 0⟩, ⟨124, [], .slice ao1 u0.Signals.length cap2⟩, ⟨125, [], i6 (u0.Signals.length : Int)⟩, ⟨126, [], i6 q⟩] hO := bM.reg
  refine sqQH mixed (by kernel_rfl) aQ ?_; intro bN O
  refine q1 eG 130 (pt E 8) ?_; intro kh bO
  refine ql_ bO 0 8 (i6 l.Key) rfl rfl ?_; intro ki eH
  refine q1 eH 132 (.bool (decide (l.Key ≥ 0))) ?_; intro kj eI
  refine q1 eI 133 (.bool (decide (l.Key ≥ 0))) ?_; intro kk eJ
  have bP := eJ.atom ((decide (l.Key ≥ 0)) == true) (by kernel_rfl)
  refine qgd bP (pt i 4) (m := 0) (cj := []) (bj := decide (l.Key ≥ 0)) rfl rfl (by kernel_rfl) rfl (by kernel_rfl) (by kernel_rfl) (by kernel_rfl) (fun hg => qat_ok (fun v771 hC => pu bP (g := [0]) (by kernel_rfl) hg)) ?_; intro kl bQ
  refine qgd bQ (i6 u0.Chooser) (m := 0) (cj := []) (bj := decide (l.Key ≥ 0)) rfl rfl (by kernel_rfl) rfl (by kernel_rfl) (by kernel_rfl) (by kernel_rfl) (fun hg => qat_ok (fun v774 hC => ld bQ hC 1 (g := [0]) (b := i) (off := 4) (cs := (e24Mc u0 ao1 cap2)) (ty := 24) rfl (by kernel_rfl) (by kernel_rfl) (by kernel_rfl) (by kernel_rfl) hg)) ?_; intro km bR
  refine qgd bR (.bool (decide (u0.Chooser < 0))) (m := 0) (cj := []) (bj := decide (l.Key ≥ 0)) rfl rfl (by kernel_rfl) rfl (by kernel_rfl) (by kernel_rfl) (by kernel_rfl) (fun hg => qat_ok (fun v777 hC => pu bR (g := [0]) (by kernel_rfl) hg)) ?_; intro kn bS
  refine qgd bS (.bool (decide (u0.Chooser < 0))) (m := 0) (cj := []) (bj := decide (l.Key ≥ 0)) rfl rfl (by kernel_rfl) rfl (by kernel_rfl) (by kernel_rfl) (by kernel_rfl) (fun hg => qat_ok (fun v780 hC => pu bS (g := [0]) (by kernel_rfl) hg)) ?_; intro ko eK
  have bT := eK.atom ((decide (u0.Chooser < 0)) == false) (by kernel_rfl)
  refine qgd bT (pt E 8) (m := 1) (cj := [0]) (bj := decide (u0.Chooser < 0)) rfl rfl (by kernel_rfl) rfl (by kernel_rfl) (by kernel_rfl) (by kernel_rfl) (fun hg => qat_ok (fun v784 hC => pu bT (g := [1, 0]) (by kernel_rfl) hg)) ?_; intro kp bU
  refine qgd bU (i6 l.Key) (m := 1) (cj := [0]) (bj := decide (u0.Chooser < 0)) rfl rfl (by kernel_rfl) rfl (by kernel_rfl) (by kernel_rfl) (by kernel_rfl) (fun hg => qat_ok (fun v787 hC => ld bU hC 0 (g := [1, 0]) (b := E) (off := 8) (cs := (e46Mc l)) (ty := 46) rfl (by kernel_rfl) (by kernel_rfl) (by kernel_rfl) (by kernel_rfl) hg)) ?_; intro kq bV
  refine qgd bV (pt i 5) (m := 1) (cj := [0]) (bj := decide (u0.Chooser < 0)) rfl rfl (by kernel_rfl) rfl (by kernel_rfl) (by kernel_rfl) (by kernel_rfl) (fun hg => qat_ok (fun v790 hC => pu bV (g := [1, 0]) (by kernel_rfl) hg)) ?_; intro kr bW
  refine qgd bW (.slice ao1 u0.Signals.length cap2) (m := 1) (cj := [0]) (bj := decide (u0.Chooser < 0)) rfl rfl (by kernel_rfl) rfl (by kernel_rfl) (by kernel_rfl) (by kernel_rfl) (fun hg => qat_ok (fun v793 hC => ld bW hC 1 (g := [1, 0]) (b := i) (off := 5) (cs := (e24Mc u0 ao1 cap2)) (ty := 24) rfl (by kernel_rfl) (by kernel_rfl) (by kernel_rfl) (by kernel_rfl) hg)) ?_; intro ks bX
  refine qgd bX (pt i 4) (m := 1) (cj := [0]) (bj := decide (u0.Chooser < 0)) rfl rfl (by kernel_rfl) rfl (by kernel_rfl) (by kernel_rfl) (by kernel_rfl) (fun hg => qat_ok (fun v796 hC => pu bX (g := [1, 0]) (by kernel_rfl) hg)) ?_; intro kt bY
  refine qgd bY (i6 u0.Chooser) (m := 1) (cj := [0]) (bj := decide (u0.Chooser < 0)) rfl rfl (by kernel_rfl) rfl (by kernel_rfl) (by kernel_rfl) (by kernel_rfl) (fun hg => qat_ok (fun v799 hC => ld bY hC 1 (g := [1, 0]) (b := i) (off := 4) (cs := (e24Mc u0 ao1 cap2)) (ty := 24) rfl (by kernel_rfl) (by kernel_rfl) (by kernel_rfl) (by kernel_rfl) hg)) ?_; intro ku aR
  refine e_ aP (fun p aS => ?_) fun p h8 => ?_
  ·
   have eL := aR.reval (d := 133) (c := []) (v := .bool (decide (l.Key ≥ 0))) (by kernel_rfl) (.bool true) (by rw [p])
   have eM := eL.setc (d := 134) (c := [0]) (v := pt i 4) (by kernel_rfl) (v' := pt i 4) (by rw [p]; kernel_rfl)
   have eN := eM.setc (d := 135) (c := [0]) (v := i6 u0.Chooser) (by kernel_rfl) (v' := i6 u0.Chooser) (by rw [p]; kernel_rfl)
   have eO := eN.setc (d := 136) (c := [0]) (v := .bool (decide (u0.Chooser < 0))) (by kernel_rfl) (v' := .bool (decide (u0.Chooser < 0))) (by rw [p]; kernel_rfl)
   have aT := eO.setc (d := 137) (c := [0]) (v := .bool (decide (u0.Chooser < 0))) (by kernel_rfl) (v' := .bool (decide (u0.Chooser < 0))) (by rw [p]; kernel_rfl)
   refine e_ aS (fun x hQ => ?_) fun x hT => ?_
   ·
    have eP := aT.reval (d := 137) (c := []) (v := .bool (decide (u0.Chooser < 0))) (by kernel_rfl) (.bool true) (by rw [x])
    have eQ := eP.setc (d := 138) (c := [1, 0]) (v := pt E 8) (by kernel_rfl) (v' := undef) (by rw [x, p]; kernel_rfl)
    have eR := eQ.setc (d := 139) (c := [1, 0]) (v := i6 l.Key) (by kernel_rfl) (v' := undef) (by rw [x, p]; kernel_rfl)
    have eS := eR.setc (d := 140) (c := [1, 0]) (v := pt i 5) (by kernel_rfl) (v' := undef) (by rw [x, p]; kernel_rfl)
    have eT := eS.setc (d := 141) (c := [1, 0]) (v := .slice ao1 u0.Signals.length cap2) (by kernel_rfl) (v' := undef) (by rw [x, p]; kernel_rfl)
    have eU := eT.setc (d := 142) (c := [1, 0]) (v := pt i 4) (by kernel_rfl) (v' := undef) (by rw [x, p]; kernel_rfl)
    have eV := eU.setc (d := 143) (c := [1, 0]) (v := i6 u0.Chooser) (by kernel_rfl) (v' := undef) (by rw [x, p]; kernel_rfl)
    refine qk_ eV true ?_; intro kv eW
    refine qk_ eW true ?_; intro kw eX
    refine qk_ eX true ?_; intro kx eY
    refine qk_ eY true ?_; intro ky eZ
    refine qk_ eZ true ?_; intro kz aU
    refine qg_ aU true (.bool true) ?_; intro kA e0
    refine q1 e0 150 (.bool true) ?_; intro hR bZ
    refine qnl (O _ ?_); intro kB e1
    refine cdT bZ (by kernel_rfl) ?_
    have e2 : Fr 152 [] [] hR := bZ.reg
    refine sqB e2 e1 [] [] [(2, i6 4)] ?_; intro kC hS
    exact r_ (i_ (h_ (h_ (i_ (h_ (ra1 hS (i6 4) ⟨4, rfl, hQ, e1.below⟩))))))
   have e3 := aT.reval (d := 137) (c := []) (v := .bool (decide (u0.Chooser < 0))) (by kernel_rfl) (.bool false) (by rw [x])
   have e4 := e3.setc (d := 138) (c := [1, 0]) (v := pt E 8) (by kernel_rfl) (v' := pt E 8) (by rw [x, p]; kernel_rfl)
   have e5 := e4.setc (d := 139) (c := [1, 0]) (v := i6 l.Key) (by kernel_rfl) (v' := i6 l.Key) (by rw [x, p]; kernel_rfl)
   have e6 := e5.setc (d := 140) (c := [1, 0]) (v := pt i 5) (by kernel_rfl) (v' := pt i 5) (by rw [x, p]; kernel_rfl)
   have e7 := e6.setc (d := 141) (c := [1, 0]) (v := .slice ao1 u0.Signals.length cap2) (by kernel_rfl) (v' := .slice ao1 u0.Signals.length cap2) (by rw [x, p]; kernel_rfl)
   have e8 := e7.setc (d := 142) (c := [1, 0]) (v := pt i 4) (by kernel_rfl) (v' := pt i 4) (by rw [x, p]; kernel_rfl)
   have b0 := e8.setc (d := 143) (c := [1, 0]) (v := i6 u0.Chooser) (by kernel_rfl) (v' := i6 u0.Chooser) (by rw [x, p]; kernel_rfl)
   obtain ⟨hU, e9⟩ := hT
   refine qix b0 (T := tySignal) (xs := u0.Signals) hs3 u0.Chooser hU (k := .i64) (e := 46) (bytes := 72) (wK b0 false) rfl (by kernel_rfl) rfl (by kernel_rfl) (by kernel_rfl) (by kernel_rfl) ?_; intro hV hW hX A kD hY h0 h1 aV
   have h2 := e9 A hY
   obtain rfl : hX = ((e46Mc A) : List Value) := h1
   refine qg_ aV false (.pointer (some ⟨hV, hW + 2, none⟩)) ?_; intro kE aW
   refine qst aW (i6 A.Size) (wK aW false) rfl (by kernel_rfl) (fun v864 hC => lz aW hC.fz h0 2 (g := []) rfl (by kernel_rfl) (by kernel_rfl) (by kernel_rfl) rfl) ?_; intro kF aX
   obtain ⟨h3, aY⟩ := h2
   refine qst aX (i6 (bShr .i64 l.Key A.Size)) (wK aX false) rfl (by kernel_rfl) (fun v867 hC => shr_run aX (g := []) (k' := .i64) rfl (by kernel_rfl) (by kernel_rfl) h3 rfl) ?_; intro kG aZ
   refine qg_ aZ false (.bool ((bShr .i64 l.Key A.Size) != 0)) ?_; intro kH a2
   refine qg_ a2 true (.bool ((bShr .i64 l.Key A.Size) != 0)) ?_; intro kI fa
   refine q1 fa 150 (.bool ((bShr .i64 l.Key A.Size) != 0)) ?_; intro h4 a3
   refine qnl (O _ ?_); intro kJ b1
   refine c_ a3 aY (fun _ h5 => ?_) fun _ h7 => ?_
   ·
    have fb : Fr 152 [] [] h4 := a3.reg
    refine sqB fb b1 [] [] [(2, i6 4)] ?_; intro kK h6
    exact r_ (i_ (h_ (h_ (i_ (h_ (ra1 h6 (i6 4) ⟨4, rfl, h5, b1.below⟩))))))
   exact l_ (j_ (d_ (ew () h7 _ _ ((a3.reg).anyβ _ (by kernel_rfl)) (b1.kp))))
  have fd := aR.reval (d := 133) (c := []) (v := .bool (decide (l.Key ≥ 0))) (by kernel_rfl) (.bool false) (by rw [p])
  have fe := fd.setc (d := 134) (c := [0]) (v := pt i 4) (by kernel_rfl) (v' := undef) (by rw [p]; kernel_rfl)
  have ff := fe.setc (d := 135) (c := [0]) (v := i6 u0.Chooser) (by kernel_rfl) (v' := undef) (by rw [p]; kernel_rfl)
  have fg := ff.setc (d := 136) (c := [0]) (v := .bool (decide (u0.Chooser < 0))) (by kernel_rfl) (v' := undef) (by rw [p]; kernel_rfl)
  have fh := fg.setc (d := 137) (c := [0]) (v := .bool (decide (u0.Chooser < 0))) (by kernel_rfl) (v' := undef) (by rw [p]; kernel_rfl)
  have fi := fh.setu (d := 138) (c := [1, 0]) (v := pt E 8) (by kernel_rfl) 0 (by kernel_rfl) (by rw [p]; kernel_rfl)
  have fj := fi.setu (d := 139) (c := [1, 0]) (v := i6 l.Key) (by kernel_rfl) 0 (by kernel_rfl) (by rw [p]; kernel_rfl)
  have fk := fj.setu (d := 140) (c := [1, 0]) (v := pt i 5) (by kernel_rfl) 0 (by kernel_rfl) (by rw [p]; kernel_rfl)
  have fl := fk.setu (d := 141) (c := [1, 0]) (v := .slice ao1 u0.Signals.length cap2) (by kernel_rfl) 0 (by kernel_rfl) (by rw [p]; kernel_rfl)
  have fm := fl.setu (d := 142) (c := [1, 0]) (v := pt i 4) (by kernel_rfl) 0 (by kernel_rfl) (by rw [p]; kernel_rfl)
  have fn := fm.setu (d := 143) (c := [1, 0]) (v := i6 u0.Chooser) (by kernel_rfl) 0 (by kernel_rfl) (by rw [p]; kernel_rfl)
  refine qsku fn rfl rfl (by kernel_rfl) (by kernel_rfl) rfl (by kernel_rfl) ?_; intro kL fo
  refine qsku fo rfl rfl (by kernel_rfl) (by kernel_rfl) rfl (by kernel_rfl) ?_; intro kM fp
  refine qsku fp rfl rfl (by kernel_rfl) (by kernel_rfl) rfl (by kernel_rfl) ?_; intro kN fq
  refine qsku fq rfl rfl (by kernel_rfl) (by kernel_rfl) rfl (by kernel_rfl) ?_; intro kO fr
  refine qsku fr rfl rfl (by kernel_rfl) (by kernel_rfl) rfl (by kernel_rfl) ?_; intro kP fs
  refine qk_ fs false ?_; intro kQ ft
  refine q1 ft 150 (.bool false) ?_; intro kR fu
  refine qnl (O _ ?_); intro kS h9
  refine cdF fu (by kernel_rfl) ?_
  exact l_ (j_ (d_ (ew () h8 _ _ ((fu.reg).anyβ _ (by kernel_rfl)) (h9.kp))))
 refine x_ (y_ (y_ (z_ (t_ (sqB ah es [] [] [(2, i6 0)] ?_))))); intro kT ib
 exact r_ (ra1 ib (i6 0) ⟨0, rfl, ia, es.below⟩)
end Go.Proofs.YtdndfbamhnchfaaGreatDoor
