/- Texts put together (pure ones, or walks made by program). -/
import Derived.Test.YtdndfbamhnchfaaDoorKw0
import Derived.Test.YtdndfbamhnchfaaDoorKw1
import Derived.Test.YtdndfbamhnchfaaDoorKw2
import Derived.Test.YtdndfbamhnchfaaDoorRows
import Derived.Shelf.Lay
import Derived.Ground.NamesProg
import Derived.Shelf.Sort.Plain
import Derived.Shelf.Slices.In.SortNone
import Derived.Shelf.Strings.SlTrimAscii
set_option linter.unusedVariables false
set_option linter.unusedSimpArgs false
set_option maxRecDepth 100000
set_option maxHeartbeats 0
namespace Go.Proofs.YtdndfbamhnchfaaDoor
open Go.Sy Go.RowKit
abbrev e23Z (X : Signal) : List Value := [str X.Name, i6 X.Start, i6 X.Size, .bool X.Back, .bool X.Signed, i6 X.Mul, i6 X.Div, i6 X.Add, i6 X.Key]
theorem mixed : Tryd.prog.follows .mixedOrders = true := by kernel_rfl
theorem rdSignal : Rd Tryd.prog 23 tySignal okSignal := by
  refine ⟨fun enc w fuel cs x h hw => ?_⟩
  have hu : Tryd.prog.underlying 23 = some (.struct _) := Tryd.underlying23
  have hl := rd_len hu h (m := 9) (by kernel_rfl)
  obtain ⟨j, n, o⟩ := rd_field hu h hw 0 rfl (rd_str (P := Tryd.prog) (t := 9) (by kernel_rfl)) (m := 1) (by kernel_rfl) (off := 0) rfl
  have p : (cs.drop 0).take 1 = [str j] := n
  obtain ⟨i, q, r⟩ := rd_field hu h hw 1 rfl (rd_int (P := Tryd.prog) (t := 3) (k := .i64) (by kernel_rfl)) (m := 1) (by kernel_rfl) (off := 1) rfl
  have s : (cs.drop 1).take 1 = [i6 i] := q
  obtain ⟨g, u, v⟩ := rd_field hu h hw 2 rfl (rd_int (P := Tryd.prog) (t := 3) (k := .i64) (by kernel_rfl)) (m := 1) (by kernel_rfl) (off := 2) rfl
  have y : (cs.drop 2).take 1 = [i6 g] := u
  obtain ⟨f, A, B⟩ := rd_field hu h hw 3 rfl (rd_bool (P := Tryd.prog) (t := 4) (by kernel_rfl)) (m := 1) (by kernel_rfl) (off := 3) rfl
  have C : (cs.drop 3).take 1 = [.bool f] := A
  obtain ⟨e, D, E⟩ := rd_field hu h hw 4 rfl (rd_bool (P := Tryd.prog) (t := 4) (by kernel_rfl)) (m := 1) (by kernel_rfl) (off := 4) rfl
  have F : (cs.drop 4).take 1 = [.bool e] := D
  obtain ⟨d, G, H⟩ := rd_field hu h hw 5 rfl (rd_int (P := Tryd.prog) (t := 3) (k := .i64) (by kernel_rfl)) (m := 1) (by kernel_rfl) (off := 5) rfl
  have I : (cs.drop 5).take 1 = [i6 d] := G
  obtain ⟨c, J, K⟩ := rd_field hu h hw 6 rfl (rd_int (P := Tryd.prog) (t := 3) (k := .i64) (by kernel_rfl)) (m := 1) (by kernel_rfl) (off := 6) rfl
  have L : (cs.drop 6).take 1 = [i6 c] := J
  obtain ⟨b, M, N⟩ := rd_field hu h hw 7 rfl (rd_int (P := Tryd.prog) (t := 3) (k := .i64) (by kernel_rfl)) (m := 1) (by kernel_rfl) (off := 7) rfl
  have O : (cs.drop 7).take 1 = [i6 b] := M
  obtain ⟨a, Q, R⟩ := rd_field hu h hw 8 rfl (rd_int (P := Tryd.prog) (t := 3) (k := .i64) (by kernel_rfl)) (m := 1) (by kernel_rfl) (off := 8) rfl
  have S : (cs.drop 8).take 1 = [i6 a] := Q
  have z : cs.drop 9 = [] := List.drop_eq_nil_of_le (by omega)
  have T : cs.drop 8 = [i6 a] := by rw [show cs.drop 8 = (cs.drop 8).take 1 ++ cs.drop 9 from cut_at cs 8 1, S, z]; rfl
  have U : cs.drop 7 = [i6 b, i6 a] := by rw [show cs.drop 7 = (cs.drop 7).take 1 ++ cs.drop 8 from cut_at cs 7 1, O, T]; rfl
  have V : cs.drop 6 = [i6 c, i6 b, i6 a] := by rw [show cs.drop 6 = (cs.drop 6).take 1 ++ cs.drop 7 from cut_at cs 6 1, L, U]; rfl
  have W : cs.drop 5 = [i6 d, i6 c, i6 b, i6 a] := by rw [show cs.drop 5 = (cs.drop 5).take 1 ++ cs.drop 6 from cut_at cs 5 1, I, V]; rfl
  have X : cs.drop 4 = [.bool e, i6 d, i6 c, i6 b, i6 a] := by rw [show cs.drop 4 = (cs.drop 4).take 1 ++ cs.drop 5 from cut_at cs 4 1, F, W]; rfl
  have Y : cs.drop 3 = [.bool f, .bool e, i6 d, i6 c, i6 b, i6 a] := by rw [show cs.drop 3 = (cs.drop 3).take 1 ++ cs.drop 4 from cut_at cs 3 1, C, X]; rfl
  have Z : cs.drop 2 = [i6 g, .bool f, .bool e, i6 d, i6 c, i6 b, i6 a] := by rw [show cs.drop 2 = (cs.drop 2).take 1 ++ cs.drop 3 from cut_at cs 2 1, y, Y]; rfl
  have g1 : cs.drop 1 = [i6 i, i6 g, .bool f, .bool e, i6 d, i6 c, i6 b, i6 a] := by rw [show cs.drop 1 = (cs.drop 1).take 1 ++ cs.drop 2 from cut_at cs 1 1, s, Z]; rfl
  have l : cs.drop 0 = [str j, i6 i, i6 g, .bool f, .bool e, i6 d, i6 c, i6 b, i6 a] := by rw [show cs.drop 0 = (cs.drop 0).take 1 ++ cs.drop 1 from cut_at cs 0 1, p, g1]; rfl
  refine ⟨⟨j, i, g, f, e, d, c, b, a⟩, ?_, o, r, v, B, E, H, K, N, R⟩
  rw [List.drop_zero] at l
  exact l

theorem rdReading : Rd Tryd.prog 26 tyReading okReading := by
  refine ⟨fun enc w fuel cs x h hw => ?_⟩
  have hu : Tryd.prog.underlying 26 = some (.struct _) := Tryd.underlying26
  have hl := rd_len hu h (m := 3) (by kernel_rfl)
  obtain ⟨c, e, f⟩ := rd_field hu h hw 0 rfl (rd_str (P := Tryd.prog) (t := 9) (by kernel_rfl)) (m := 1) (by kernel_rfl) (off := 0) rfl
  have g : (cs.drop 0).take 1 = [str c] := e
  obtain ⟨b, i, j⟩ := rd_field hu h hw 1 rfl (rd_int (P := Tryd.prog) (t := 3) (k := .i64) (by kernel_rfl)) (m := 1) (by kernel_rfl) (off := 1) rfl
  have l : (cs.drop 1).take 1 = [i6 b] := i
  obtain ⟨a, n, o⟩ := rd_field hu h hw 2 rfl (rd_int (P := Tryd.prog) (t := 3) (k := .i64) (by kernel_rfl)) (m := 1) (by kernel_rfl) (off := 2) rfl
  have p : (cs.drop 2).take 1 = [i6 a] := n
  have z : cs.drop 3 = [] := List.drop_eq_nil_of_le (by omega)
  have q : cs.drop 2 = [i6 a] := by rw [show cs.drop 2 = (cs.drop 2).take 1 ++ cs.drop 3 from cut_at cs 2 1, p, z]; rfl
  have r : cs.drop 1 = [i6 b, i6 a] := by rw [show cs.drop 1 = (cs.drop 1).take 1 ++ cs.drop 2 from cut_at cs 1 1, l, q]; rfl
  have d : cs.drop 0 = [str c, i6 b, i6 a] := by rw [show cs.drop 0 = (cs.drop 0).take 1 ++ cs.drop 1 from cut_at cs 0 1, g, r]; rfl
  refine ⟨⟨c, b, a⟩, ?_, f, j, o⟩
  rw [List.drop_zero] at d
  exact d

theorem sname_walk (u0 : List UInt8)  (Z : Fz) (w : World)  (hZ : Z.on w) {K : Bool → Prop} (hp : sname_vc u0 K) : Calls Tryd.prog 20 #[str u0] w fun e w' => ∃ r : Bool, e = .returned (.bool r) ∧ K r ∧ Below w.heap.size w w' := by
 refine enter0 Tryd.func20 rfl rfl (by kernel_rfl) ?_; intro a0 n; have d := Mem.start w Z hZ
 refine sqB n d [] [] [] ?_; intro a2 o
 refine s_ (sqB o d [] [57] [(12, .bool ((u0 == ([] : List UInt8)) || (decide ((u0.length : Int) > 16))))] ?_); intro af f
 refine c_ f hp (fun _ J => ?_) fun _ M => ?_
 ·
  refine sqB f d [] [] [(2, .bool false)] ?_; intro ag L
  exact r_ (h_ (ra1 L (.bool false) ⟨false, rfl, J, d.below⟩))
 refine k_ (s_ (sqB f d [] [] [(14, i6 (u0.length : Int)), (15, i6 0)] ?_)); intro p u
 apply b_
 have v : Fr 50 [] [⟨0, [], str u0⟩, ⟨14, [], i6 (u0.length : Int)⟩, ⟨15, [], i6 0⟩] p := u.reg
 obtain ⟨N, O, P, Q⟩ := M
 refine lp (ι := Int) (fun s => [⟨0, [], str u0⟩, ⟨14, [], i6 (u0.length : Int)⟩, ⟨15, [], i6 s⟩]) (fun s => []) (fun s => Z) (fun s => N s) (fun s => O s) 0 P (by exact v.reg) (by exact d) ?_
 rintro b R S T y z
 have i := Q b R
 refine sqB y z [] [] [(16, .bool (decide (b < (u0.length : Int))))] ?_; intro ah g
 refine s_ (c_ g i (fun _ U => ?_) fun _ ac => ?_)
 ·
  refine k_ (s_ (b_ (sqB g z [] [] [(3, i6 b)] ?_))); intro ai B
  refine sqH ?_; intro V C
  refine bt B z 2 [] [] [(18, str u0), (19, i6 b)] ?_; intro aj D
  obtain ⟨W, X⟩ := U
  obtain ⟨a, E⟩ : ∃ q, u0[b.toNat]? = some q := ⟨_, List.getElem?_eq_getElem (by omega)⟩; have j := X a E
  refine si D .i64 W.1 E ?_; intro ak F
  refine s1 F 4 (y8 (a.toNat : Int)) ?_; intro al G
  apply C
  refine sqB G z [] [] [(5, .bool (((decide ((a.toNat : Int) ≥ 97)) && (decide ((a.toNat : Int) ≤ 122))) || ((decide ((a.toNat : Int) ≥ 65)) && (decide ((a.toNat : Int) ≤ 90)))))] ?_; intro am H
  refine sqB H z [] [] [(48, .bool ((!(((decide ((a.toNat : Int) ≥ 97)) && (decide ((a.toNat : Int) ≤ 122))) || ((decide ((a.toNat : Int) ≥ 65)) && (decide ((a.toNat : Int) ≤ 90))))) && (((b == 0) || (decide ((a.toNat : Int) < 48))) || (decide ((a.toNat : Int) > 57)))))] ?_; intro an h
  refine c_ h j (fun _ Y => ?_) fun _ I => ?_
  ·
   refine sqB h z [] [] [(2, .bool false)] ?_; intro ao aa
   exact r_ (i_ (h_ (h_ (i_ (h_ (ra1 aa (.bool false) ⟨false, rfl, Y, z.below⟩))))))
  refine l_ (j_ (t_ (rgB h z [] [] [(15, i6 (w64 (b + 1)))] ?_))); intro ap ab
  exact d_ ⟨w64 (b + 1), I.1, I.2, (ab.reg).anyβ _ (by kernel_rfl), z.kp⟩
 refine x_ (y_ (y_ (z_ (t_ (sqB g z [] [] [(2, .bool true)] ?_))))); intro aq ad
 exact r_ (ra1 ad (.bool true) ⟨true, rfl, ac, z.below⟩)

theorem sgcd_walk (u0 : Int) (u1 : Int)  (Z : Fz) (w : World)  (hZ : Z.on w) {K : Int → Prop} (hp : sgcd_vc u0 u1 K) : Calls Tryd.prog 45 #[i6 u0, i6 u1] w fun e w' => ∃ r : Int, e = .returned (i6 r) ∧ K r ∧ Below w.heap.size w w' := by
 refine enter0 Tryd.func45 rfl rfl (by kernel_rfl) ?_; intro T k; have h := Mem.start w Z hZ
 refine sqB k h [] [] [] ?_; intro l m
 refine s_ (b_ ?_)
 have n : Fr 15 [] [⟨0, [], i6 u0⟩, ⟨1, [], i6 u1⟩] l := m.reg
 obtain ⟨D, E, F, G⟩ := hp
 refine lp (ι := Int × Int) (fun s => [⟨0, [], i6 s.1⟩, ⟨1, [], i6 s.2⟩]) (fun s => []) (fun s => Z) (fun s => D s.1 s.2) (fun s => E s.1 s.2) ⟨u0, u1⟩ F (by exact n.reg) (by exact h) ?_
 rintro ⟨a, b⟩ H I J p q
 have f := G a b H
 refine s_ (sqB p q [] [] [(6, .bool (b != 0))] ?_); intro L d
 refine c_ d f (fun _ M => ?_) fun _ R => ?_
 ·
  refine k_ (b_ ?_)
  have v : Fr 15 [] [⟨0, [], i6 a⟩, ⟨1, [], i6 b⟩] L := d.reg
  refine qrgH mixed (by kernel_rfl) q ?_; intro N x
  refine q1 v 7 (i6 b) ?_; intro V y
  refine q1 y 8 (i6 a) ?_; intro W z
  refine q1 z 9 (i6 b) ?_; intro X j
  obtain ⟨O, A⟩ := M
  refine qu_ j (i6 (a.tmod b)) (fun v36 hC => rem_run j (g := []) rfl (by kernel_rfl) (by kernel_rfl) O rfl) ?_; intro Y B
  refine q1 B 0 (i6 b) ?_; intro aa C
  refine q1 C 1 (i6 (a.tmod b)) ?_; intro ab P
  refine qnl (x _ ?_); intro ac Q
  exact j_ (d_ ⟨⟨b, a.tmod b⟩, A.1, A.2, (P.reg).anyβ _ (by kernel_rfl), Q.kp⟩)
 refine x_ (y_ (y_ (z_ (t_ (sqB d q [] [] [(4, i6 (max a (w64 (0 - a))))] ?_))))); intro ad S
 exact r_ (ra1 S (i6 (max a (w64 (0 - a)))) ⟨max a (w64 (0 - a)), rfl, R, q.below⟩)

theorem imax_walk (u0 : List Int) (ao1 : Option Addr) (cap2 : Nat) (Z : Fz) (w : World) (hs3 : SlR t6 Z ao1 cap2 u0) (hZ : Z.on w) {K : Int → Prop} (hp : imax_vc u0 K) : Calls Tryd.prog 58 #[.slice ao1 u0.length cap2] w fun e w' => ∃ r : Int, e = .returned (i6 r) ∧ K r ∧ Below w.heap.size w w' := by
 refine enter0 Tryd.func58 rfl rfl (by kernel_rfl) ?_; intro a0 o; have f := Mem.start w Z hZ
 have i := hp (hs3.small)
 refine sqB o f [] [] [] ?_; intro a6 p
 refine s_ (sqB p f [] [] [(7, .bool (decide ((u0.length : Int) < 1)))] ?_); intro au l
 refine c_ l i (fun _ P => ?_) fun _ Q => ?_
 ·
  exact False.elim P
 refine k_ (sqH ?_); intro R q
 refine s1 l 9 (.slice ao1 u0.length cap2) ?_; intro av u
 obtain ⟨S, v⟩ := Q
 refine ix_ u hs3 (0 : Int) S .i64 3 8 ?_; intro aw ax U d ay V W X x
 have Y := v d V
 obtain rfl : U = ([i6 d] : List Value) := X
 refine z1 x f 11 W 0 (i6 d) rfl ?_; intro az y
 refine s1 y 3 (i6 d) ?_; intro aA z
 apply q
 refine s_ (sqB z f [] [] [(4, i6 1)] ?_); intro A B
 apply b_
 have C : Fr 25 [] [⟨0, [], .slice ao1 u0.length cap2⟩, ⟨3, [], i6 d⟩, ⟨4, [], i6 1⟩] A := B.reg
 obtain ⟨aa, ab, ac, ad⟩ := Y
 refine lp (ι := Int × Int) (fun s => [⟨0, [], .slice ao1 u0.length cap2⟩, ⟨3, [], i6 s.1⟩, ⟨4, [], i6 s.2⟩]) (fun s => []) (fun s => Z) (fun s => aa s.1 s.2) (fun s => ab s.1 s.2) ⟨d, 1⟩ ac (by exact C.reg) (by exact f) ?_
 rintro ⟨a, b⟩ ae af ag E F
 have j := ad a b ae
 refine s_ (sqB E F [] [] [(15, .bool (decide (b < (u0.length : Int))))] ?_); intro aB g
 refine c_ g j (fun _ ah => ?_) fun _ ap => ?_
 ·
  refine k_ (s_ (b_ (rgH ?_))); intro ai H
  refine bt g F 3 [] [] [(18, i6 a), (19, .slice ao1 u0.length cap2), (20, i6 b)] ?_; intro aC I
  obtain ⟨aj, J⟩ := ah
  refine ix_ I hs3 b aj .i64 3 8 ?_; intro aD aE ak h aF al am an L
  have M := J h al
  obtain rfl : ak = ([i6 h] : List Value) := an
  refine z1 L F 22 am 0 (i6 h) rfl ?_; intro aG N
  refine bt N F 2 [] [] [(3, i6 (max a h))] ?_; intro aH O
  apply H
  refine j_ (t_ (rgB O F [] [] [(4, i6 (w64 (b + 1)))] ?_)); intro aI ao
  exact d_ ⟨⟨max a h, w64 (b + 1)⟩, M.1, M.2, (ao.reg).anyβ _ (by kernel_rfl), F.kp⟩
 refine x_ (y_ (y_ (z_ (t_ (sqB g F [] [] [(2, i6 a)] ?_))))); intro aJ aq
 exact r_ (ra1 aq (i6 a) ⟨a, rfl, ap, F.below⟩)

theorem imin_walk (u0 : List Int) (ao1 : Option Addr) (cap2 : Nat) (Z : Fz) (w : World) (hs3 : SlR t6 Z ao1 cap2 u0) (hZ : Z.on w) {K : Int → Prop} (hp : imin_vc u0 K) : Calls Tryd.prog 59 #[.slice ao1 u0.length cap2] w fun e w' => ∃ r : Int, e = .returned (i6 r) ∧ K r ∧ Below w.heap.size w w' := by
 refine enter0 Tryd.func59 rfl rfl (by kernel_rfl) ?_; intro a0 o; have f := Mem.start w Z hZ
 have i := hp (hs3.small)
 refine sqB o f [] [] [] ?_; intro a6 p
 refine s_ (sqB p f [] [] [(7, .bool (decide ((u0.length : Int) < 1)))] ?_); intro au l
 refine c_ l i (fun _ P => ?_) fun _ Q => ?_
 ·
  exact False.elim P
 refine k_ (sqH ?_); intro R q
 refine s1 l 9 (.slice ao1 u0.length cap2) ?_; intro av u
 obtain ⟨S, v⟩ := Q
 refine ix_ u hs3 (0 : Int) S .i64 3 8 ?_; intro aw ax U d ay V W X x
 have Y := v d V
 obtain rfl : U = ([i6 d] : List Value) := X
 refine z1 x f 11 W 0 (i6 d) rfl ?_; intro az y
 refine s1 y 3 (i6 d) ?_; intro aA z
 apply q
 refine s_ (sqB z f [] [] [(4, i6 1)] ?_); intro A B
 apply b_
 have C : Fr 25 [] [⟨0, [], .slice ao1 u0.length cap2⟩, ⟨3, [], i6 d⟩, ⟨4, [], i6 1⟩] A := B.reg
 obtain ⟨aa, ab, ac, ad⟩ := Y
 refine lp (ι := Int × Int) (fun s => [⟨0, [], .slice ao1 u0.length cap2⟩, ⟨3, [], i6 s.1⟩, ⟨4, [], i6 s.2⟩]) (fun s => []) (fun s => Z) (fun s => aa s.1 s.2) (fun s => ab s.1 s.2) ⟨d, 1⟩ ac (by exact C.reg) (by exact f) ?_
 rintro ⟨a, b⟩ ae af ag E F
 have j := ad a b ae
 refine s_ (sqB E F [] [] [(15, .bool (decide (b < (u0.length : Int))))] ?_); intro aB g
 refine c_ g j (fun _ ah => ?_) fun _ ap => ?_
 ·
  refine k_ (s_ (b_ (rgH ?_))); intro ai H
  refine bt g F 3 [] [] [(18, i6 a), (19, .slice ao1 u0.length cap2), (20, i6 b)] ?_; intro aC I
  obtain ⟨aj, J⟩ := ah
  refine ix_ I hs3 b aj .i64 3 8 ?_; intro aD aE ak h aF al am an L
  have M := J h al
  obtain rfl : ak = ([i6 h] : List Value) := an
  refine z1 L F 22 am 0 (i6 h) rfl ?_; intro aG N
  refine bt N F 2 [] [] [(3, i6 (min a h))] ?_; intro aH O
  apply H
  refine j_ (t_ (rgB O F [] [] [(4, i6 (w64 (b + 1)))] ?_)); intro aI ao
  exact d_ ⟨⟨min a h, w64 (b + 1)⟩, M.1, M.2, (ao.reg).anyβ _ (by kernel_rfl), F.kp⟩
 refine x_ (y_ (y_ (z_ (t_ (sqB g F [] [] [(2, i6 a)] ?_))))); intro aJ aq
 exact r_ (ra1 aq (i6 a) ⟨a, rfl, ap, F.below⟩)

theorem bclone_walk (u0 : List Int) (ao1 : Option Addr) (cap2 : Nat) (Z : Fz) (w : World) (hs3 : SlR t8 Z ao1 cap2 u0) (hZ : Z.on w) {K : (List Int) → Prop} (hp : bclone_vc u0 K) : Calls Tryd.prog 12 #[.slice ao1 u0.length cap2] w fun e w' => ∃ (r : (List Int)) (ao1001 : Option Addr) (cap1002 : Nat) (Z' : Fz), e = .returned (.slice ao1001 r.length cap1002) ∧ K r ∧ Mem w.heap.size [] w Z [.own t8 5 ao1001 cap1002 r] Z' w' := by
 refine enter0 Tryd.func12 rfl rfl (by kernel_rfl) ?_; intro N l; have a := Mem.start w Z hZ
 have m := hp (hs3.small)
 refine sqB l a [] [] [] ?_; intro P n
 refine s_ (sqH ?_); intro A o
 refine s1 n 3 (.slice ao1 u0.length cap2) ?_; intro Q h
 obtain ⟨i, p⟩ : ∃ b, ao1.isNone = b := ⟨_, rfl⟩; have d := m i (by rw [← p]; exact hs3.isNone)
 refine u_ h (.bool i) (re_ (r := .ok (.value (.bool ao1.isNone)) w) (by cases ao1 <;> exact p0 h (by kernel_rfl)) (by rw [p])) ?_; intro R c
 apply o
 refine c_ c d (fun _ B => ?_) fun _ E => ?_
 ·
  refine sqB c a [] [] [(2, .slice none 0 0)] ?_; intro S C
  refine r_ (h_ ?_)
  have D : Mem w.heap.size [] w Z [.own t8 5 none 0 ([] : List Int)] Z w := a.addNil t8 5 (by decide)
  exact ra1 C (.slice none ([] : List Int).length 0) ⟨([] : List Int), none, 0, Z, rfl, B, D.kp⟩
 refine k_ (sqH ?_); intro F q
 refine nw c a (fun b => .slice (sm b) 0 0) [] 5 ?_; intro s U G u v
 refine s1 u 6 (.slice ao1 u0.length cap2) ?_; intro V x
 have k : Mem w.heap.size [] w Z [.own t8 5 (sm s) 0 ([] : List Int)] Z G := v.rowOwn (T := t8) (xs := ([] : List Int)) 0 rfl (by decide) (by show 0 ≤ lim; decide) (RepAll.nil _ _)
 obtain ⟨H, I⟩ := E
 refine ap x k 0 (T := t8) (xs := ([] : List Int)) (ys := u0) (ao := (sm s)) (cap := 0) (ao2 := ao1) (cap2 := cap2) (t := 24) (e := 5) (bytes := 1) (nog rfl _) rfl (by kernel_rfl) rfl (by kernel_rfl) (by kernel_rfl) (by kernel_rfl) rfl (Src.fz (by decide) k.fz hs3) H ?_; intro f g W J X y z
 have L : Mem w.heap.size [] w Z [.own t8 5 f g (([] : List Int) ++ u0)] Z J := z
 refine s1 y 2 (.slice f (([] : List Int) ++ u0).length g) ?_; intro Y M
 apply q
 exact r_ (ra1 M (.slice f (([] : List Int) ++ u0).length g) ⟨([] : List Int) ++ u0, f, g, Z, rfl, I, L.kp⟩)

theorem beq_walk (u0 : List Int) (u1 : List Int) (ao1 : Option Addr) (cap2 : Nat) (ao4 : Option Addr) (cap5 : Nat) (Z : Fz) (w : World) (hs3 : SlR t8 Z ao1 cap2 u0) (hs6 : SlR t8 Z ao4 cap5 u1) (hZ : Z.on w) {K : Bool → Prop} (hp : beq_vc u0 u1 K) : Calls Tryd.prog 15 #[.slice ao1 u0.length cap2, .slice ao4 u1.length cap5] w fun e w' => ∃ r : Bool, e = .returned (.bool r) ∧ K r ∧ Below w.heap.size w w' := by
 refine enter0 Tryd.func15 rfl rfl (by kernel_rfl) ?_; intro a0 y; have b := Mem.start w Z hZ
 have l := hp (hs3.small) (hs6.small)
 refine sqB y b [] [] [] ?_; intro aD A
 refine s_ (sqB A b [] [] [(10, .bool ((u0.length : Int) != (u1.length : Int)))] ?_); intro aE d
 refine c_ d l (fun _ W => ?_) fun _ Y => ?_
 ·
  refine sqB d b [] [] [(4, .bool false)] ?_; intro aF X
  exact r_ (h_ (ra1 X (.bool false) ⟨false, rfl, W, b.below⟩))
 refine k_ (s_ (sqB d b [] [] [(12, i6 (u0.length : Int)), (13, i6 0)] ?_)); intro B C
 apply b_
 have D : Fr 26 [] [⟨0, [], .slice ao1 u0.length cap2⟩, ⟨1, [], .slice ao4 u1.length cap5⟩, ⟨12, [], i6 (u0.length : Int)⟩, ⟨13, [], i6 0⟩] B := C.reg
 obtain ⟨aa, ab, ac, ad⟩ := Y
 refine lp (ι := Int) (fun s => [⟨0, [], .slice ao1 u0.length cap2⟩, ⟨1, [], .slice ao4 u1.length cap5⟩, ⟨12, [], i6 (u0.length : Int)⟩, ⟨13, [], i6 s⟩]) (fun s => []) (fun s => Z) (fun s => aa s) (fun s => ab s) 0 ac (by exact D.reg) (by exact b) ?_
 rintro a ae af ag F G
 have m := ad a ae
 refine sqB F G [] [] [(14, .bool (decide (a < (u0.length : Int))))] ?_; intro aG f
 refine s_ (c_ f m (fun _ ah => ?_) fun _ aA => ?_)
 ·
  refine k_ (s_ (b_ (sqB f G [] [] [(5, i6 a)] ?_))); intro ai I
  have J : Fr 26 [] [⟨0, [], .slice ao1 u0.length cap2⟩, ⟨1, [], .slice ao4 u1.length cap5⟩, ⟨5, [], i6 a⟩, ⟨12, [], i6 (u0.length : Int)⟩, ⟨13, [], i6 a⟩] ai := I.reg
  refine sqQH mixed (by kernel_rfl) G ?_; intro aj L
  refine q1 J 16 (.slice ao1 u0.length cap2) ?_; intro aH M
  refine q1 M 17 (i6 a) ?_; intro aI N
  obtain ⟨ak, O⟩ := ah
  refine qx_ N hs3 a ak .i64 5 1 ?_; intro aJ aK al h aL am an ao u
  have ap := O h am
  obtain rfl : al = ([y8 h] : List Value) := ao
  refine qz_ u an 0 (y8 h) rfl ?_; intro aM P
  refine q1 P 20 (.slice ao4 u1.length cap5) ?_; intro aN Q
  refine q1 Q 21 (i6 a) ?_; intro aO R
  obtain ⟨aq, S⟩ := ap
  refine qx_ R hs6 a aq .i64 5 1 ?_; intro aP aQ ar i aR au av aw v
  have n := S i au
  obtain rfl : ar = ([y8 i] : List Value) := aw
  refine qz_ v av 0 (y8 i) rfl ?_; intro aS U
  refine q1 U 24 (.bool (h != i)) ?_; intro aT j
  refine qnl (L _ ?_); intro aU o
  refine c_ j n (fun _ ax => ?_) fun _ V => ?_
  ·
   refine sqB j o [] [] [(4, .bool false)] ?_; intro aV ay
   exact r_ (i_ (h_ (h_ (i_ (h_ (ra1 ay (.bool false) ⟨false, rfl, ax, o.below⟩))))))
  refine l_ (j_ (t_ (rgB j o [] [] [(13, i6 (w64 (a + 1)))] ?_))); intro aW az
  exact d_ ⟨w64 (a + 1), V.1, V.2, (az.reg).anyβ _ (by kernel_rfl), o.kp⟩
 refine x_ (y_ (y_ (z_ (t_ (sqB f G [] [] [(4, .bool true)] ?_))))); intro aX aB
 exact r_ (ra1 aB (.bool true) ⟨true, rfl, aA, G.below⟩)

theorem sbounds_walk (u0 : Signal)  (Z : Fz) (w : World)  (hZ : Z.on w) {K : (Int × Int) → Prop} (hp : sbounds_vc u0 K) : Calls Tryd.prog 46 #[.agg #[str u0.Name, i6 u0.Start, i6 u0.Size, .bool u0.Back, .bool u0.Signed, i6 u0.Mul, i6 u0.Div, i6 u0.Add, i6 u0.Key]] w fun e w' => ∃ r : Int × Int, e = .returned (.tuple #[i6 r.1, i6 r.2]) ∧ K r ∧ Below w.heap.size w w' := by
 refine enter0 Tryd.func46 rfl rfl (by kernel_rfl) ?_; intro a0 n; have o := Mem.start w Z hZ
 refine sqH ?_; intro J p
 refine nw n o pb (e23Z u0) 23 ?_; intro a a3 ab q c
 refine bt q c 2 [] [] [] ?_; intro a9 s
 apply p
 refine s_ (sqB s c [0] [] [(5, .bool u0.Signed)] ?_); intro u d
 refine c_ d hp (fun _ L => ?_) fun _ T => ?_
 ·
  have v : Fr 19 [] [⟨1, [], pt a 0⟩] u := d.reg
  refine sqQH mixed (by kernel_rfl) c ?_; intro M x
  refine q1 v 6 (pt a 2) ?_; intro ac h
  refine ql_ h 0 2 (i6 u0.Size) rfl rfl ?_; intro ad y
  refine q1 y 8 (i6 (w64 (u0.Size - 1))) ?_; intro ae i
  obtain ⟨N, O⟩ := L
  refine qu_ i (i6 (bShl .i64 (-1) (w64 (u0.Size - 1)))) (fun v29 hC => shl_run i (g := []) (k' := .i64) rfl (by kernel_rfl) (by kernel_rfl) N rfl) ?_; intro af z
  refine q1 z 10 (pt a 2) ?_; intro ag j
  refine ql_ j 0 2 (i6 u0.Size) rfl rfl ?_; intro ah A
  refine q1 A 12 (i6 (w64 (u0.Size - 1))) ?_; intro ai k
  obtain ⟨P, Q⟩ := O
  refine qu_ k (i6 (bShl .i64 1 (w64 (u0.Size - 1)))) (fun v43 hC => shl_run k (g := []) (k' := .i64) rfl (by kernel_rfl) (by kernel_rfl) P rfl) ?_; intro aj B
  refine q1 B 14 (i6 (w64 ((bShl .i64 1 (w64 (u0.Size - 1))) - 1))) ?_; intro ak C
  refine q1 C 2 (i6 (bShl .i64 (-1) (w64 (u0.Size - 1)))) ?_; intro al D
  refine q1 D 3 (i6 (w64 ((bShl .i64 1 (w64 (u0.Size - 1))) - 1))) ?_; intro am R
  refine qnl (x _ ?_); intro an S
  exact r_ (h_ (ra2 R (.tuple #[i6 (bShl .i64 (-1) (w64 (u0.Size - 1))), i6 (w64 ((bShl .i64 1 (w64 (u0.Size - 1))) - 1))]) ⟨(bShl .i64 (-1) (w64 (u0.Size - 1)), w64 ((bShl .i64 1 (w64 (u0.Size - 1))) - 1)), rfl, Q, S.below⟩))
 apply k_
 have E : Fr 19 [] [⟨1, [], pt a 0⟩] u := d.reg
 refine sqQH mixed (by kernel_rfl) c ?_; intro U F
 refine q1 E 15 (pt a 2) ?_; intro ao l
 refine ql_ l 0 2 (i6 u0.Size) rfl rfl ?_; intro ap m
 obtain ⟨V, W⟩ := T
 refine qu_ m (i6 (bShl .i64 1 u0.Size)) (fun v68 hC => shl_run m (g := []) (k' := .i64) rfl (by kernel_rfl) (by kernel_rfl) V rfl) ?_; intro aq G
 refine q1 G 18 (i6 (w64 ((bShl .i64 1 u0.Size) - 1))) ?_; intro ar H
 refine q1 H 2 (i6 0) ?_; intro au I
 refine q1 I 3 (i6 (w64 ((bShl .i64 1 u0.Size) - 1))) ?_; intro av X
 refine qnl (F _ ?_); intro aw Y
 exact r_ (ra2 X (.tuple #[i6 0, i6 (w64 ((bShl .i64 1 u0.Size) - 1))]) ⟨(0, w64 ((bShl .i64 1 u0.Size) - 1)), rfl, W, Y.below⟩)

theorem irev_walk (u0 : List Int) (ao1 : Option Addr) (cap2 : Nat) (B : Nat) (w0 : World) (Z0 : Fz) (Rr : List Res) (Z : Fz) (w : World) (hM0 : Mem B [] w0 Z0 ((.own t6 3 ao1 cap2 u0) :: Rr) Z w) (hZ : Z.on w) {K : (List Int) → Prop} (hp : irev_vc u0 K) : Calls Tryd.prog 90 #[.slice ao1 u0.length cap2] w fun e w' => ∃ (r : (List Int)) (Z' : Fz), e = .returned (.tuple #[]) ∧ K r ∧ Fz.le Z Z' ∧ (r.length = u0.length) ∧ Mem B [] w0 Z0 ((.own t6 3 ao1 cap2 r) :: Rr) Z' w' := by
 refine enter0 Tryd.func90 rfl rfl (by kernel_rfl) ?_; intro a0 aO; have m := Fz.le.refl Z
 have be := hp (hM0.ownSmall 0 rfl)
 refine sqB aO hM0 [] [] [(2, i6 0), (3, i6 (w64 ((u0.length : Int) - 1)))] ?_; intro aP aQ
 apply b_
 have aR : Fr 28 [] [⟨0, [], .slice ao1 u0.length cap2⟩, ⟨2, [], i6 0⟩, ⟨3, [], i6 (w64 ((u0.length : Int) - 1))⟩] aP := aQ.reg
 obtain ⟨bf, bg, bh, bi⟩ := be
 refine lp (ι := Int × Int × (List Int)) (fun s => [⟨0, [], .slice ao1 s.2.2.length cap2⟩, ⟨2, [], i6 s.1⟩, ⟨3, [], i6 s.2.1⟩]) (fun s => ((.own t6 3 ao1 cap2 s.2.2) :: Rr)) (fun s => Z) (fun s => bf s.1 s.2.1 s.2.2) (fun s => bg s.1 s.2.1 s.2.2) ⟨0, w64 ((u0.length : Int) - 1), u0⟩ bh (by exact aR.reg) (by exact hM0) ?_
 rintro ⟨c, d, b⟩ bj bk bl aT aU
 have aI := bi c d b bj
 refine s_ (sqB aT aU [] [] [(9, .bool (decide (c < d)))] ?_); intro ad aG
 refine c_ aG aI (fun _ bm => ?_) fun _ cp => ?_
 ·
  refine k_ (s_ (b_ ?_))
  have bn : Fr 28 [] [⟨0, [], .slice ao1 b.length cap2⟩, ⟨2, [], i6 c⟩, ⟨3, [], i6 d⟩] ad := aG.reg
  obtain ⟨bo, aW⟩ := bm
  obtain ⟨l, bp, bq⟩ := gxq aW (by omega)
  obtain ⟨br, aX⟩ := bq
  obtain ⟨E, bs, bt⟩ := gxq aX (by omega)
  obtain ⟨bu, bv⟩ := bt
  obtain ⟨bw, aY⟩ := bv
  refine any_invE mixed [[], [], [], [], [], [], [4, 5], [6], [], [], [8, 9], [10], [0, 1, 4, 5, 6, 7, 11], [0, 1, 4, 5, 6, 7, 11, 12], [0, 1, 2, 3, 4, 5, 6, 7, 8, 9, 10, 11, 12, 13], [0, 1, 2, 3, 4, 5, 6, 7, 8, 9, 10, 11, 12, 13, 14]] 16 (fun S a w1 => ∃ (y : Nat) (z : Nat) (D : Nat) (F : Nat) (ae : Value) (af : Value) (L : Value) (M : Value) (av : Value) (aw : Value) (ap : Value) (ag : Value) (ax : Value) (ay : Value) (aq : Value) (ah : Value) (aa : Value) (H : Value) (aB : Res), Fz.le Z Z ∧ Fr 28 [] [⟨0, [], .slice ao1 b.length cap2⟩, ⟨2, [], i6 c⟩, ⟨3, [], i6 d⟩, ⟨14, [], ae⟩, ⟨15, [], af⟩, ⟨16, [], L⟩, ⟨17, [], M⟩, ⟨18, [], av⟩, ⟨19, [], aw⟩, ⟨20, [], ap⟩, ⟨21, [], ag⟩, ⟨22, [], ax⟩, ⟨23, [], ay⟩, ⟨24, [], aq⟩, ⟨25, [], ah⟩, ⟨26, [], aa⟩, ⟨27, [], H⟩] a ∧ Mem B [] w0 Z0 (aB :: Rr) Z w1 ∧ (S 0 = true → ae = .slice ao1 b.length cap2) ∧ (S 1 = true → af = i6 c) ∧ (S 2 = true → L = .slice ao1 b.length cap2) ∧ (S 3 = true → M = i6 d) ∧ (S 4 = true → av = .slice ao1 b.length cap2) ∧ (S 5 = true → aw = i6 d) ∧ (S 6 = true → ap = .pointer (some ⟨y, d.toNat * 1, none⟩)) ∧ (S 7 = true → ag = i6 l) ∧ (S 8 = true → ax = .slice ao1 b.length cap2) ∧ (S 9 = true → ay = i6 c) ∧ (S 10 = true → aq = .pointer (some ⟨z, c.toNat * 1, none⟩)) ∧ (S 11 = true → ah = i6 E) ∧ (S 12 = true → aa = .pointer (some ⟨D, c.toNat * 1, none⟩)) ∧ (S 14 = true → H = .pointer (some ⟨F, d.toNat * 1, none⟩)) ∧ (S 13 = false → aB = .own t6 3 ao1 cap2 b) ∧ (S 13 = true → S 15 = false → aB = .own t6 3 ao1 cap2 (b.set c.toNat l)) ∧ (S 15 = true → aB = .own t6 3 ao1 cap2 ((b.set c.toNat l).set d.toNat E)) ∧ (S 6 = true → ao1 = some ⟨y, 0, none⟩) ∧ (S 10 = true → ao1 = some ⟨z, 0, none⟩) ∧ (S 12 = true → ao1 = some ⟨D, 0, none⟩) ∧ (S 14 = true → ao1 = some ⟨F, 0, none⟩)) ?h0 ?hs ?hE
  case h0 =>
   have bx := bn.any 14
   have bz := bx.any 15
   have bA := bz.any 16
   have bB := bA.any 17
   have bC := bB.any 18
   have bD := bC.any 19
   have bE := bD.any 20
   have bF := bE.any 21
   have bG := bF.any 22
   have bH := bG.any 23
   have bI := bH.any 24
   have bJ := bI.any 25
   have bK := bJ.any 26
   have bL := bK.any 27
   have bM := (aU.perm lpr).drew
   exact ⟨0, 0, 0, 0, ad.tmps.getD 14 undef, ad.tmps.getD 15 undef, ad.tmps.getD 16 undef, ad.tmps.getD 17 undef, ad.tmps.getD 18 undef, ad.tmps.getD 19 undef, ad.tmps.getD 20 undef, ad.tmps.getD 21 undef, ad.tmps.getD 22 undef, ad.tmps.getD 23 undef, ad.tmps.getD 24 undef, ad.tmps.getD 25 undef, ad.tmps.getD 26 undef, ad.tmps.getD 27 undef, .own t6 3 ao1 cap2 b, Fz.le.refl _, bL.reg, bM, ff, ff, ff, ff, ff, ff, ff, ff, ff, ff, ff, ff, ff, ff, kf, ff, ff, ff, ff, ff, ff⟩
  case hs =>
   intro S hcl i o hil hi hSi hpre a w1 hI; refine Go.Sy.hid ?_; intro G hG; obtain ⟨y, z, D, F, ae, af, L, M, av, aw, ap, ag, ax, ay, aq, ah, aa, H, aB, n, hFx, hMx, N, O, P, hI⟩ := hI; obtain ⟨Q, R, U, ai, ar, V, W, aj, au, aC, aL, ak, aH, aZ, al, am, aD, hI⟩ := hI; have aM := hI
   have hcase : i = 0 ∨ i = 1 ∨ i = 2 ∨ i = 3 ∨ i = 4 ∨ i = 5 ∨ i = 6 ∨ i = 7 ∨ i = 8 ∨ i = 9 ∨ i = 10 ∨ i = 11 ∨ i = 12 ∨ i = 13 ∨ i = 14 ∨ i = 15 := by clear hi; omega
   rcases hcase with rfl | rfl | rfl | rfl | rfl | rfl | rfl | rfl | rfl | rfl | rfl | rfl | rfl | rfl | rfl | rfl
   ·
    obtain rfl := oj hi
    have az := hSi
    have g := ngF hcl 12 0 az
    have j := ngF hcl 13 0 az
    have f := ngF hcl 14 0 az
    have p := ngF hcl 15 0 az
    obtain rfl := ak j
    refine hG (any_step ?_); intro A J hJ
    refine s1 hFx 14 (.slice ao1 b.length cap2) ?_; intro cs bN
    refine nl (qnI (hJ _ _ ?_))
    exact ⟨y, z, D, F, .slice ao1 b.length cap2, af, L, M, av, aw, ap, ag, ax, ay, aq, ah, aa, H, .own t6 3 ao1 cap2 b, n, bN.reg, hMx.perm lpr, kf, O, P, Q, R, U, ai, ar, V, W, aj, au, (nt g), (nt f), kf, (fun h _ => nt j h), (nt p), al, am, (nt g), (nt f)⟩
   ·
    obtain rfl := oj hi
    have aA := hSi
    have g := ngF hcl 12 1 aA
    have j := ngF hcl 13 1 aA
    have f := ngF hcl 14 1 aA
    have p := ngF hcl 15 1 aA
    obtain rfl := ak j
    refine hG (any_step ?_); intro A J hJ
    refine s1 hFx 15 (i6 c) ?_; intro ct bO
    refine nl (qnI (hJ _ _ ?_))
    exact ⟨y, z, D, F, ae, i6 c, L, M, av, aw, ap, ag, ax, ay, aq, ah, aa, H, .own t6 3 ao1 cap2 b, n, bO.reg, hMx.perm lpr, N, kf, P, Q, R, U, ai, ar, V, W, aj, au, (nt g), (nt f), kf, (fun h _ => nt j h), (nt p), al, am, (nt g), (nt f)⟩
   ·
    obtain rfl := oj hi
    have aE := hSi
    have f := ngF hcl 14 2 aE
    have p := ngF hcl 15 2 aE
    refine hG (any_step ?_); intro A J hJ
    refine s1 hFx 16 (.slice ao1 b.length cap2) ?_; intro cu bP
    refine nl (qnI (hJ _ _ ?_))
    exact ⟨y, z, D, F, ae, af, .slice ao1 b.length cap2, M, av, aw, ap, ag, ax, ay, aq, ah, aa, H, aB, n, bP.reg, hMx.perm lpr, N, O, kf, Q, R, U, ai, ar, V, W, aj, au, aC, (nt f), ak, aH, (nt p), al, am, aD, (nt f)⟩
   ·
    obtain rfl := oj hi
    have aF := hSi
    have f := ngF hcl 14 3 aF
    have p := ngF hcl 15 3 aF
    refine hG (any_step ?_); intro A J hJ
    refine s1 hFx 17 (i6 d) ?_; intro cv bQ
    refine nl (qnI (hJ _ _ ?_))
    exact ⟨y, z, D, F, ae, af, L, i6 d, av, aw, ap, ag, ax, ay, aq, ah, aa, H, aB, n, bQ.reg, hMx.perm lpr, N, O, P, kf, R, U, ai, ar, V, W, aj, au, aC, (nt f), ak, aH, (nt p), al, am, aD, (nt f)⟩
   ·
    obtain rfl := oj hi
    have X := hSi
    have x := ngF hcl 6 4 X
    have I := ngF hcl 7 6 x
    have g := ngF hcl 12 4 X
    have j := ngF hcl 13 4 X
    have f := ngF hcl 14 4 X
    have p := ngF hcl 15 4 X
    obtain rfl := ak j
    refine hG (any_step ?_); intro A J hJ
    refine s1 hFx 18 (.slice ao1 b.length cap2) ?_; intro cw bR
    refine nl (qnI (hJ _ _ ?_))
    exact ⟨y, z, D, F, ae, af, L, M, .slice ao1 b.length cap2, aw, ap, ag, ax, ay, aq, ah, aa, H, .own t6 3 ao1 cap2 b, n, bR.reg, hMx.perm lpr, N, O, P, Q, kf, U, (nt x), (nt I), V, W, aj, au, (nt g), (nt f), kf, (fun h _ => nt j h), (nt p), (nt x), am, (nt g), (nt f)⟩
   ·
    obtain rfl := oj hi
    have Y := hSi
    have x := ngF hcl 6 5 Y
    have I := ngF hcl 7 6 x
    have g := ngF hcl 12 5 Y
    have j := ngF hcl 13 5 Y
    have f := ngF hcl 14 5 Y
    have p := ngF hcl 15 5 Y
    obtain rfl := ak j
    refine hG (any_step ?_); intro A J hJ
    refine s1 hFx 19 (i6 d) ?_; intro cx bS
    refine nl (qnI (hJ _ _ ?_))
    exact ⟨y, z, D, F, ae, af, L, M, av, i6 d, ap, ag, ax, ay, aq, ah, aa, H, .own t6 3 ao1 cap2 b, n, bS.reg, hMx.perm lpr, N, O, P, Q, R, kf, (nt x), (nt I), V, W, aj, au, (nt g), (nt f), kf, (fun h _ => nt j h), (nt p), (nt x), am, (nt g), (nt f)⟩
   ·
    obtain rfl := oj hi
    have Y := hpre 5 (by kernel_rfl)
    have X := hpre 4 (by kernel_rfl)
    have x := hSi
    have I := ngF hcl 7 6 x
    have g := ngF hcl 12 6 x
    have j := ngF hcl 13 6 x
    have f := ngF hcl 14 6 x
    have p := ngF hcl 15 6 x
    obtain rfl := R X
    obtain rfl := U Y
    obtain rfl := ak j
    refine hG (any_step ?_); intro A J hJ
    refine ixo hFx hMx 0 (T := t6) (xs := b) d (by simpa only [List.length_set] using bo) (k := .i64) (e := 3) (bytes := 8) (nog rfl _) rfl (by kernel_rfl) rfl (by kernel_rfl) (by kernel_rfl) rfl (by kernel_rfl) ?_; intro a1 cy bT bU
    refine nl (qnI (hJ _ _ ?_))
    exact ⟨a1, z, D, F, ae, af, L, M, .slice ao1 b.length cap2, i6 d, .pointer (some ⟨a1, d.toNat * 1, none⟩), ag, ax, ay, aq, ah, aa, H, .own t6 3 ao1 cap2 b, n, bU.reg, hMx.perm lpr, N, O, P, Q, kf, kf, kf, (nt I), V, W, aj, au, (nt g), (nt f), kf, (fun h _ => nt j h), (nt p), (fun _ => bT), am, (nt g), (nt f)⟩
   ·
    obtain rfl := oj hi
    have x := hpre 6 (by kernel_rfl)
    have Y := hcl 6 5 (by kernel_rfl) x
    have X := hcl 6 4 (by kernel_rfl) x
    have I := hSi
    have g := ngF hcl 12 7 I
    have j := ngF hcl 13 7 I
    have f := ngF hcl 14 7 I
    have p := ngF hcl 15 7 I
    obtain rfl := R X
    obtain rfl := U Y
    obtain rfl := ai x
    obtain rfl := ak j
    refine hG (any_step ?_); intro A J hJ
    have a2 := al x
    obtain ⟨bV, bW, bX⟩ := own_elx hMx 0 (T := t6) (xs := b) rfl a2 d.toNat bp
    obtain rfl : bV = ([i6 l] : List Value) := bW
    refine lc1 hFx 21 (i6 l) (bX 0 _ rfl) rfl ?_; intro cz bY
    refine nl (qnI (hJ _ _ ?_))
    exact ⟨y, z, D, F, ae, af, L, M, .slice ao1 b.length cap2, i6 d, .pointer (some ⟨y, d.toNat * 1, none⟩), i6 l, ax, ay, aq, ah, aa, H, .own t6 3 ao1 cap2 b, n, bY.reg, hMx.perm lpr, N, O, P, Q, kf, kf, kf, kf, V, W, aj, au, (nt g), (nt f), kf, (fun h _ => nt j h), (nt p), (fun _ => a2), am, (nt g), (nt f)⟩
   ·
    obtain rfl := oj hi
    have an := hSi
    have q := ngF hcl 10 8 an
    have C := ngF hcl 11 10 q
    have g := ngF hcl 12 11 C
    have j := ngF hcl 13 11 C
    have f := ngF hcl 14 8 an
    have p := ngF hcl 15 8 an
    obtain rfl := ak j
    refine hG (any_step ?_); intro A J hJ
    refine s1 hFx 22 (.slice ao1 b.length cap2) ?_; intro cA bZ
    refine nl (qnI (hJ _ _ ?_))
    exact ⟨y, z, D, F, ae, af, L, M, av, aw, ap, ag, .slice ao1 b.length cap2, ay, aq, ah, aa, H, .own t6 3 ao1 cap2 b, n, bZ.reg, hMx.perm lpr, N, O, P, Q, R, U, ai, ar, kf, W, (nt q), (nt C), (nt g), (nt f), kf, (fun h _ => nt j h), (nt p), al, (nt q), (nt g), (nt f)⟩
   ·
    obtain rfl := oj hi
    have ao := hSi
    have q := ngF hcl 10 9 ao
    have C := ngF hcl 11 10 q
    have g := ngF hcl 12 11 C
    have j := ngF hcl 13 11 C
    have f := ngF hcl 14 9 ao
    have p := ngF hcl 15 9 ao
    obtain rfl := ak j
    refine hG (any_step ?_); intro A J hJ
    refine s1 hFx 23 (i6 c) ?_; intro cB b0
    refine nl (qnI (hJ _ _ ?_))
    exact ⟨y, z, D, F, ae, af, L, M, av, aw, ap, ag, ax, i6 c, aq, ah, aa, H, .own t6 3 ao1 cap2 b, n, b0.reg, hMx.perm lpr, N, O, P, Q, R, U, ai, ar, V, kf, (nt q), (nt C), (nt g), (nt f), kf, (fun h _ => nt j h), (nt p), al, (nt q), (nt g), (nt f)⟩
   ·
    obtain rfl := oj hi
    have ao := hpre 9 (by kernel_rfl)
    have an := hpre 8 (by kernel_rfl)
    have q := hSi
    have C := ngF hcl 11 10 q
    have g := ngF hcl 12 11 C
    have j := ngF hcl 13 11 C
    have f := ngF hcl 14 10 q
    have p := ngF hcl 15 10 q
    obtain rfl := V an
    obtain rfl := W ao
    obtain rfl := ak j
    refine hG (any_step ?_); intro A J hJ
    refine ixo hFx hMx 0 (T := t6) (xs := b) c (by simpa only [List.length_set] using br) (k := .i64) (e := 3) (bytes := 8) (nog rfl _) rfl (by kernel_rfl) rfl (by kernel_rfl) (by kernel_rfl) rfl (by kernel_rfl) ?_; intro a3 cC b1 b2
    refine nl (qnI (hJ _ _ ?_))
    exact ⟨y, a3, D, F, ae, af, L, M, av, aw, ap, ag, .slice ao1 b.length cap2, i6 c, .pointer (some ⟨a3, c.toNat * 1, none⟩), ah, aa, H, .own t6 3 ao1 cap2 b, n, b2.reg, hMx.perm lpr, N, O, P, Q, R, U, ai, ar, kf, kf, kf, (nt C), (nt g), (nt f), kf, (fun h _ => nt j h), (nt p), al, (fun _ => b1), (nt g), (nt f)⟩
   ·
    obtain rfl := oj hi
    have q := hpre 10 (by kernel_rfl)
    have ao := hcl 10 9 (by kernel_rfl) q
    have an := hcl 10 8 (by kernel_rfl) q
    have C := hSi
    have g := ngF hcl 12 11 C
    have j := ngF hcl 13 11 C
    have f := ngF hcl 14 11 C
    have p := ngF hcl 15 11 C
    obtain rfl := V an
    obtain rfl := W ao
    obtain rfl := aj q
    obtain rfl := ak j
    refine hG (any_step ?_); intro A J hJ
    have a4 := am q
    obtain ⟨b3, b4, b5⟩ := own_elx hMx 0 (T := t6) (xs := b) rfl a4 c.toNat bs
    obtain rfl : b3 = ([i6 E] : List Value) := b4
    refine lc1 hFx 25 (i6 E) (b5 0 _ rfl) rfl ?_; intro cD b6
    refine nl (qnI (hJ _ _ ?_))
    exact ⟨y, z, D, F, ae, af, L, M, av, aw, ap, ag, .slice ao1 b.length cap2, i6 c, .pointer (some ⟨z, c.toNat * 1, none⟩), i6 E, aa, H, .own t6 3 ao1 cap2 b, n, b6.reg, hMx.perm lpr, N, O, P, Q, R, U, ai, ar, kf, kf, kf, kf, (nt g), (nt f), kf, (fun h _ => nt j h), (nt p), al, (fun _ => a4), (nt g), (nt f)⟩
   ·
    obtain rfl := oj hi
    have C := hpre 11 (by kernel_rfl)
    have I := hpre 7 (by kernel_rfl)
    have x := hpre 6 (by kernel_rfl)
    have Y := hpre 5 (by kernel_rfl)
    have X := hpre 4 (by kernel_rfl)
    have aA := hpre 1 (by kernel_rfl)
    have az := hpre 0 (by kernel_rfl)
    have q := hcl 11 10 (by kernel_rfl) C
    have ao := hcl 10 9 (by kernel_rfl) q
    have an := hcl 10 8 (by kernel_rfl) q
    have g := hSi
    have j := ngF hcl 13 12 g
    have f := ngF hcl 14 12 g
    have p := ngF hcl 15 12 g
    obtain rfl := N az
    obtain rfl := O aA
    obtain rfl := R X
    obtain rfl := U Y
    obtain rfl := ai x
    obtain rfl := ar I
    obtain rfl := V an
    obtain rfl := W ao
    obtain rfl := aj q
    obtain rfl := au C
    obtain rfl := ak j
    refine hG (any_step ?_); intro A J hJ
    have b7 := al x
    have b8 := am q
    refine ixo hFx hMx 0 (T := t6) (xs := b) c (by simpa only [List.length_set] using bu) (k := .i64) (e := 3) (bytes := 8) (nog rfl _) rfl (by kernel_rfl) rfl (by kernel_rfl) (by kernel_rfl) rfl (by kernel_rfl) ?_; intro a5 cE b9 ca
    refine nl (qnI (hJ _ _ ?_))
    exact ⟨y, z, a5, F, .slice ao1 b.length cap2, i6 c, L, M, .slice ao1 b.length cap2, i6 d, .pointer (some ⟨y, d.toNat * 1, none⟩), i6 l, .slice ao1 b.length cap2, i6 c, .pointer (some ⟨z, c.toNat * 1, none⟩), i6 E, .pointer (some ⟨a5, c.toNat * 1, none⟩), H, .own t6 3 ao1 cap2 b, n, ca.reg, hMx.perm lpr, kf, kf, P, Q, kf, kf, kf, kf, kf, kf, kf, kf, kf, (nt f), kf, (fun h _ => nt j h), (nt p), (fun _ => b7), (fun _ => b8), (fun _ => b9), (nt f)⟩
   ·
    obtain rfl := oj hi
    have g := hpre 12 (by kernel_rfl)
    have C := hpre 11 (by kernel_rfl)
    have I := hpre 7 (by kernel_rfl)
    have x := hpre 6 (by kernel_rfl)
    have Y := hpre 5 (by kernel_rfl)
    have X := hpre 4 (by kernel_rfl)
    have aA := hpre 1 (by kernel_rfl)
    have az := hpre 0 (by kernel_rfl)
    have q := hcl 11 10 (by kernel_rfl) C
    have ao := hcl 10 9 (by kernel_rfl) q
    have an := hcl 10 8 (by kernel_rfl) q
    have j := hSi
    have f := ngF hcl 14 13 j
    have p := ngF hcl 15 13 j
    obtain rfl := N az
    obtain rfl := O aA
    obtain rfl := R X
    obtain rfl := U Y
    obtain rfl := ai x
    obtain rfl := ar I
    obtain rfl := V an
    obtain rfl := W ao
    obtain rfl := aj q
    obtain rfl := au C
    obtain rfl := aC g
    obtain rfl := ak j
    refine hG (any_step ?_); intro A J hJ
    have cb := al x
    have cc := am q
    have a6 := aD g
    refine sox hFx hMx 0 a6 (T := t6) (xs := b) c.toNat l (u := i6 l) (nog rfl _) rfl rfl (by kernel_rfl) rfl (by kernel_rfl) rfl (by kernel_rfl) (by first | omega | (simp only [List.length_set] at *; omega)) rfl ?_; intro cF ce
    refine nl (qnI (hJ _ _ ?_))
    exact ⟨y, z, D, F, .slice ao1 b.length cap2, i6 c, L, M, .slice ao1 b.length cap2, i6 d, .pointer (some ⟨y, d.toNat * 1, none⟩), i6 l, .slice ao1 b.length cap2, i6 c, .pointer (some ⟨z, c.toNat * 1, none⟩), i6 E, .pointer (some ⟨D, c.toNat * 1, none⟩), H, .own t6 3 ao1 cap2 (b.set c.toNat l), n, hFx.reg, ce.perm lpr, kf, kf, P, Q, kf, kf, kf, kf, kf, kf, kf, kf, kf, (nt f), nu, kf2, (nt p), (fun _ => cb), (fun _ => cc), (fun _ => a6), (nt f)⟩
   ·
    obtain rfl := oj hi
    have j := hpre 13 (by kernel_rfl)
    have g := hpre 12 (by kernel_rfl)
    have C := hpre 11 (by kernel_rfl)
    have q := hpre 10 (by kernel_rfl)
    have ao := hpre 9 (by kernel_rfl)
    have an := hpre 8 (by kernel_rfl)
    have I := hpre 7 (by kernel_rfl)
    have x := hpre 6 (by kernel_rfl)
    have Y := hpre 5 (by kernel_rfl)
    have X := hpre 4 (by kernel_rfl)
    have aF := hpre 3 (by kernel_rfl)
    have aE := hpre 2 (by kernel_rfl)
    have aA := hpre 1 (by kernel_rfl)
    have az := hpre 0 (by kernel_rfl)
    have f := hSi
    have p := ngF hcl 15 14 f
    obtain rfl := N az
    obtain rfl := O aA
    obtain rfl := P aE
    obtain rfl := Q aF
    obtain rfl := R X
    obtain rfl := U Y
    obtain rfl := ai x
    obtain rfl := ar I
    obtain rfl := V an
    obtain rfl := W ao
    obtain rfl := aj q
    obtain rfl := au C
    obtain rfl := aC g
    obtain rfl := aH j p
    refine hG (any_step ?_); intro A J hJ
    have cf := al x
    have cg := am q
    have ch := aD g
    have ab : (b.set c.toNat l).length = b.length := by first | assumption | omega | (dsimp only at *; omega) | (simp; try omega)
    have a7 : Fr 28 [] [⟨0, [], .slice ao1 (b.set c.toNat l).length cap2⟩, ⟨2, [], i6 c⟩, ⟨3, [], i6 d⟩, ⟨14, [], .slice ao1 (b.set c.toNat l).length cap2⟩, ⟨15, [], i6 c⟩, ⟨16, [], .slice ao1 (b.set c.toNat l).length cap2⟩, ⟨17, [], i6 d⟩, ⟨18, [], .slice ao1 (b.set c.toNat l).length cap2⟩, ⟨19, [], i6 d⟩, ⟨20, [], .pointer (some ⟨y, d.toNat * 1, none⟩)⟩, ⟨21, [], i6 l⟩, ⟨22, [], .slice ao1 (b.set c.toNat l).length cap2⟩, ⟨23, [], i6 c⟩, ⟨24, [], .pointer (some ⟨z, c.toNat * 1, none⟩)⟩, ⟨25, [], i6 E⟩, ⟨26, [], .pointer (some ⟨D, c.toNat * 1, none⟩)⟩, ⟨27, [], H⟩] a := by rw [ab]; exact hFx.reg
    refine ixo a7 hMx 0 (T := t6) (xs := b.set c.toNat l) d (by simpa only [List.length_set] using bw) (k := .i64) (e := 3) (bytes := 8) (nog rfl _) rfl (by kernel_rfl) rfl (by kernel_rfl) (by kernel_rfl) rfl (by kernel_rfl) ?_; intro a8 cG ci a9
    refine nl (qnI (hJ _ _ ?_))
    rw [ab] at a9
    exact ⟨y, z, D, a8, .slice ao1 b.length cap2, i6 c, .slice ao1 b.length cap2, i6 d, .slice ao1 b.length cap2, i6 d, .pointer (some ⟨y, d.toNat * 1, none⟩), i6 l, .slice ao1 b.length cap2, i6 c, .pointer (some ⟨z, c.toNat * 1, none⟩), i6 E, .pointer (some ⟨D, c.toNat * 1, none⟩), .pointer (some ⟨a8, d.toNat * 1, none⟩), .own t6 3 ao1 cap2 (b.set c.toNat l), n, a9.reg, hMx.perm lpr, (fun _ => by first | rfl | rw [ab]), (fun _ => by first | rfl | rw [ab]), (fun _ => by first | rfl | rw [ab]), (fun _ => by first | rfl | rw [ab]), (fun _ => by first | rfl | rw [ab]), (fun _ => by first | rfl | rw [ab]), (fun _ => by first | rfl | rw [ab]), (fun _ => by first | rfl | rw [ab]), (fun _ => by first | rfl | rw [ab]), (fun _ => by first | rfl | rw [ab]), (fun _ => by first | rfl | rw [ab]), (fun _ => by first | rfl | rw [ab]), (fun _ => by first | rfl | rw [ab]), (fun _ => by first | rfl | rw [ab]), (tn j), kf2, (nt p), (fun _ => cf), (fun _ => cg), (fun _ => ch), (fun _ => ci)⟩
   obtain rfl := oj hi
   have f := hpre 14 (by kernel_rfl)
   have j := hpre 13 (by kernel_rfl)
   have g := hpre 12 (by kernel_rfl)
   have C := hpre 11 (by kernel_rfl)
   have q := hpre 10 (by kernel_rfl)
   have ao := hpre 9 (by kernel_rfl)
   have an := hpre 8 (by kernel_rfl)
   have I := hpre 7 (by kernel_rfl)
   have x := hpre 6 (by kernel_rfl)
   have Y := hpre 5 (by kernel_rfl)
   have X := hpre 4 (by kernel_rfl)
   have aF := hpre 3 (by kernel_rfl)
   have aE := hpre 2 (by kernel_rfl)
   have aA := hpre 1 (by kernel_rfl)
   have az := hpre 0 (by kernel_rfl)
   have p := hSi
   obtain rfl := N az
   obtain rfl := O aA
   obtain rfl := P aE
   obtain rfl := Q aF
   obtain rfl := R X
   obtain rfl := U Y
   obtain rfl := ai x
   obtain rfl := ar I
   obtain rfl := V an
   obtain rfl := W ao
   obtain rfl := aj q
   obtain rfl := au C
   obtain rfl := aC g
   obtain rfl := aL f
   obtain rfl := aH j p
   refine hG (any_step ?_); intro A J hJ
   have cj := al x
   have ck := am q
   have cl := aD g
   have ba := aM f
   have ac : (b.set c.toNat l).length = b.length := by first | assumption | omega | (dsimp only at *; omega) | (simp; try omega)
   have aN : Fr 28 [] [⟨0, [], .slice ao1 (b.set c.toNat l).length cap2⟩, ⟨2, [], i6 c⟩, ⟨3, [], i6 d⟩, ⟨14, [], .slice ao1 (b.set c.toNat l).length cap2⟩, ⟨15, [], i6 c⟩, ⟨16, [], .slice ao1 (b.set c.toNat l).length cap2⟩, ⟨17, [], i6 d⟩, ⟨18, [], .slice ao1 (b.set c.toNat l).length cap2⟩, ⟨19, [], i6 d⟩, ⟨20, [], .pointer (some ⟨y, d.toNat * 1, none⟩)⟩, ⟨21, [], i6 l⟩, ⟨22, [], .slice ao1 (b.set c.toNat l).length cap2⟩, ⟨23, [], i6 c⟩, ⟨24, [], .pointer (some ⟨z, c.toNat * 1, none⟩)⟩, ⟨25, [], i6 E⟩, ⟨26, [], .pointer (some ⟨D, c.toNat * 1, none⟩)⟩, ⟨27, [], .pointer (some ⟨F, d.toNat * 1, none⟩)⟩] a := by rw [ac]; exact hFx.reg
   refine sox aN hMx 0 ba (T := t6) (xs := b.set c.toNat l) d.toNat E (u := i6 E) (nog rfl _) rfl rfl (by kernel_rfl) rfl (by kernel_rfl) rfl (by kernel_rfl) (by first | omega | (simp only [List.length_set] at *; omega)) rfl ?_; intro cH cm
   refine nl (qnI (hJ _ _ ?_))
   rw [ac] at aN
   exact ⟨y, z, D, F, .slice ao1 b.length cap2, i6 c, .slice ao1 b.length cap2, i6 d, .slice ao1 b.length cap2, i6 d, .pointer (some ⟨y, d.toNat * 1, none⟩), i6 l, .slice ao1 b.length cap2, i6 c, .pointer (some ⟨z, c.toNat * 1, none⟩), i6 E, .pointer (some ⟨D, c.toNat * 1, none⟩), .pointer (some ⟨F, d.toNat * 1, none⟩), .own t6 3 ao1 cap2 ((b.set c.toNat l).set d.toNat E), n, aN.reg, cm.perm lpr, (fun _ => by first | rfl | rw [ac]), (fun _ => by first | rfl | rw [ac]), (fun _ => by first | rfl | rw [ac]), (fun _ => by first | rfl | rw [ac]), (fun _ => by first | rfl | rw [ac]), (fun _ => by first | rfl | rw [ac]), (fun _ => by first | rfl | rw [ac]), (fun _ => by first | rfl | rw [ac]), (fun _ => by first | rfl | rw [ac]), (fun _ => by first | rfl | rw [ac]), (fun _ => by first | rfl | rw [ac]), (fun _ => by first | rfl | rw [ac]), (fun _ => by first | rfl | rw [ac]), (fun _ => by first | rfl | rw [ac]), (tn j), (fun _ => nu), kf, (fun _ => cj), (fun _ => ck), (fun _ => cl), (fun _ => ba)⟩
  case hE =>
   intro S hS bb cI hI; refine Go.Sy.hid ?_; intro G hG; obtain ⟨y, z, D, F, ae, af, L, M, av, aw, ap, ag, ax, ay, aq, ah, aa, H, aB, n, hFx, hMx, N, O, P, hI⟩ := hI; obtain ⟨Q, R, U, ai, ar, V, W, aj, au, aC, aL, ak, aH, aZ, al, am, aD, hI⟩ := hI; refine hG ?_
   obtain rfl := N (hS 0 (by decide))
   obtain rfl := O (hS 1 (by decide))
   obtain rfl := P (hS 2 (by decide))
   obtain rfl := Q (hS 3 (by decide))
   obtain rfl := R (hS 4 (by decide))
   obtain rfl := U (hS 5 (by decide))
   obtain rfl := ai (hS 6 (by decide))
   obtain rfl := ar (hS 7 (by decide))
   obtain rfl := V (hS 8 (by decide))
   obtain rfl := W (hS 9 (by decide))
   obtain rfl := aj (hS 10 (by decide))
   obtain rfl := au (hS 11 (by decide))
   obtain rfl := aC (hS 12 (by decide))
   obtain rfl := aL (hS 14 (by decide))
   obtain rfl := aZ (hS 15 (by decide))
   have cn : ((b.set c.toNat l).set d.toNat E).length = b.length := by first | assumption | omega | (dsimp only at *; omega) | (simp; try omega)
   have bc : Fr 28 [] [⟨0, [], .slice ao1 ((b.set c.toNat l).set d.toNat E).length cap2⟩, ⟨2, [], i6 c⟩, ⟨3, [], i6 d⟩, ⟨14, [], .slice ao1 ((b.set c.toNat l).set d.toNat E).length cap2⟩, ⟨15, [], i6 c⟩, ⟨16, [], .slice ao1 ((b.set c.toNat l).set d.toNat E).length cap2⟩, ⟨17, [], i6 d⟩, ⟨18, [], .slice ao1 ((b.set c.toNat l).set d.toNat E).length cap2⟩, ⟨19, [], i6 d⟩, ⟨20, [], .pointer (some ⟨y, d.toNat * 1, none⟩)⟩, ⟨21, [], i6 l⟩, ⟨22, [], .slice ao1 ((b.set c.toNat l).set d.toNat E).length cap2⟩, ⟨23, [], i6 c⟩, ⟨24, [], .pointer (some ⟨z, c.toNat * 1, none⟩)⟩, ⟨25, [], i6 E⟩, ⟨26, [], .pointer (some ⟨D, c.toNat * 1, none⟩)⟩, ⟨27, [], .pointer (some ⟨F, d.toNat * 1, none⟩)⟩] bb := by rw [cn]; exact hFx.reg
   refine j_ (t_ ?_)
   have bd : Fr 28 [] [⟨0, [], .slice ao1 ((b.set c.toNat l).set d.toNat E).length cap2⟩, ⟨2, [], i6 c⟩, ⟨3, [], i6 d⟩] bb := bc.reg
   refine rgB bd hMx [] [] [(2, i6 (w64 (c + 1))), (3, i6 (w64 (d - 1)))] ?_; intro cN co
   exact d_ ⟨⟨w64 (c + 1), w64 (d - 1), (b.set c.toNat l).set d.toNat E⟩, aY.1, aY.2, (co.reg).anyβ _ (by kernel_rfl), hMx.kp⟩
 refine x_ (y_ (y_ (z_ ?_)))
 obtain ⟨cq, cr⟩ := cp
 refine rN (fn := Tryd.f90) (v := .tuple #[]) aG (re0 aG (fn := Tryd.f90) rfl) ?_
 exact ⟨b, Z, rfl, cr, m, cq, aU.kp⟩

end Go.Proofs.YtdndfbamhnchfaaDoor
set_option linter.unusedVariables false
set_option linter.unusedSimpArgs false
set_option linter.defProp false
set_option maxRecDepth 100000
set_option maxHeartbeats 0
namespace Go.Proofs.YtdndfbamhnchfaaDoor
open Go.Sy Go.RowKit
abbrev e23A (X : Signal) : List Value := [str X.Name, i6 X.Start, i6 X.Size, .bool X.Back, .bool X.Signed, i6 X.Mul, i6 X.Div, i6 X.Add, i6 X.Key]
theorem irev_fun (u0 : List Int) (ao1 : Option Addr) (cap2 : Nat) (B : Nat) (w0 : World) (Z0 : Fz) (Rr : List Res) (Z : Fz) (w : World) (hM0 : Mem B [] w0 Z0 ((.own t6 3 ao1 cap2 u0) :: Rr) Z w) (hZ : Z.on w) : Calls Tryd.prog 90 #[.slice ao1 u0.length cap2] w fun e w' => ∃ (Z' : Fz), e = .returned (.tuple #[]) ∧ Fz.le Z Z' ∧ ((irevS u0).length = u0.length) ∧ Mem B [] w0 Z0 ((.own t6 3 ao1 cap2 (irevS u0)) :: Rr) Z' w' :=
  (irev_walk u0 ao1 cap2 B w0 Z0 Rr Z w hM0 hZ (irev_ok u0)).mono fun _ _ ⟨r, h0, he, hk, f0, f1, hm⟩ => by subst hk; exact ⟨h0, he, f0, f1, hm⟩

def sgcd_fun (u0 : Int) (u1 : Int) (hpre : (-4611686018427387904 ≤ u0 ∧ u0 ≤ 4611686018427387904) ∧ -4611686018427387904 ≤ u1 ∧ u1 ≤ 4611686018427387904)  (Z : Fz) (w : World)  (hZ : Z.on w) := f_ (sgcd_walk u0 u1  Z w  hZ (sgcd_ok u0 u1 hpre))
def sbounds_fun (u0 : Signal) (hpre : 1 ≤ u0.Size ∧ u0.Size ≤ 40)  (Z : Fz) (w : World)  (hZ : Z.on w) := f_ (sbounds_walk u0  Z w  hZ (sbounds_ok u0 hpre))
def sname_fun (u0 : List UInt8)  (Z : Fz) (w : World)  (hZ : Z.on w) := f_ (sname_walk u0  Z w  hZ (sname_ok u0))
def imax_fun (u0 : List Int) (hpre : 0 < u0.length) (ao1 : Option Addr) (cap2 : Nat) (Z : Fz) (w : World) (hs3 : SlR t6 Z ao1 cap2 u0) (hZ : Z.on w) := f_ (imax_walk u0 ao1 cap2 Z w hs3 hZ (imax_ok u0 hpre))
def imin_fun (u0 : List Int) (hpre : 0 < u0.length) (ao1 : Option Addr) (cap2 : Nat) (Z : Fz) (w : World) (hs3 : SlR t6 Z ao1 cap2 u0) (hZ : Z.on w) := f_ (imin_walk u0 ao1 cap2 Z w hs3 hZ (imin_ok u0 hpre))
def bclone_fun (u0 : List Int) (hpre : u0.length ≤ 140737488355328) (ao1 : Option Addr) (cap2 : Nat) (Z : Fz) (w : World) (hs3 : SlR t8 Z ao1 cap2 u0) (hZ : Z.on w) := fc_ (bclone_walk u0 ao1 cap2 Z w hs3 hZ (bclone_ok u0 hpre))
def beq_fun (u0 : List Int) (u1 : List Int) (ao1 : Option Addr) (cap2 : Nat) (ao4 : Option Addr) (cap5 : Nat) (Z : Fz) (w : World) (hs3 : SlR t8 Z ao1 cap2 u0) (hs6 : SlR t8 Z ao4 cap5 u1) (hZ : Z.on w) := f_ (beq_walk u0 u1 ao1 cap2 ao4 cap5 Z w hs3 hs6 hZ (beq_ok u0 u1))
theorem splaces_walk (u0 : Signal)  (Z : Fz) (w : World)  (hZ : Z.on w) {K : (List Int) → Prop} (hp : splaces_vc u0 K) : Calls Tryd.prog 57 #[.agg #[str u0.Name, i6 u0.Start, i6 u0.Size, .bool u0.Back, .bool u0.Signed, i6 u0.Mul, i6 u0.Div, i6 u0.Add, i6 u0.Key]] w fun e w' => ∃ (r : (List Int)) (ao1001 : Option Addr) (cap1002 : Nat) (Z' : Fz), e = .returned (.slice ao1001 r.length cap1002) ∧ K r ∧ Mem w.heap.size [] w Z [.own t6 3 ao1001 cap1002 r] Z' w' := by
 refine enter0 Tryd.func57 rfl rfl (by kernel_rfl) ?_; intro a0 G; have H := Mem.start w Z hZ
 refine sqH ?_; intro ax J
 refine nw G H pb (e23A u0) 23 ?_; intro i a3 ay L k
 refine s1 L 2 (.slice none 0 0) ?_; intro a7 M
 apply J
 refine sqB M k [] [] [(3, .slice none 0 0)] ?_; intro aW N
 refine sqB N k [0] [] [(4, i6 u0.Start)] ?_; intro aX O
 refine s_ (sqB O k [0] [] [(8, i6 u0.Size), (9, i6 0)] ?_); intro P Q
 apply b_
 have R : Fr 35 [] [⟨1, [], pt i 0⟩, ⟨3, [], .slice none 0 0⟩, ⟨4, [], i6 u0.Start⟩, ⟨8, [], i6 u0.Size⟩, ⟨9, [], i6 0⟩] P := Q.reg
 have S : Mem w.heap.size [] w Z [.own t6 3 none 0 ([] : List Int), .row i (e23A u0) 23] Z ay := k.addNil t6 3 (by decide)
 have U : Fr 35 [] [⟨1, [], pt i 0⟩, ⟨3, [], .slice none ([] : List Int).length 0⟩, ⟨4, [], i6 u0.Start⟩, ⟨8, [], i6 u0.Size⟩, ⟨9, [], i6 0⟩] P := R.reg
 obtain ⟨az, aA, aB, aC⟩ := hp
 refine lp (ι := (List Int) × Int × Int × (Option Addr) × Nat) (fun s => [⟨1, [], pt i 0⟩, ⟨3, [], .slice s.2.2.2.1 s.1.length s.2.2.2.2⟩, ⟨4, [], i6 s.2.1⟩, ⟨8, [], i6 u0.Size⟩, ⟨9, [], i6 s.2.2.1⟩]) (fun s => [.own t6 3 s.2.2.2.1 s.2.2.2.2 s.1, .row i (e23A u0) 23]) (fun s => Z) (fun s => az s.1 s.2.1 s.2.2.1) (fun s => aA s.1 s.2.1 s.2.2.1) ⟨([] : List Int), u0.Start, 0, none, 0⟩ aB (by exact U.region (by kernel_rfl) (by kernel_rfl)) (by exact S) ?_
 rintro ⟨a, c, g, d, f⟩ aD aE aF V W
 have u := aC a c g aD
 refine sqB V W [] [] [(10, .bool (decide (g < u0.Size)))] ?_; intro aY l
 apply s_
 refine cd l (t := decide (g < u0.Size)) (by kernel_rfl) (fun A => ?_) (fun A => ?_)
 · -- yes
  have aG := u.1 A
  refine k_ (s_ (b_ (sqH ?_))); intro aH Y
  refine bt l W 2 [] [] [(11, .slice d a.length f), (12, i6 c)] ?_; intro aZ aa
  refine nw aa W (fun b => .slice (sm b) 1 1) [i6 c] 3 ?_; intro ab a1 a2 ac B
  obtain ⟨aI, v⟩ := aG
  refine ap ac B 1 (T := t6) (xs := a) (ys := [c]) (ao := d) (cap := f) (ao2 := (sm ab)) (cap2 := 1) (t := 43) (e := 3) (bytes := 8) (nog rfl _) rfl (by kernel_rfl) rfl (by kernel_rfl) (by kernel_rfl) (by kernel_rfl) rfl (Src.row B 0 rfl (RepAll.one (T := t6) (x := c) rfl)) aI ?_; intro m n a4 aJ a5 ad ae
  have h : Mem w.heap.size [] w Z [.row ab [i6 c] 3, .own t6 3 m n (a ++ [c]), .row i (e23A u0) 23] Z aJ := ae
  refine s1 ad 3 (.slice m (a ++ [c]).length n) ?_; intro a6 af
  apply Y
  refine b_ (sqB af h [2] [] [(17, .bool (!u0.Back))] ?_); intro a8 o
  refine cd o (t := !u0.Back) (by kernel_rfl) (fun C => ?_) (fun C => ?_)
  · -- yes
   have ag := v.1 C
   refine rgB o h [] [] [(4, i6 (w64 (c + 1)))] ?_; intro a9 ah
   refine j_ (j_ (t_ (rgB ah h [] [] [(9, i6 (w64 (g + 1)))] ?_))); intro ba aK
   exact d_ ⟨⟨a ++ [c], w64 (c + 1), w64 (g + 1), m, n⟩, ag.1, ag.2, (aK.region (by kernel_rfl) (by kernel_rfl)).anyβ _ (by kernel_rfl), h.kp⟩
  · -- no
   have y := v.2 C
   refine sqB o h [] [] [(23, .bool ((c.tmod 8) == 0))] ?_; intro bb p
   refine cd p (t := (c.tmod 8) == 0) (by kernel_rfl) (fun D => ?_) (fun D => ?_)
   · -- yes
    have ai := y.1 D
    refine rgB p h [] [] [(4, i6 (w64 (c + 15)))] ?_; intro bc aj
    refine j_ (j_ (t_ (rgB aj h [] [] [(9, i6 (w64 (g + 1)))] ?_))); intro bd aL
    exact d_ ⟨⟨a ++ [c], w64 (c + 15), w64 (g + 1), m, n⟩, ai.1, ai.2, (aL.region (by kernel_rfl) (by kernel_rfl)).anyβ _ (by kernel_rfl), h.kp⟩
   · -- no
    have ak := y.2 D
    refine rgB p h [] [] [(4, i6 (w64 (c - 1)))] ?_; intro be al
    refine j_ (j_ (t_ (rgB al h [] [] [(9, i6 (w64 (g + 1)))] ?_))); intro bf aM
    exact d_ ⟨⟨a ++ [c], w64 (c - 1), w64 (g + 1), m, n⟩, ak.1, ak.2, (aM.region (by kernel_rfl) (by kernel_rfl)).anyβ _ (by kernel_rfl), h.kp⟩
 · -- no
  have z := u.2 A
  refine x_ (y_ (y_ (z_ (t_ (s_ (sqB l W [1] [] [(31, .bool u0.Back)] ?_)))))); intro bg q
  refine cd q (t := u0.Back) (by kernel_rfl) (fun E => ?_) (fun E => ?_)
  · -- yes
   have am := z.1 E
   refine rgH ?_; intro aN an
   refine s1 q 32 (.slice d a.length f) ?_; intro bh aq
   refine ck aq 90 #[.slice d a.length f] ?_
   refine (irev_fun a d f _ _ _ _ _ _ W W.fz).mono ?_; rintro _ aO ⟨ar, rfl, aP, aQ, hm⟩; refine ⟨_, rfl, ?_⟩; intro aR au; have av := hm
   have aw : Fr 35 [] [⟨1, [], pt i 0⟩, ⟨3, [], .slice d (irevS a).length f⟩, ⟨4, [], i6 c⟩, ⟨8, [], i6 u0.Size⟩, ⟨9, [], i6 g⟩, ⟨10, [], .bool (decide (g < u0.Size))⟩, ⟨31, [], .bool u0.Back⟩, ⟨32, [], .slice d (irevS a).length f⟩, ⟨33, [], .tuple #[]⟩] aR := by rw [aQ]; exact au.region (by kernel_rfl) (by kernel_rfl)
   have F : Mem w.heap.size [] w Z [.own t6 3 d f (irevS a), .row i (e23A u0) 23] ar aO := av
   have aS := am (F.ownSmall 0 rfl)
   apply an
   refine t_ (sqB aw F [] [] [(2, .slice d (irevS a).length f)] ?_); intro bi aT
   exact r_ (ra1 aT (.slice d (irevS a).length f) ⟨(irevS a), d, f, ar, rfl, aS, F.kp⟩)
  · -- no
   have aU := z.2 E
   refine k_ (sqB q W [] [] [(2, .slice d a.length f)] ?_); intro bj aV
   exact r_ (ra1 aV (.slice d a.length f) ⟨a, d, f, Z, rfl, aU, W.kp⟩)

theorem smean_walk (u0 : Signal) (u1 : Int)  (Z : Fz) (w : World)  (hZ : Z.on w) {K : Reading → Prop} (hp : smean_vc u0 u1 K) : Calls Tryd.prog 36 #[.agg #[str u0.Name, i6 u0.Start, i6 u0.Size, .bool u0.Back, .bool u0.Signed, i6 u0.Mul, i6 u0.Div, i6 u0.Add, i6 u0.Key], i6 u1] w fun e w' => ∃ r : Reading, e = .returned (.agg #[str r.Name, i6 r.Num, i6 r.Den]) ∧ K r ∧ Below w.heap.size w w' := by
 refine enter0 Tryd.func36 rfl rfl (by kernel_rfl) ?_; intro a0 o; have p := Mem.start w Z hZ
 refine sqH ?_; intro X q
 refine nw o p pb (e23A u0) 23 ?_; intro a a3 ao s t
 refine nw s t pb [str [], i6 0, i6 0] 26 ?_; intro c Y ap u x
 apply q
 have y : Fr 32 [] [⟨1, [], i6 u1⟩, ⟨2, [], pt a 0⟩, ⟨4, [], pt c 0⟩] Y := u.reg
 refine sqQH mixed (by kernel_rfl) x ?_; intro aa z
 refine q1 y 8 (i6 u1) ?_; intro aq A
 refine q1 A 9 (pt a 5) ?_; intro ar f
 refine ql_ f 1 5 (i6 u0.Mul) rfl rfl ?_; intro au B
 refine q1 B 11 (i6 (w64 (u1 * u0.Mul))) ?_; intro av C
 refine q1 C 12 (pt a 7) ?_; intro aw h
 refine ql_ h 1 7 (i6 u0.Add) rfl rfl ?_; intro ax D
 refine q1 D 14 (pt a 6) ?_; intro ay i
 refine ql_ i 1 6 (i6 u0.Div) rfl rfl ?_; intro az E
 refine q1 E 16 (i6 (w64 (u0.Add * u0.Div))) ?_; intro aA F
 refine q1 F 17 (i6 (w64 ((w64 (u1 * u0.Mul)) + (w64 (u0.Add * u0.Div))))) ?_; intro aB G
 refine q1 G 18 (pt a 6) ?_; intro aC j
 refine ql_ j 1 6 (i6 u0.Div) rfl rfl ?_; intro aD H
 refine q1 H 5 (i6 (w64 ((w64 (u1 * u0.Mul)) + (w64 (u0.Add * u0.Div))))) ?_; intro aE I
 refine q1 I 6 (i6 u0.Div) ?_; intro aF J
 refine qnl (z _ ?_); intro aG d
 refine sqH ?_; intro ab L
 refine bt J d 2 [] [] [(20, i6 (w64 ((w64 (u1 * u0.Mul)) + (w64 (u0.Add * u0.Div))))), (21, i6 u0.Div)] ?_; intro aH M
 obtain ⟨ac, ae⟩ := hp
 refine fc M d (sgcd_fun (w64 ((w64 (u1 * u0.Mul)) + (w64 (u0.Add * u0.Div)))) u0.Div ac _ _ d.fz) ?_; intro aI aJ N O
 refine s1 N 7 (i6 (ngcd (w64 ((w64 (u1 * u0.Mul)) + (w64 (u0.Add * u0.Div)))) u0.Div)) ?_; intro af P
 apply L
 have Q : Fr 32 [] [⟨2, [], pt a 0⟩, ⟨4, [], pt c 0⟩, ⟨5, [], i6 (w64 ((w64 (u1 * u0.Mul)) + (w64 (u0.Add * u0.Div))))⟩, ⟨6, [], i6 u0.Div⟩, ⟨7, [], i6 (ngcd (w64 ((w64 (u1 * u0.Mul)) + (w64 (u0.Add * u0.Div)))) u0.Div)⟩] af := P.reg
 refine wp_seq (rgS mixed O [(0, true), (1, true), (2, true), (3, true), (5, true), (6, true), (4, true), (7, true), (8, true), (9, false)] [9] [1] [.row a (e23A u0) 23] ?_)
 intro ag R aK S
 refine cS Q 6 [0] [] [(24, str u0.Name), (25, i6 (w64 ((w64 (u1 * u0.Mul)) + (w64 (u0.Add * u0.Div))))), (26, i6 (ngcd (w64 ((w64 (u1 * u0.Mul)) + (w64 (u0.Add * u0.Div)))) u0.Div)), (28, i6 u0.Div), (29, i6 (ngcd (w64 ((w64 (u1 * u0.Mul)) + (w64 (u0.Add * u0.Div)))) u0.Div))] ?_; intro aM l
 obtain ⟨ah, ai⟩ := ae
 refine cst rfl l (i6 (w64 ((w64 ((w64 (u1 * u0.Mul)) + (w64 (u0.Add * u0.Div)))).tdiv (ngcd (w64 ((w64 (u1 * u0.Mul)) + (w64 (u0.Add * u0.Div)))) u0.Div)))) (nog rfl _) rfl (by kernel_rfl) (fun v88 hC => quo_run l (g := []) rfl (by kernel_rfl) (by kernel_rfl) ah rfl) ?_; intro aN m
 obtain ⟨aj, ak⟩ := ai
 refine cst rfl m (i6 (w64 (u0.Div.tdiv (ngcd (w64 ((w64 (u1 * u0.Mul)) + (w64 (u0.Add * u0.Div)))) u0.Div)))) (nog rfl _) rfl (by kernel_rfl) (fun v93 hC => quo_run m (g := []) rfl (by kernel_rfl) (by kernel_rfl) aj rfl) ?_; intro aO T
 refine cS T 1 [] [] [(31, .agg #[str u0.Name, i6 (w64 ((w64 ((w64 (u1 * u0.Mul)) + (w64 (u0.Add * u0.Div)))).tdiv (ngcd (w64 ((w64 (u1 * u0.Mul)) + (w64 (u0.Add * u0.Div)))) u0.Div))), i6 (w64 (u0.Div.tdiv (ngcd (w64 ((w64 (u1 * u0.Mul)) + (w64 (u0.Add * u0.Div)))) u0.Div)))])] ?_; intro aP n
 refine eL rfl ?_; intro al U
 refine sx n S 0 [str u0.Name, i6 (w64 ((w64 ((w64 (u1 * u0.Mul)) + (w64 (u0.Add * u0.Div)))).tdiv (ngcd (w64 ((w64 (u1 * u0.Mul)) + (w64 (u0.Add * u0.Div)))) u0.Div))), i6 (w64 (u0.Div.tdiv (ngcd (w64 ((w64 (u1 * u0.Mul)) + (w64 (u0.Add * u0.Div)))) u0.Div)))] 0 ?_; intro am V
 have W : Mem w.heap.size [] w Z [.row c [str u0.Name, i6 (w64 ((w64 ((w64 (u1 * u0.Mul)) + (w64 (u0.Add * u0.Div)))).tdiv (ngcd (w64 ((w64 (u1 * u0.Mul)) + (w64 (u0.Add * u0.Div)))) u0.Div))), i6 (w64 (u0.Div.tdiv (ngcd (w64 ((w64 (u1 * u0.Mul)) + (w64 (u0.Add * u0.Div)))) u0.Div)))] 26, .row a (e23A u0) 23] Z am := V
 refine nl (qnI (U _ _ ?_))
 refine nS (R _ _ ?_)
 refine t_ (r_ (rt (fn := Tryd.f36) (v := .agg #[str u0.Name, i6 (w64 ((w64 ((w64 (u1 * u0.Mul)) + (w64 (u0.Add * u0.Div)))).tdiv (ngcd (w64 ((w64 (u1 * u0.Mul)) + (w64 (u0.Add * u0.Div)))) u0.Div))), i6 (w64 (u0.Div.tdiv (ngcd (w64 ((w64 (u1 * u0.Mul)) + (w64 (u0.Add * u0.Div)))) u0.Div)))]) n (re1c n (fn := Tryd.f36) rfl (ad := ⟨c, 0, none⟩) (by kernel_rfl) (loadVar_run W 0 (b := c) (k := 3) (vs := [str u0.Name, i6 (w64 ((w64 ((w64 (u1 * u0.Mul)) + (w64 (u0.Add * u0.Div)))).tdiv (ngcd (w64 ((w64 (u1 * u0.Mul)) + (w64 (u0.Add * u0.Div)))) u0.Div))), i6 (w64 (u0.Div.tdiv (ngcd (w64 ((w64 (u1 * u0.Mul)) + (w64 (u0.Add * u0.Div)))) u0.Div)))]) (ty := 26) rfl (by kernel_rfl) (by kernel_rfl)) ) ?_))
 exact ⟨(⟨u0.Name, w64 ((w64 ((w64 (u1 * u0.Mul)) + (w64 (u0.Add * u0.Div)))).tdiv (ngcd (w64 ((w64 (u1 * u0.Mul)) + (w64 (u0.Add * u0.Div)))) u0.Div)), w64 (u0.Div.tdiv (ngcd (w64 ((w64 (u1 * u0.Mul)) + (w64 (u0.Add * u0.Div)))) u0.Div))⟩ : Reading), rfl, ak, W.below⟩

end Go.Proofs.YtdndfbamhnchfaaDoor
set_option linter.unusedVariables false
set_option linter.unusedSimpArgs false
set_option linter.defProp false
set_option maxRecDepth 100000
set_option maxHeartbeats 0
namespace Go.Proofs.YtdndfbamhnchfaaDoor
open Go.Sy Go.RowKit
abbrev e23B (X : Signal) : List Value := [str X.Name, i6 X.Start, i6 X.Size, .bool X.Back, .bool X.Signed, i6 X.Mul, i6 X.Div, i6 X.Add, i6 X.Key]
def splaces_fun (u0 : Signal) (hpre : (0 ≤ u0.Start ∧ u0.Start ≤ 512) ∧ 1 ≤ u0.Size ∧ u0.Size ≤ 40)  (Z : Fz) (w : World)  (hZ : Z.on w) := fc_ (splaces_walk u0  Z w  hZ (splaces_ok u0 hpre))
def smean_fun (u0 : Signal) (u1 : Int) (hpre : factS u0 ∧ -1099511627776 ≤ u1 ∧ u1 ≤ 1099511627776)  (Z : Fz) (w : World)  (hZ : Z.on w) := f_ (smean_walk u0 u1  Z w  hZ (smean_ok u0 u1 hpre))
theorem scheck_walk (u0 : Signal) (u1 : Int)  (Z : Fz) (w : World)  (hZ : Z.on w) {K : Int → Prop} (hp : scheck_vc u0 u1 K) : Calls Tryd.prog 19 #[.agg #[str u0.Name, i6 u0.Start, i6 u0.Size, .bool u0.Back, .bool u0.Signed, i6 u0.Mul, i6 u0.Div, i6 u0.Add, i6 u0.Key], i6 u1] w fun e w' => ∃ r : Int, e = .returned (i6 r) ∧ K r ∧ Below w.heap.size w w' := by
 refine enter0 Tryd.func19 rfl rfl (by kernel_rfl) ?_; intro a0 O; have P := Mem.start w Z hZ
 refine sqH ?_; intro an Q
 refine nw O P pb (e23B u0) 23 ?_; intro R a3 aS S q
 refine s1 S 4 (i6 0) ?_; intro a7 T
 apply Q
 refine s_ (b_ (sqH ?_)); intro ao U
 refine bt T q 2 [0] [] [(8, str u0.Name)] ?_; intro aT V
 refine fc V q (sname_fun u0.Name _ _ q.fz) ?_; intro aU aV W a
 refine bt W a 2 [] [] [(6, .bool (!(nameS u0.Name)))] ?_; intro aW h
 apply U
 refine c_ h hp (fun _ ap => ?_) fun _ s => ?_
 ·
  refine sqB h a [] [] [(4, i6 1)] ?_; intro aX aq
  exact r_ (i_ (h_ (ra1 aq (i6 1) ⟨1, rfl, ap, a.below⟩)))
 refine sqB h a [0, 0] [] [(11, .bool ((((decide (u1 < 0)) || (decide (u1 > 64))) || (decide (u0.Size < 1))) || (decide (u0.Size > 40))))] ?_; intro aY i
 refine c_ i s (fun _ ar => ?_) fun _ u => ?_
 ·
  refine sqB i a [] [] [(4, i6 3)] ?_; intro aZ au
  exact r_ (i_ (h_ (ra1 au (i6 3) ⟨3, rfl, ar, a.below⟩)))
 refine sqB i a [0, 0, 0, 0, 0, 0, 0, 0] [] [(28, .bool (((((((u0.Mul == 0) || (decide ((max u0.Mul (w64 (0 - u0.Mul))) > 1000000))) || (decide (u0.Mul < (-1000000)))) || (decide (u0.Div < 1))) || (decide (u0.Div > 1000000))) || (decide (u0.Add > 1000000))) || (decide (u0.Add < (-1000000)))))] ?_; intro a1 j
 refine c_ j u (fun _ av => ?_) fun _ x => ?_
 ·
  refine sqB j a [] [] [(4, i6 3)] ?_; intro a2 aw
  exact r_ (i_ (h_ (ra1 aw (i6 3) ⟨3, rfl, av, a.below⟩)))
 refine sqB j a [0, 0] [] [(66, .bool ((decide (u0.Key < (-1))) || (decide (u0.Key > 255))))] ?_; intro a4 k
 refine c_ k x (fun _ ax => ?_) fun _ y => ?_
 ·
  refine sqB k a [] [] [(4, i6 3)] ?_; intro a5 ay
  exact r_ (i_ (h_ (ra1 ay (i6 3) ⟨3, rfl, ax, a.below⟩)))
 refine sqB k a [0, 0] [] [(75, .bool ((decide (u0.Start < 0)) || (decide (u0.Start ≥ (w64 (8 * u1))))))] ?_; intro a6 l
 refine c_ l y (fun _ az => ?_) fun _ aB => ?_
 ·
  refine sqB l a [] [] [(4, i6 7)] ?_; intro a8 aA
  exact r_ (i_ (h_ (ra1 aA (i6 7) ⟨7, rfl, az, a.below⟩)))
 refine l_ (j_ (t_ (s_ (sqH ?_)))); intro aC X
 refine l2 l a 86 0 0 9 (e23B u0) rfl rfl ?_; intro a9 Y
 obtain ⟨aD, aa⟩ := aB
 refine ck Y 57 #[.agg (e23B u0).toArray] ?_
 refine (splaces_fun u0 aD _ _ a.fz).mono ?_; rintro _ ab ⟨b, f, aE, rfl, hm⟩; refine ⟨_, rfl, ?_⟩; intro ba ac; have ad := a.callZ hm
 have ae : Mem w.heap.size [] w Z [.own t6 3 b f (placesS u0), .row R (e23B u0) 23] aE ab := ad
 have aG := aa (ae.ownSmall 0 rfl)
 refine s1 ac 5 (.slice b (placesS u0).length f) ?_; intro bb af
 apply X
 refine sqH ?_; intro ag z
 refine s1 af 88 (.slice b (placesS u0).length f) ?_; intro bc ah
 obtain ⟨aH, aI, ai, aj⟩ := ae.freeze 0 rfl
 have J : Mem w.heap.size [] w Z [.row R (e23B u0) 23] aH ab := ai
 obtain ⟨aJ, A⟩ := aG
 refine fc ah J (imax_fun (placesS u0) aJ b f _ _ aj J.fz) ?_; intro bd be ak g
 refine bt ak g 4 [] [] [(93, .bool (decide ((maxL (placesS u0)) ≥ (w64 (8 * u1)))))] ?_; intro bf B
 refine e_ A (fun m aK => ?_) fun m aM => ?_
 ·
  have al := B.reval (d := 93) (c := []) (v := .bool (decide ((maxL (placesS u0)) ≥ (w64 (8 * u1))))) (by kernel_rfl) (.bool true) (by rw [m])
  refine bt al g 4 [] [94, 95, 96, 97] [(97, .bool true)] ?_; intro bg L
  apply z
  refine cdT L (by kernel_rfl) ?_
  refine sqB L g [] [] [(4, i6 7)] ?_; intro bh aL
  exact r_ (h_ (ra1 aL (i6 7) ⟨7, rfl, aK, g.below⟩))
 have C := B.reval (d := 93) (c := []) (v := .bool (decide ((maxL (placesS u0)) ≥ (w64 (8 * u1))))) (by kernel_rfl) (.bool false) (by rw [m])
 refine g_ C false (.slice b (placesS u0).length f) ?_; intro bi M
 obtain ⟨aN, D⟩ := aM
 refine fcl M g (i6 (minL (placesS u0))) 59 #[.slice b (placesS u0).length f] (wK M false) rfl (by kernel_rfl) (fun _ => by kernel_rfl) (imin_fun (placesS u0) aN b f _ _ aj g.fz) ?_; intro bj bk am n
 refine bt am n 2 [] [96, 97] [(97, .bool (decide ((minL (placesS u0)) < 0)))] ?_; intro bl o
 apply z
 refine c_ o D (fun _ aO => ?_) fun _ aQ => ?_
 ·
  refine sqB o n [] [] [(4, i6 7)] ?_; intro bm aP
  exact r_ (h_ (ra1 aP (i6 7) ⟨7, rfl, aO, n.below⟩))
 refine k_ (sqB o n [] [] [(4, i6 0)] ?_); intro bn aR
 exact r_ (ra1 aR (i6 0) ⟨0, rfl, aQ, n.below⟩)

theorem sget_walk (u0 : Signal) (u1 : List Int) (ao1 : Option Addr) (cap2 : Nat) (Z : Fz) (w : World) (hs3 : SlR t8 Z ao1 cap2 u1) (hZ : Z.on w) {K : Int → Prop} (hp : sget_vc u0 u1 K) : Calls Tryd.prog 35 #[.agg #[str u0.Name, i6 u0.Start, i6 u0.Size, .bool u0.Back, .bool u0.Signed, i6 u0.Mul, i6 u0.Div, i6 u0.Add, i6 u0.Key], .slice ao1 u1.length cap2] w fun e w' => ∃ r : Int, e = .returned (i6 r) ∧ K r ∧ Below w.heap.size w w' := by
 refine enter0 Tryd.func35 rfl rfl (by kernel_rfl) ?_; intro a0 M; have N := Mem.start w Z hZ
 have aJ := hp (hs3.small)
 refine sqH ?_; intro aK O
 refine nw M N pb (e23B u0) 23 ?_; intro i a7 bu P l
 refine s1 P 4 (i6 0) ?_; intro bv Q
 apply O
 refine sqB Q l [] [] [(5, i6 0)] ?_; intro bw R
 refine s_ (sqH ?_); intro aL S
 refine l2 R l 8 0 0 9 (e23B u0) rfl rfl ?_; intro bx U
 obtain ⟨aM, V⟩ := aJ
 refine ck U 57 #[.agg (e23B u0).toArray] ?_
 refine (splaces_fun u0 aM _ _ l.fz).mono ?_; rintro _ W ⟨m, n, aN, rfl, hm⟩; refine ⟨_, rfl, ?_⟩; intro bz X; have Y := l.callZ hm; have aa := hm.ext.le
 replace hs3 := hs3.mono aa
 have D : Mem w.heap.size [] w Z [.own t6 3 m n (placesS u0), .row i (e23B u0) 23] aN W := Y
 have aO := V (D.ownSmall 0 rfl)
 refine bt X D 2 [] [] [(10, i6 ((placesS u0).length : Int)), (11, i6 0)] ?_; intro ab ac
 apply S
 apply b_
 have ad : Fr 47 [] [⟨1, [], .slice ao1 u1.length cap2⟩, ⟨2, [], pt i 0⟩, ⟨5, [], i6 0⟩, ⟨9, [], .slice m (placesS u0).length n⟩, ⟨10, [], i6 ((placesS u0).length : Int)⟩, ⟨11, [], i6 0⟩] ab := ac.reg
 obtain ⟨E, ae, af, aP⟩ := D.freeze 0 rfl
 replace hs3 := hs3.mono ae
 have ag : Mem w.heap.size [] w Z [.row i (e23B u0) 23] E W := af
 have ah : Fr 47 [] [⟨1, [], .slice ao1 u1.length cap2⟩, ⟨2, [], pt i 0⟩, ⟨5, [], i6 0⟩, ⟨9, [], .slice m (placesS u0).length n⟩, ⟨10, [], i6 ((placesS u0).length : Int)⟩, ⟨11, [], i6 0⟩] ab := ad.reg
 obtain ⟨aQ, aR, aS, aT⟩ := aO
 refine lp (ι := Int × Int) (fun s => [⟨1, [], .slice ao1 u1.length cap2⟩, ⟨2, [], pt i 0⟩, ⟨5, [], i6 s.1⟩, ⟨9, [], .slice m (placesS u0).length n⟩, ⟨10, [], i6 ((placesS u0).length : Int)⟩, ⟨11, [], i6 s.2⟩]) (fun s => [.row i (e23B u0) 23]) (fun s => E) (fun s => aQ s.1 s.2) (fun s => aR s.1 s.2) ⟨0, 0⟩ aS (by exact ah.reg) (by exact ag) ?_
 rintro ⟨b, f⟩ aU aV aW ai aj
 have x := aT b f aU
 refine sqB ai aj [] [] [(12, .bool (decide (f < ((placesS u0).length : Int))))] ?_; intro bA o
 refine s_ (c_ o x (fun _ aX => ?_) fun _ y => ?_)
 ·
  refine k_ (s_ (b_ (sqH ?_))); intro aY al
  refine s1 o 13 (i6 f) ?_; intro bB am
  obtain ⟨aZ, an⟩ := aX
  refine ix_ am aP f aZ .i64 3 8 ?_; intro bC bD a1 h bE a2 a3 a4 ao
  have a5 := an h a2
  obtain rfl : a1 = ([i6 h] : List Value) := a4
  refine z1 ao aj 15 a3 0 (i6 h) rfl ?_; intro bF ap
  refine bt ap aj 2 [] [] [(6, i6 f), (7, i6 h)] ?_; intro bG aq
  apply al
  refine rgH ?_; intro a6 ar
  refine bt aq aj 4 [] [] [(16, i6 b), (17, .slice ao1 u1.length cap2), (19, i6 (w64 (h.tdiv 8)))] ?_; intro bH au
  obtain ⟨a8, av⟩ := a5
  refine ix_ au hs3 (w64 (h.tdiv 8)) a8 .i64 5 1 ?_; intro bI bJ a9 j bK ba bb bc aw
  have bd := av j ba
  obtain rfl : a9 = ([y8 j] : List Value) := bc
  refine z1 aw aj 21 bb 0 (y8 j) rfl ?_; intro bL ax
  refine bt ax aj 2 [] [] [(23, i6 (h.tmod 8))] ?_; intro bM G
  obtain ⟨be, bf⟩ := bd
  refine u_ G (y8 (bShr .u8 j (h.tmod 8))) (shr_run G (g := []) (k' := .i64) rfl (by kernel_rfl) (by kernel_rfl) be rfl) ?_; intro bN ay
  refine bt ay aj 3 [] [] [(26, i6 (w64 (bAnd .u8 (bShr .u8 j (h.tmod 8)) 1))), (27, i6 f)] ?_; intro bO H
  obtain ⟨bg, az⟩ := bf
  refine u_ H (i6 (bShl .i64 (w64 (bAnd .u8 (bShr .u8 j (h.tmod 8)) 1)) f)) (shl_run H (g := []) (k' := .i64) rfl (by kernel_rfl) (by kernel_rfl) bg rfl) ?_; intro bP aA
  refine bt aA aj 2 [] [] [(5, i6 (bOr .i64 b (bShl .i64 (w64 (bAnd .u8 (bShr .u8 j (h.tmod 8)) 1)) f)))] ?_; intro bQ aB
  apply ar
  refine j_ (t_ (rgB aB aj [] [] [(11, i6 (w64 (f + 1)))] ?_)); intro bR bh
  exact d_ ⟨⟨bOr .i64 b (bShl .i64 (w64 (bAnd .u8 (bShr .u8 j (h.tmod 8)) 1)) f), w64 (f + 1)⟩, az.1, az.2, (bh.reg).anyβ _ (by kernel_rfl), aj.kp⟩
 refine x_ (y_ (y_ (z_ (t_ (s_ (sqH ?_)))))); intro aC z
 refine bt o aj 3 [0] [] [(33, .bool u0.Signed)] ?_; intro bS A
 refine e_ y (fun p bi => ?_) fun p br => ?_
 ·
  have aD := A.reval (d := 33) (c := []) (v := .bool u0.Signed) (by kernel_rfl) (.bool true) (by rw [p])
  refine bt aD aj 4 [0] [34, 35, 36, 37] [(34, i6 b), (37, i6 (w64 (u0.Size - 1)))] ?_; intro bT B
  obtain ⟨bj, C⟩ := bi
  refine v_ B (i6 (bShr .i64 b (w64 (u0.Size - 1)))) (wK B true) (shr_run B (g := []) (k' := .i64) rfl (by kernel_rfl) (by kernel_rfl) bj rfl) ?_; intro bU aE
  refine bt aE aj 2 [] [39, 40] [(40, .bool ((bShr .i64 b (w64 (u0.Size - 1))) == 1))] ?_; intro bV q
  apply z
  refine c_ q C (fun _ bk => ?_) fun _ bp => ?_
  ·
   refine rgH ?_; intro bl aF
   refine bt q aj 3 [0] [] [(41, i6 b), (43, i6 u0.Size)] ?_; intro bW J
   obtain ⟨bm, bn⟩ := bk
   refine u_ J (i6 (bShl .i64 1 u0.Size)) (shl_run J (g := []) (k' := .i64) rfl (by kernel_rfl) (by kernel_rfl) bm rfl) ?_; intro bX aG
   refine bt aG aj 2 [] [] [(5, i6 (w64 (b - (bShl .i64 1 u0.Size))))] ?_; intro bY aH
   apply aF
   refine t_ (sqB aH aj [] [] [(4, i6 (w64 (b - (bShl .i64 1 u0.Size))))] ?_); intro bZ bo
   exact r_ (ra1 bo (i6 (w64 (b - (bShl .i64 1 u0.Size)))) ⟨w64 (b - (bShl .i64 1 u0.Size)), rfl, bn, aj.below⟩)
  refine k_ (sqB q aj [] [] [(4, i6 b)] ?_); intro b0 bq
  exact r_ (ra1 bq (i6 b) ⟨b, rfl, bp, aj.below⟩)
 have aI := A.reval (d := 33) (c := []) (v := .bool u0.Signed) (by kernel_rfl) (.bool false) (by rw [p])
 refine bt aI aj 7 [] [34, 35, 36, 37, 38, 39, 40] [(40, .bool false)] ?_; intro b1 L
 apply z
 refine cdF L (by kernel_rfl) ?_
 refine k_ (sqB L aj [] [] [(4, i6 b)] ?_); intro b2 bs
 exact r_ (ra1 bs (i6 b) ⟨b, rfl, br, aj.below⟩)

theorem sputd_walk (u0 : Signal) (u1 : List Int) (u2 : Int) (ao1 : Option Addr) (cap2 : Nat) (B : Nat) (w0 : World) (Z0 : Fz) (Rr : List Res) (Z : Fz) (w : World) (hM0 : Mem B [] w0 Z0 ((.own t8 5 ao1 cap2 u1) :: Rr) Z w) (hZ : Z.on w) {K : (List Int) → Prop} (hp : sputd_vc u0 u1 u2 K) : Calls Tryd.prog 47 #[.agg #[str u0.Name, i6 u0.Start, i6 u0.Size, .bool u0.Back, .bool u0.Signed, i6 u0.Mul, i6 u0.Div, i6 u0.Add, i6 u0.Key], .slice ao1 u1.length cap2, i6 u2] w fun e w' => ∃ (r : (List Int)) (Z' : Fz), e = .returned (.tuple #[]) ∧ K r ∧ Fz.le Z Z' ∧ (r.length = u1.length) ∧ Mem B [] w0 Z0 ((.own t8 5 ao1 cap2 r) :: Rr) Z' w' := by
 refine enter0 Tryd.func47 rfl rfl (by kernel_rfl) ?_; intro a0 be; have l := Fz.le.refl Z
 have bO := hp (hM0.ownSmall 0 rfl)
 refine sqH ?_; intro bP bf
 refine nw be hM0 pb (e23B u0) 23 ?_; intro z a6 dm bg a7
 apply bf
 refine sqH ?_; intro bQ bh
 refine l2 bg a7 8 0 0 9 (e23B u0) rfl rfl ?_; intro dn bi
 obtain ⟨bR, bj⟩ := bO
 refine ck bi 57 #[.agg (e23B u0).toArray] ?_
 refine (splaces_fun u0 bR _ _ a7.fz).mono ?_; rintro _ bk ⟨aV, aW, bS, rfl, hm⟩; refine ⟨_, rfl, ?_⟩; intro dp bl; have bm := a7.callZ hm; have bT := hm.ext.le
 replace l := Fz.le.trans l bT
 have ba : Mem B [] w0 Z0 ((.own t6 3 aV aW (placesS u0)) :: (.row z (e23B u0) 23) :: (.own t8 5 ao1 cap2 u1) :: Rr) bS bk := bm
 have bU := bj (ba.ownSmall 0 rfl)
 refine bt bl ba 2 [] [] [(10, i6 ((placesS u0).length : Int)), (11, i6 0)] ?_; intro bn bo
 apply bh
 apply b_
 have bp : Fr 39 [] [⟨1, [], .slice ao1 u1.length cap2⟩, ⟨2, [], i6 u2⟩, ⟨9, [], .slice aV (placesS u0).length aW⟩, ⟨10, [], i6 ((placesS u0).length : Int)⟩, ⟨11, [], i6 0⟩] bn := bo.reg
 obtain ⟨aZ, bV, bq, E⟩ := ba.freeze 0 rfl
 replace l := Fz.le.trans l bV
 have br : Mem B [] w0 Z0 ((.row z (e23B u0) 23) :: (.own t8 5 ao1 cap2 u1) :: Rr) aZ bk := bq
 have bs : Fr 39 [] [⟨1, [], .slice ao1 u1.length cap2⟩, ⟨2, [], i6 u2⟩, ⟨9, [], .slice aV (placesS u0).length aW⟩, ⟨10, [], i6 ((placesS u0).length : Int)⟩, ⟨11, [], i6 0⟩] bn := bp.reg
 obtain ⟨bW, bX, bY, bZ⟩ := bU
 refine lp (ι := Int × (List Int)) (fun s => [⟨1, [], .slice ao1 s.2.length cap2⟩, ⟨2, [], i6 u2⟩, ⟨9, [], .slice aV (placesS u0).length aW⟩, ⟨10, [], i6 ((placesS u0).length : Int)⟩, ⟨11, [], i6 s.1⟩]) (fun s => ((.row z (e23B u0) 23) :: (.own t8 5 ao1 cap2 s.2) :: Rr)) (fun s => aZ) (fun s => bW s.1 s.2) (fun s => bX s.1 s.2) ⟨0, u1⟩ bY (by exact bs.reg) (by exact br) ?_
 rintro ⟨d, j⟩ b0 b1 b2 bu bv
 have a8 := bZ d j b0
 refine sqB bu bv [] [] [(12, .bool (decide (d < ((placesS u0).length : Int))))] ?_; intro dq a4
 refine s_ (c_ a4 a8 (fun _ b3 => ?_) fun _ dj => ?_)
 ·
  refine k_ (s_ (b_ (sqH ?_))); intro b4 bx
  refine s1 a4 13 (i6 d) ?_; intro dr bz
  obtain ⟨b6, bA⟩ := b3
  refine ix_ bz E d b6 .i64 3 8 ?_; intro ds dt b7 b du b8 F b9 bB
  have ca := bA b b8
  obtain rfl : b7 = ([i6 b] : List Value) := b9
  refine z1 bB bv 15 F 0 (i6 b) rfl ?_; intro dv bC
  refine bt bC bv 2 [] [] [(6, i6 d), (7, i6 b)] ?_; intro ad bD
  apply bx
  have cb : Fr 39 [] [⟨1, [], .slice ao1 j.length cap2⟩, ⟨2, [], i6 u2⟩, ⟨6, [], i6 d⟩, ⟨7, [], i6 b⟩, ⟨9, [], .slice aV (placesS u0).length aW⟩, ⟨10, [], i6 ((placesS u0).length : Int)⟩, ⟨11, [], i6 d⟩] ad := bD.reg
  obtain ⟨cc, bE⟩ := ca
  obtain ⟨q, ce, cf⟩ := gxq bE (by omega)
  obtain ⟨cg, ch⟩ := cf
  obtain ⟨ci, cj⟩ := ch
  obtain ⟨cl, cm⟩ := cj
  obtain ⟨cn, bF⟩ := cm
  refine any_invE mixed [[], [], [1], [], [], [4], [3, 5], [6], [], [8], [9], [7, 10], [], [], [12, 13], [14], [15], [], [17], [16, 18], [11, 19], [0, 1, 2, 3, 4, 5, 6, 7, 8, 9, 10, 11, 12, 13, 14, 15, 16, 17, 18, 19, 20], [0, 1, 2, 3, 4, 5, 6, 7, 8, 9, 10, 11, 12, 13, 14, 15, 16, 17, 18, 19, 20, 21]] 23 (fun S a w1 => ∃ (x : Nat) (D : Nat) (O : Value) (ae : Value) (P : Value) (aB : Value) (aH : Value) (aC : Value) (au : Value) (al : Value) (aD : Value) (av : Value) (am : Value) (af : Value) (aI : Value) (aJ : Value) (aE : Value) (aw : Value) (an : Value) (ax : Value) (ao : Value) (ag : Value) (Q : Value) (H : Value) (a9 : Res) (a5 : Res), Fz.le aZ aZ ∧ Fr 39 [] [⟨1, [], .slice ao1 j.length cap2⟩, ⟨2, [], i6 u2⟩, ⟨6, [], i6 d⟩, ⟨7, [], i6 b⟩, ⟨9, [], .slice aV (placesS u0).length aW⟩, ⟨10, [], i6 ((placesS u0).length : Int)⟩, ⟨11, [], i6 d⟩, ⟨16, [], O⟩, ⟨17, [], ae⟩, ⟨18, [], P⟩, ⟨19, [], aB⟩, ⟨20, [], aH⟩, ⟨21, [], aC⟩, ⟨22, [], au⟩, ⟨23, [], al⟩, ⟨24, [], aD⟩, ⟨25, [], av⟩, ⟨26, [], am⟩, ⟨27, [], af⟩, ⟨28, [], aI⟩, ⟨29, [], aJ⟩, ⟨30, [], aE⟩, ⟨31, [], aw⟩, ⟨32, [], an⟩, ⟨33, [], ax⟩, ⟨34, [], ao⟩, ⟨35, [], ag⟩, ⟨36, [], Q⟩, ⟨37, [], H⟩] a ∧ Mem B [] w0 Z0 (a9 :: a5 :: Rr) aZ w1 ∧ (S 0 = true → O = .slice ao1 j.length cap2) ∧ (S 1 = true → ae = i6 b) ∧ (S 2 = true → P = i6 (w64 (b.tdiv 8))) ∧ (S 3 = true → aB = .slice ao1 j.length cap2) ∧ (S 4 = true → aH = i6 b) ∧ (S 5 = true → aC = i6 (w64 (b.tdiv 8))) ∧ (S 6 = true → au = .pointer (some ⟨x, (w64 (b.tdiv 8)).toNat * 1, none⟩)) ∧ (S 7 = true → al = y8 q) ∧ (S 8 = true → aD = i6 b) ∧ (S 9 = true → av = i6 (b.tmod 8)) ∧ (S 10 = true → am = y8 (bShl .u8 1 (b.tmod 8))) ∧ (S 11 = true → af = y8 (bAndNot .u8 q (bShl .u8 1 (b.tmod 8)))) ∧ (S 12 = true → aI = i6 u2) ∧ (S 13 = true → aJ = i6 d) ∧ (S 14 = true → aE = i6 (bShr .i64 u2 d)) ∧ (S 15 = true → aw = i6 (bAnd .i64 (bShr .i64 u2 d) 1)) ∧ (S 16 = true → an = y8 (w8 (bAnd .i64 (bShr .i64 u2 d) 1))) ∧ (S 17 = true → ax = i6 b) ∧ (S 18 = true → ao = i6 (b.tmod 8)) ∧ (S 19 = true → ag = y8 (bShl .u8 (w8 (bAnd .i64 (bShr .i64 u2 d) 1)) (b.tmod 8))) ∧ (S 20 = true → Q = y8 (bOr .u8 (bAndNot .u8 q (bShl .u8 1 (b.tmod 8))) (bShl .u8 (w8 (bAnd .i64 (bShr .i64 u2 d) 1)) (b.tmod 8)))) ∧ (S 21 = true → H = .pointer (some ⟨D, (w64 (b.tdiv 8)).toNat * 1, none⟩)) ∧ (a9 = .row z (e23B u0) 23) ∧ (S 22 = false → a5 = .own t8 5 ao1 cap2 j) ∧ (S 22 = true → a5 = .own t8 5 ao1 cap2 (j.set (w64 (b.tdiv 8)).toNat (bOr .u8 (bAndNot .u8 q (bShl .u8 1 (b.tmod 8))) (bShl .u8 (w8 (bAnd .i64 (bShr .i64 u2 d) 1)) (b.tmod 8))))) ∧ (S 6 = true → ao1 = some ⟨x, 0, none⟩) ∧ (S 21 = true → ao1 = some ⟨D, 0, none⟩)) ?h0 ?hs ?hE
  case h0 =>
   have co := cb.any 16
   have cp := co.any 17
   have cq := cp.any 18
   have cr := cq.any 19
   have cs := cr.any 20
   have ct := cs.any 21
   have cu := ct.any 22
   have cv := cu.any 23
   have cw := cv.any 24
   have cx := cw.any 25
   have cy := cx.any 26
   have cz := cy.any 27
   have cA := cz.any 28
   have cB := cA.any 29
   have cC := cB.any 30
   have cD := cC.any 31
   have cE := cD.any 32
   have cF := cE.any 33
   have cG := cF.any 34
   have cH := cG.any 35
   have cI := cH.any 36
   have cJ := cI.any 37
   have cK := (bv.perm lpr).drew
   exact ⟨0, 0, ad.tmps.getD 16 undef, ad.tmps.getD 17 undef, ad.tmps.getD 18 undef, ad.tmps.getD 19 undef, ad.tmps.getD 20 undef, ad.tmps.getD 21 undef, ad.tmps.getD 22 undef, ad.tmps.getD 23 undef, ad.tmps.getD 24 undef, ad.tmps.getD 25 undef, ad.tmps.getD 26 undef, ad.tmps.getD 27 undef, ad.tmps.getD 28 undef, ad.tmps.getD 29 undef, ad.tmps.getD 30 undef, ad.tmps.getD 31 undef, ad.tmps.getD 32 undef, ad.tmps.getD 33 undef, ad.tmps.getD 34 undef, ad.tmps.getD 35 undef, ad.tmps.getD 36 undef, ad.tmps.getD 37 undef, .row z (e23B u0) 23, .own t8 5 ao1 cap2 j, Fz.le.refl _, cJ.reg, cK, ff, ff, ff, ff, ff, ff, ff, ff, ff, ff, ff, ff, ff, ff, ff, ff, ff, ff, ff, ff, ff, ff, rfl, kf, ff, ff, ff⟩
  case hs =>
   intro S hcl i o hil hi hSi hpre a w1 hI; refine Go.Sy.hid ?_; intro G hG; obtain ⟨x, D, O, ae, P, aB, aH, aC, au, al, aD, av, am, af, aI, aJ, aE, aw, an, ax, ao, ag, Q, H, a9, hI⟩ := hI; obtain ⟨a5, c, hFx, hMx, R, U, ah, V, W, ai, ay, aF, X, aj, ap, aQ, Y, aa, aq, az, aG, ab, ak, aM, a1, hI⟩ := hI; obtain ⟨bc, I, ac, bG, aA, hI⟩ := hI; have bd := hI
   have hcase : i = 0 ∨ i = 1 ∨ i = 2 ∨ i = 3 ∨ i = 4 ∨ i = 5 ∨ i = 6 ∨ i = 7 ∨ i = 8 ∨ i = 9 ∨ i = 10 ∨ i = 11 ∨ i = 12 ∨ i = 13 ∨ i = 14 ∨ i = 15 ∨ i = 16 ∨ i = 17 ∨ i = 18 ∨ i = 19 ∨ i = 20 ∨ i = 21 ∨ i = 22 := by clear hi; omega
   rcases hcase with rfl | rfl | rfl | rfl | rfl | rfl | rfl | rfl | rfl | rfl | rfl | rfl | rfl | rfl | rfl | rfl | rfl | rfl | rfl | rfl | rfl | rfl | rfl
   ·
    obtain rfl := oj hi
    have a2 := hSi
    have f := ngF hcl 21 0 a2
    have h := ngF hcl 22 0 a2
    obtain rfl := I
    obtain rfl := ac h
    refine hG (any_step ?_); intro A J hJ
    refine s1 hFx 16 (.slice ao1 j.length cap2) ?_; intro dy cL
    refine nl (qnI (hJ _ _ ?_))
    exact ⟨x, D, .slice ao1 j.length cap2, ae, P, aB, aH, aC, au, al, aD, av, am, af, aI, aJ, aE, aw, an, ax, ao, ag, Q, H, .row z (e23B u0) 23, .own t8 5 ao1 cap2 j, c, cL.reg, hMx.perm lpr, kf, U, ah, V, W, ai, ay, aF, X, aj, ap, aQ, Y, aa, aq, az, aG, ab, ak, aM, a1, (nt f), rfl, kf, (nt h), aA, (nt f)⟩
   ·
    obtain rfl := oj hi
    have aX := hSi
    have aY := ngF hcl 2 1 aX
    have f := ngF hcl 21 1 aX
    have h := ngF hcl 22 1 aX
    obtain rfl := I
    obtain rfl := ac h
    refine hG (any_step ?_); intro A J hJ
    refine s1 hFx 17 (i6 b) ?_; intro dB cM
    refine nl (qnI (hJ _ _ ?_))
    exact ⟨x, D, O, i6 b, P, aB, aH, aC, au, al, aD, av, am, af, aI, aJ, aE, aw, an, ax, ao, ag, Q, H, .row z (e23B u0) 23, .own t8 5 ao1 cap2 j, c, cM.reg, hMx.perm lpr, R, kf, (nt aY), V, W, ai, ay, aF, X, aj, ap, aQ, Y, aa, aq, az, aG, ab, ak, aM, a1, (nt f), rfl, kf, (nt h), aA, (nt f)⟩
   ·
    obtain rfl := oj hi
    have aX := hpre 1 (by kernel_rfl)
    have aY := hSi
    have f := ngF hcl 21 2 aY
    have h := ngF hcl 22 2 aY
    obtain rfl := U aX
    obtain rfl := I
    obtain rfl := ac h
    refine hG (any_step ?_); intro A J hJ
    refine s1 hFx 18 (i6 (w64 (b.tdiv 8))) ?_; intro dE cN
    refine nl (qnI (hJ _ _ ?_))
    exact ⟨x, D, O, i6 b, i6 (w64 (b.tdiv 8)), aB, aH, aC, au, al, aD, av, am, af, aI, aJ, aE, aw, an, ax, ao, ag, Q, H, .row z (e23B u0) 23, .own t8 5 ao1 cap2 j, c, cN.reg, hMx.perm lpr, R, kf, kf, V, W, ai, ay, aF, X, aj, ap, aQ, Y, aa, aq, az, aG, ab, ak, aM, a1, (nt f), rfl, kf, (nt h), aA, (nt f)⟩
   ·
    obtain rfl := oj hi
    have aS := hSi
    have n := ngF hcl 6 3 aS
    have L := ngF hcl 7 6 n
    have p := ngF hcl 11 7 L
    have m := ngF hcl 20 11 p
    have f := ngF hcl 21 3 aS
    have h := ngF hcl 22 3 aS
    obtain rfl := I
    obtain rfl := ac h
    refine hG (any_step ?_); intro A J hJ
    refine s1 hFx 19 (.slice ao1 j.length cap2) ?_; intro dH cO
    refine nl (qnI (hJ _ _ ?_))
    exact ⟨x, D, O, ae, P, .slice ao1 j.length cap2, aH, aC, au, al, aD, av, am, af, aI, aJ, aE, aw, an, ax, ao, ag, Q, H, .row z (e23B u0) 23, .own t8 5 ao1 cap2 j, c, cO.reg, hMx.perm lpr, R, U, ah, kf, W, ai, (nt n), (nt L), X, aj, ap, (nt p), Y, aa, aq, az, aG, ab, ak, aM, (nt m), (nt f), rfl, kf, (nt h), (nt n), (nt f)⟩
   ·
    obtain rfl := oj hi
    have aN := hSi
    have ar := ngF hcl 5 4 aN
    have n := ngF hcl 6 5 ar
    have L := ngF hcl 7 6 n
    have p := ngF hcl 11 7 L
    have m := ngF hcl 20 11 p
    have f := ngF hcl 21 4 aN
    have h := ngF hcl 22 4 aN
    obtain rfl := I
    obtain rfl := ac h
    refine hG (any_step ?_); intro A J hJ
    refine s1 hFx 20 (i6 b) ?_; intro dK cP
    refine nl (qnI (hJ _ _ ?_))
    exact ⟨x, D, O, ae, P, aB, i6 b, aC, au, al, aD, av, am, af, aI, aJ, aE, aw, an, ax, ao, ag, Q, H, .row z (e23B u0) 23, .own t8 5 ao1 cap2 j, c, cP.reg, hMx.perm lpr, R, U, ah, V, kf, (nt ar), (nt n), (nt L), X, aj, ap, (nt p), Y, aa, aq, az, aG, ab, ak, aM, (nt m), (nt f), rfl, kf, (nt h), (nt n), (nt f)⟩
   ·
    obtain rfl := oj hi
    have aN := hpre 4 (by kernel_rfl)
    have ar := hSi
    have n := ngF hcl 6 5 ar
    have L := ngF hcl 7 6 n
    have p := ngF hcl 11 7 L
    have m := ngF hcl 20 11 p
    have f := ngF hcl 21 5 ar
    have h := ngF hcl 22 5 ar
    obtain rfl := W aN
    obtain rfl := I
    obtain rfl := ac h
    refine hG (any_step ?_); intro A J hJ
    refine s1 hFx 21 (i6 (w64 (b.tdiv 8))) ?_; intro dN cQ
    refine nl (qnI (hJ _ _ ?_))
    exact ⟨x, D, O, ae, P, aB, i6 b, i6 (w64 (b.tdiv 8)), au, al, aD, av, am, af, aI, aJ, aE, aw, an, ax, ao, ag, Q, H, .row z (e23B u0) 23, .own t8 5 ao1 cap2 j, c, cQ.reg, hMx.perm lpr, R, U, ah, V, kf, kf, (nt n), (nt L), X, aj, ap, (nt p), Y, aa, aq, az, aG, ab, ak, aM, (nt m), (nt f), rfl, kf, (nt h), (nt n), (nt f)⟩
   ·
    obtain rfl := oj hi
    have ar := hpre 5 (by kernel_rfl)
    have aS := hpre 3 (by kernel_rfl)
    have aN := hcl 5 4 (by kernel_rfl) ar
    have n := hSi
    have L := ngF hcl 7 6 n
    have p := ngF hcl 11 7 L
    have m := ngF hcl 20 11 p
    have f := ngF hcl 21 6 n
    have h := ngF hcl 22 6 n
    obtain rfl := V aS
    obtain rfl := W aN
    obtain rfl := ai ar
    obtain rfl := I
    obtain rfl := ac h
    refine hG (any_step ?_); intro A J hJ
    refine ixo hFx hMx 1 (T := t8) (xs := j) (w64 (b.tdiv 8)) (by simpa only [List.length_set] using cc) (k := .i64) (e := 5) (bytes := 1) (nog rfl _) rfl (by kernel_rfl) rfl (by kernel_rfl) (by kernel_rfl) rfl (by kernel_rfl) ?_; intro bH dQ cR cS
    refine nl (qnI (hJ _ _ ?_))
    exact ⟨bH, D, O, ae, P, .slice ao1 j.length cap2, i6 b, i6 (w64 (b.tdiv 8)), .pointer (some ⟨bH, (w64 (b.tdiv 8)).toNat * 1, none⟩), al, aD, av, am, af, aI, aJ, aE, aw, an, ax, ao, ag, Q, H, .row z (e23B u0) 23, .own t8 5 ao1 cap2 j, c, cS.reg, hMx.perm lpr, R, U, ah, kf, kf, kf, kf, (nt L), X, aj, ap, (nt p), Y, aa, aq, az, aG, ab, ak, aM, (nt m), (nt f), rfl, kf, (nt h), (fun _ => cR), (nt f)⟩
   ·
    obtain rfl := oj hi
    have n := hpre 6 (by kernel_rfl)
    have ar := hcl 6 5 (by kernel_rfl) n
    have aS := hcl 6 3 (by kernel_rfl) n
    have aN := hcl 5 4 (by kernel_rfl) ar
    have L := hSi
    have p := ngF hcl 11 7 L
    have m := ngF hcl 20 11 p
    have f := ngF hcl 21 7 L
    have h := ngF hcl 22 7 L
    obtain rfl := V aS
    obtain rfl := W aN
    obtain rfl := ai ar
    obtain rfl := ay n
    obtain rfl := I
    obtain rfl := ac h
    refine hG (any_step ?_); intro A J hJ
    have bI := aA n
    obtain ⟨cT, cU, cV⟩ := own_elx hMx 1 (T := t8) (xs := j) rfl bI (w64 (b.tdiv 8)).toNat ce
    obtain rfl : cT = ([y8 q] : List Value) := cU
    refine lc1 hFx 23 (y8 q) (cV 0 _ rfl) rfl ?_; intro dT cW
    refine nl (qnI (hJ _ _ ?_))
    exact ⟨x, D, O, ae, P, .slice ao1 j.length cap2, i6 b, i6 (w64 (b.tdiv 8)), .pointer (some ⟨x, (w64 (b.tdiv 8)).toNat * 1, none⟩), y8 q, aD, av, am, af, aI, aJ, aE, aw, an, ax, ao, ag, Q, H, .row z (e23B u0) 23, .own t8 5 ao1 cap2 j, c, cW.reg, hMx.perm lpr, R, U, ah, kf, kf, kf, kf, kf, X, aj, ap, (nt p), Y, aa, aq, az, aG, ab, ak, aM, (nt m), (nt f), rfl, kf, (nt h), (fun _ => bI), (nt f)⟩
   ·
    obtain rfl := oj hi
    have aT := hSi
    have aK := ngF hcl 9 8 aT
    have aL := ngF hcl 10 9 aK
    have p := ngF hcl 11 10 aL
    have m := ngF hcl 20 11 p
    have f := ngF hcl 21 8 aT
    have h := ngF hcl 22 8 aT
    obtain rfl := I
    obtain rfl := ac h
    refine hG (any_step ?_); intro A J hJ
    refine s1 hFx 24 (i6 b) ?_; intro dW cX
    refine nl (qnI (hJ _ _ ?_))
    exact ⟨x, D, O, ae, P, aB, aH, aC, au, al, i6 b, av, am, af, aI, aJ, aE, aw, an, ax, ao, ag, Q, H, .row z (e23B u0) 23, .own t8 5 ao1 cap2 j, c, cX.reg, hMx.perm lpr, R, U, ah, V, W, ai, ay, aF, kf, (nt aK), (nt aL), (nt p), Y, aa, aq, az, aG, ab, ak, aM, (nt m), (nt f), rfl, kf, (nt h), aA, (nt f)⟩
   ·
    obtain rfl := oj hi
    have aT := hpre 8 (by kernel_rfl)
    have aK := hSi
    have aL := ngF hcl 10 9 aK
    have p := ngF hcl 11 10 aL
    have m := ngF hcl 20 11 p
    have f := ngF hcl 21 9 aK
    have h := ngF hcl 22 9 aK
    obtain rfl := X aT
    obtain rfl := I
    obtain rfl := ac h
    refine hG (any_step ?_); intro A J hJ
    refine s1 hFx 25 (i6 (b.tmod 8)) ?_; intro dZ cY
    refine nl (qnI (hJ _ _ ?_))
    exact ⟨x, D, O, ae, P, aB, aH, aC, au, al, i6 b, i6 (b.tmod 8), am, af, aI, aJ, aE, aw, an, ax, ao, ag, Q, H, .row z (e23B u0) 23, .own t8 5 ao1 cap2 j, c, cY.reg, hMx.perm lpr, R, U, ah, V, W, ai, ay, aF, kf, kf, (nt aL), (nt p), Y, aa, aq, az, aG, ab, ak, aM, (nt m), (nt f), rfl, kf, (nt h), aA, (nt f)⟩
   ·
    obtain rfl := oj hi
    have aK := hpre 9 (by kernel_rfl)
    have aT := hcl 9 8 (by kernel_rfl) aK
    have aL := hSi
    have p := ngF hcl 11 10 aL
    have m := ngF hcl 20 11 p
    have f := ngF hcl 21 10 aL
    have h := ngF hcl 22 10 aL
    obtain rfl := X aT
    obtain rfl := aj aK
    obtain rfl := I
    obtain rfl := ac h
    refine hG (any_step ?_); intro A J hJ
    refine u_ hFx (y8 (bShl .u8 1 (b.tmod 8))) (shl_run hFx (g := []) (k' := .i64) rfl (by kernel_rfl) (by kernel_rfl) cg rfl) ?_; intro d2 cZ
    refine nl (qnI (hJ _ _ ?_))
    exact ⟨x, D, O, ae, P, aB, aH, aC, au, al, i6 b, i6 (b.tmod 8), y8 (bShl .u8 1 (b.tmod 8)), af, aI, aJ, aE, aw, an, ax, ao, ag, Q, H, .row z (e23B u0) 23, .own t8 5 ao1 cap2 j, c, cZ.reg, hMx.perm lpr, R, U, ah, V, W, ai, ay, aF, kf, kf, kf, (nt p), Y, aa, aq, az, aG, ab, ak, aM, (nt m), (nt f), rfl, kf, (nt h), aA, (nt f)⟩
   ·
    obtain rfl := oj hi
    have aL := hpre 10 (by kernel_rfl)
    have L := hpre 7 (by kernel_rfl)
    have aK := hcl 10 9 (by kernel_rfl) aL
    have n := hcl 7 6 (by kernel_rfl) L
    have aT := hcl 9 8 (by kernel_rfl) aK
    have ar := hcl 6 5 (by kernel_rfl) n
    have aS := hcl 6 3 (by kernel_rfl) n
    have aN := hcl 5 4 (by kernel_rfl) ar
    have p := hSi
    have m := ngF hcl 20 11 p
    have f := ngF hcl 21 11 p
    have h := ngF hcl 22 11 p
    obtain rfl := V aS
    obtain rfl := W aN
    obtain rfl := ai ar
    obtain rfl := ay n
    obtain rfl := aF L
    obtain rfl := X aT
    obtain rfl := aj aK
    obtain rfl := ap aL
    obtain rfl := I
    obtain rfl := ac h
    refine hG (any_step ?_); intro A J hJ
    have c0 := aA n
    refine s1 hFx 27 (y8 (bAndNot .u8 q (bShl .u8 1 (b.tmod 8)))) ?_; intro d5 c1
    refine nl (qnI (hJ _ _ ?_))
    exact ⟨x, D, O, ae, P, .slice ao1 j.length cap2, i6 b, i6 (w64 (b.tdiv 8)), .pointer (some ⟨x, (w64 (b.tdiv 8)).toNat * 1, none⟩), y8 q, i6 b, i6 (b.tmod 8), y8 (bShl .u8 1 (b.tmod 8)), y8 (bAndNot .u8 q (bShl .u8 1 (b.tmod 8))), aI, aJ, aE, aw, an, ax, ao, ag, Q, H, .row z (e23B u0) 23, .own t8 5 ao1 cap2 j, c, c1.reg, hMx.perm lpr, R, U, ah, kf, kf, kf, kf, kf, kf, kf, kf, kf, Y, aa, aq, az, aG, ab, ak, aM, (nt m), (nt f), rfl, kf, (nt h), (fun _ => c0), (nt f)⟩
   ·
    obtain rfl := oj hi
    have aO := hSi
    have C := ngF hcl 14 12 aO
    have M := ngF hcl 15 14 C
    have N := ngF hcl 16 15 M
    have y := ngF hcl 19 16 N
    have m := ngF hcl 20 19 y
    have f := ngF hcl 21 12 aO
    have h := ngF hcl 22 12 aO
    obtain rfl := I
    obtain rfl := ac h
    refine hG (any_step ?_); intro A J hJ
    refine s1 hFx 28 (i6 u2) ?_; intro d8 c2
    refine nl (qnI (hJ _ _ ?_))
    exact ⟨x, D, O, ae, P, aB, aH, aC, au, al, aD, av, am, af, i6 u2, aJ, aE, aw, an, ax, ao, ag, Q, H, .row z (e23B u0) 23, .own t8 5 ao1 cap2 j, c, c2.reg, hMx.perm lpr, R, U, ah, V, W, ai, ay, aF, X, aj, ap, aQ, kf, aa, (nt C), (nt M), (nt N), ab, ak, (nt y), (nt m), (nt f), rfl, kf, (nt h), aA, (nt f)⟩
   ·
    obtain rfl := oj hi
    have aP := hSi
    have C := ngF hcl 14 13 aP
    have M := ngF hcl 15 14 C
    have N := ngF hcl 16 15 M
    have y := ngF hcl 19 16 N
    have m := ngF hcl 20 19 y
    have f := ngF hcl 21 13 aP
    have h := ngF hcl 22 13 aP
    obtain rfl := I
    obtain rfl := ac h
    refine hG (any_step ?_); intro A J hJ
    refine s1 hFx 29 (i6 d) ?_; intro eb c3
    refine nl (qnI (hJ _ _ ?_))
    exact ⟨x, D, O, ae, P, aB, aH, aC, au, al, aD, av, am, af, aI, i6 d, aE, aw, an, ax, ao, ag, Q, H, .row z (e23B u0) 23, .own t8 5 ao1 cap2 j, c, c3.reg, hMx.perm lpr, R, U, ah, V, W, ai, ay, aF, X, aj, ap, aQ, Y, kf, (nt C), (nt M), (nt N), ab, ak, (nt y), (nt m), (nt f), rfl, kf, (nt h), aA, (nt f)⟩
   ·
    obtain rfl := oj hi
    have aP := hpre 13 (by kernel_rfl)
    have aO := hpre 12 (by kernel_rfl)
    have C := hSi
    have M := ngF hcl 15 14 C
    have N := ngF hcl 16 15 M
    have y := ngF hcl 19 16 N
    have m := ngF hcl 20 19 y
    have f := ngF hcl 21 14 C
    have h := ngF hcl 22 14 C
    obtain rfl := Y aO
    obtain rfl := aa aP
    obtain rfl := I
    obtain rfl := ac h
    refine hG (any_step ?_); intro A J hJ
    refine u_ hFx (i6 (bShr .i64 u2 d)) (shr_run hFx (g := []) (k' := .i64) rfl (by kernel_rfl) (by kernel_rfl) ci rfl) ?_; intro ee c4
    refine nl (qnI (hJ _ _ ?_))
    exact ⟨x, D, O, ae, P, aB, aH, aC, au, al, aD, av, am, af, i6 u2, i6 d, i6 (bShr .i64 u2 d), aw, an, ax, ao, ag, Q, H, .row z (e23B u0) 23, .own t8 5 ao1 cap2 j, c, c4.reg, hMx.perm lpr, R, U, ah, V, W, ai, ay, aF, X, aj, ap, aQ, kf, kf, kf, (nt M), (nt N), ab, ak, (nt y), (nt m), (nt f), rfl, kf, (nt h), aA, (nt f)⟩
   ·
    obtain rfl := oj hi
    have C := hpre 14 (by kernel_rfl)
    have aP := hcl 14 13 (by kernel_rfl) C
    have aO := hcl 14 12 (by kernel_rfl) C
    have M := hSi
    have N := ngF hcl 16 15 M
    have y := ngF hcl 19 16 N
    have m := ngF hcl 20 19 y
    have f := ngF hcl 21 15 M
    have h := ngF hcl 22 15 M
    obtain rfl := Y aO
    obtain rfl := aa aP
    obtain rfl := aq C
    obtain rfl := I
    obtain rfl := ac h
    refine hG (any_step ?_); intro A J hJ
    refine s1 hFx 31 (i6 (bAnd .i64 (bShr .i64 u2 d) 1)) ?_; intro eh c5
    refine nl (qnI (hJ _ _ ?_))
    exact ⟨x, D, O, ae, P, aB, aH, aC, au, al, aD, av, am, af, i6 u2, i6 d, i6 (bShr .i64 u2 d), i6 (bAnd .i64 (bShr .i64 u2 d) 1), an, ax, ao, ag, Q, H, .row z (e23B u0) 23, .own t8 5 ao1 cap2 j, c, c5.reg, hMx.perm lpr, R, U, ah, V, W, ai, ay, aF, X, aj, ap, aQ, kf, kf, kf, kf, (nt N), ab, ak, (nt y), (nt m), (nt f), rfl, kf, (nt h), aA, (nt f)⟩
   ·
    obtain rfl := oj hi
    have M := hpre 15 (by kernel_rfl)
    have C := hcl 15 14 (by kernel_rfl) M
    have aP := hcl 14 13 (by kernel_rfl) C
    have aO := hcl 14 12 (by kernel_rfl) C
    have N := hSi
    have y := ngF hcl 19 16 N
    have m := ngF hcl 20 19 y
    have f := ngF hcl 21 16 N
    have h := ngF hcl 22 16 N
    obtain rfl := Y aO
    obtain rfl := aa aP
    obtain rfl := aq C
    obtain rfl := az M
    obtain rfl := I
    obtain rfl := ac h
    refine hG (any_step ?_); intro A J hJ
    refine s1 hFx 32 (y8 (w8 (bAnd .i64 (bShr .i64 u2 d) 1))) ?_; intro ek c6
    refine nl (qnI (hJ _ _ ?_))
    exact ⟨x, D, O, ae, P, aB, aH, aC, au, al, aD, av, am, af, i6 u2, i6 d, i6 (bShr .i64 u2 d), i6 (bAnd .i64 (bShr .i64 u2 d) 1), y8 (w8 (bAnd .i64 (bShr .i64 u2 d) 1)), ax, ao, ag, Q, H, .row z (e23B u0) 23, .own t8 5 ao1 cap2 j, c, c6.reg, hMx.perm lpr, R, U, ah, V, W, ai, ay, aF, X, aj, ap, aQ, kf, kf, kf, kf, kf, ab, ak, (nt y), (nt m), (nt f), rfl, kf, (nt h), aA, (nt f)⟩
   ·
    obtain rfl := oj hi
    have aU := hSi
    have aR := ngF hcl 18 17 aU
    have y := ngF hcl 19 18 aR
    have m := ngF hcl 20 19 y
    have f := ngF hcl 21 17 aU
    have h := ngF hcl 22 17 aU
    obtain rfl := I
    obtain rfl := ac h
    refine hG (any_step ?_); intro A J hJ
    refine s1 hFx 33 (i6 b) ?_; intro en c7
    refine nl (qnI (hJ _ _ ?_))
    exact ⟨x, D, O, ae, P, aB, aH, aC, au, al, aD, av, am, af, aI, aJ, aE, aw, an, i6 b, ao, ag, Q, H, .row z (e23B u0) 23, .own t8 5 ao1 cap2 j, c, c7.reg, hMx.perm lpr, R, U, ah, V, W, ai, ay, aF, X, aj, ap, aQ, Y, aa, aq, az, aG, kf, (nt aR), (nt y), (nt m), (nt f), rfl, kf, (nt h), aA, (nt f)⟩
   ·
    obtain rfl := oj hi
    have aU := hpre 17 (by kernel_rfl)
    have aR := hSi
    have y := ngF hcl 19 18 aR
    have m := ngF hcl 20 19 y
    have f := ngF hcl 21 18 aR
    have h := ngF hcl 22 18 aR
    obtain rfl := ab aU
    obtain rfl := I
    obtain rfl := ac h
    refine hG (any_step ?_); intro A J hJ
    refine s1 hFx 34 (i6 (b.tmod 8)) ?_; intro eq c8
    refine nl (qnI (hJ _ _ ?_))
    exact ⟨x, D, O, ae, P, aB, aH, aC, au, al, aD, av, am, af, aI, aJ, aE, aw, an, i6 b, i6 (b.tmod 8), ag, Q, H, .row z (e23B u0) 23, .own t8 5 ao1 cap2 j, c, c8.reg, hMx.perm lpr, R, U, ah, V, W, ai, ay, aF, X, aj, ap, aQ, Y, aa, aq, az, aG, kf, kf, (nt y), (nt m), (nt f), rfl, kf, (nt h), aA, (nt f)⟩
   ·
    obtain rfl := oj hi
    have aR := hpre 18 (by kernel_rfl)
    have N := hpre 16 (by kernel_rfl)
    have aU := hcl 18 17 (by kernel_rfl) aR
    have M := hcl 16 15 (by kernel_rfl) N
    have C := hcl 15 14 (by kernel_rfl) M
    have aP := hcl 14 13 (by kernel_rfl) C
    have aO := hcl 14 12 (by kernel_rfl) C
    have y := hSi
    have m := ngF hcl 20 19 y
    have f := ngF hcl 21 19 y
    have h := ngF hcl 22 19 y
    obtain rfl := Y aO
    obtain rfl := aa aP
    obtain rfl := aq C
    obtain rfl := az M
    obtain rfl := aG N
    obtain rfl := ab aU
    obtain rfl := ak aR
    obtain rfl := I
    obtain rfl := ac h
    refine hG (any_step ?_); intro A J hJ
    refine u_ hFx (y8 (bShl .u8 (w8 (bAnd .i64 (bShr .i64 u2 d) 1)) (b.tmod 8))) (shl_run hFx (g := []) (k' := .i64) rfl (by kernel_rfl) (by kernel_rfl) cl rfl) ?_; intro et c9
    refine nl (qnI (hJ _ _ ?_))
    exact ⟨x, D, O, ae, P, aB, aH, aC, au, al, aD, av, am, af, i6 u2, i6 d, i6 (bShr .i64 u2 d), i6 (bAnd .i64 (bShr .i64 u2 d) 1), y8 (w8 (bAnd .i64 (bShr .i64 u2 d) 1)), i6 b, i6 (b.tmod 8), y8 (bShl .u8 (w8 (bAnd .i64 (bShr .i64 u2 d) 1)) (b.tmod 8)), Q, H, .row z (e23B u0) 23, .own t8 5 ao1 cap2 j, c, c9.reg, hMx.perm lpr, R, U, ah, V, W, ai, ay, aF, X, aj, ap, aQ, kf, kf, kf, kf, kf, kf, kf, kf, (nt m), (nt f), rfl, kf, (nt h), aA, (nt f)⟩
   ·
    obtain rfl := oj hi
    have y := hpre 19 (by kernel_rfl)
    have p := hpre 11 (by kernel_rfl)
    have aR := hcl 19 18 (by kernel_rfl) y
    have N := hcl 19 16 (by kernel_rfl) y
    have aL := hcl 11 10 (by kernel_rfl) p
    have L := hcl 11 7 (by kernel_rfl) p
    have aU := hcl 18 17 (by kernel_rfl) aR
    have M := hcl 16 15 (by kernel_rfl) N
    have aK := hcl 10 9 (by kernel_rfl) aL
    have n := hcl 7 6 (by kernel_rfl) L
    have C := hcl 15 14 (by kernel_rfl) M
    have aT := hcl 9 8 (by kernel_rfl) aK
    have ar := hcl 6 5 (by kernel_rfl) n
    have aS := hcl 6 3 (by kernel_rfl) n
    have aP := hcl 14 13 (by kernel_rfl) C
    have aO := hcl 14 12 (by kernel_rfl) C
    have aN := hcl 5 4 (by kernel_rfl) ar
    have m := hSi
    have f := ngF hcl 21 20 m
    have h := ngF hcl 22 20 m
    obtain rfl := V aS
    obtain rfl := W aN
    obtain rfl := ai ar
    obtain rfl := ay n
    obtain rfl := aF L
    obtain rfl := X aT
    obtain rfl := aj aK
    obtain rfl := ap aL
    obtain rfl := aQ p
    obtain rfl := Y aO
    obtain rfl := aa aP
    obtain rfl := aq C
    obtain rfl := az M
    obtain rfl := aG N
    obtain rfl := ab aU
    obtain rfl := ak aR
    obtain rfl := aM y
    obtain rfl := I
    obtain rfl := ac h
    refine hG (any_step ?_); intro A J hJ
    have da := aA n
    refine s1 hFx 36 (y8 (bOr .u8 (bAndNot .u8 q (bShl .u8 1 (b.tmod 8))) (bShl .u8 (w8 (bAnd .i64 (bShr .i64 u2 d) 1)) (b.tmod 8)))) ?_; intro ew db
    refine nl (qnI (hJ _ _ ?_))
    exact ⟨x, D, O, ae, P, .slice ao1 j.length cap2, i6 b, i6 (w64 (b.tdiv 8)), .pointer (some ⟨x, (w64 (b.tdiv 8)).toNat * 1, none⟩), y8 q, i6 b, i6 (b.tmod 8), y8 (bShl .u8 1 (b.tmod 8)), y8 (bAndNot .u8 q (bShl .u8 1 (b.tmod 8))), i6 u2, i6 d, i6 (bShr .i64 u2 d), i6 (bAnd .i64 (bShr .i64 u2 d) 1), y8 (w8 (bAnd .i64 (bShr .i64 u2 d) 1)), i6 b, i6 (b.tmod 8), y8 (bShl .u8 (w8 (bAnd .i64 (bShr .i64 u2 d) 1)) (b.tmod 8)), y8 (bOr .u8 (bAndNot .u8 q (bShl .u8 1 (b.tmod 8))) (bShl .u8 (w8 (bAnd .i64 (bShr .i64 u2 d) 1)) (b.tmod 8))), H, .row z (e23B u0) 23, .own t8 5 ao1 cap2 j, c, db.reg, hMx.perm lpr, R, U, ah, kf, kf, kf, kf, kf, kf, kf, kf, kf, kf, kf, kf, kf, kf, kf, kf, kf, kf, (nt f), rfl, kf, (nt h), (fun _ => da), (nt f)⟩
   ·
    obtain rfl := oj hi
    have m := hpre 20 (by kernel_rfl)
    have y := hpre 19 (by kernel_rfl)
    have aR := hpre 18 (by kernel_rfl)
    have aU := hpre 17 (by kernel_rfl)
    have N := hpre 16 (by kernel_rfl)
    have M := hpre 15 (by kernel_rfl)
    have C := hpre 14 (by kernel_rfl)
    have aP := hpre 13 (by kernel_rfl)
    have aO := hpre 12 (by kernel_rfl)
    have p := hpre 11 (by kernel_rfl)
    have aL := hpre 10 (by kernel_rfl)
    have aK := hpre 9 (by kernel_rfl)
    have aT := hpre 8 (by kernel_rfl)
    have L := hpre 7 (by kernel_rfl)
    have n := hpre 6 (by kernel_rfl)
    have ar := hpre 5 (by kernel_rfl)
    have aN := hpre 4 (by kernel_rfl)
    have aS := hpre 3 (by kernel_rfl)
    have aY := hpre 2 (by kernel_rfl)
    have aX := hpre 1 (by kernel_rfl)
    have a2 := hpre 0 (by kernel_rfl)
    have f := hSi
    have h := ngF hcl 22 21 f
    obtain rfl := R a2
    obtain rfl := U aX
    obtain rfl := ah aY
    obtain rfl := V aS
    obtain rfl := W aN
    obtain rfl := ai ar
    obtain rfl := ay n
    obtain rfl := aF L
    obtain rfl := X aT
    obtain rfl := aj aK
    obtain rfl := ap aL
    obtain rfl := aQ p
    obtain rfl := Y aO
    obtain rfl := aa aP
    obtain rfl := aq C
    obtain rfl := az M
    obtain rfl := aG N
    obtain rfl := ab aU
    obtain rfl := ak aR
    obtain rfl := aM y
    obtain rfl := a1 m
    obtain rfl := I
    obtain rfl := ac h
    refine hG (any_step ?_); intro A J hJ
    have dc := aA n
    refine ixo hFx hMx 1 (T := t8) (xs := j) (w64 (b.tdiv 8)) (by simpa only [List.length_set] using cn) (k := .i64) (e := 5) (bytes := 1) (nog rfl _) rfl (by kernel_rfl) rfl (by kernel_rfl) (by kernel_rfl) rfl (by kernel_rfl) ?_; intro bJ ez dd de
    refine nl (qnI (hJ _ _ ?_))
    exact ⟨x, bJ, .slice ao1 j.length cap2, i6 b, i6 (w64 (b.tdiv 8)), .slice ao1 j.length cap2, i6 b, i6 (w64 (b.tdiv 8)), .pointer (some ⟨x, (w64 (b.tdiv 8)).toNat * 1, none⟩), y8 q, i6 b, i6 (b.tmod 8), y8 (bShl .u8 1 (b.tmod 8)), y8 (bAndNot .u8 q (bShl .u8 1 (b.tmod 8))), i6 u2, i6 d, i6 (bShr .i64 u2 d), i6 (bAnd .i64 (bShr .i64 u2 d) 1), y8 (w8 (bAnd .i64 (bShr .i64 u2 d) 1)), i6 b, i6 (b.tmod 8), y8 (bShl .u8 (w8 (bAnd .i64 (bShr .i64 u2 d) 1)) (b.tmod 8)), y8 (bOr .u8 (bAndNot .u8 q (bShl .u8 1 (b.tmod 8))) (bShl .u8 (w8 (bAnd .i64 (bShr .i64 u2 d) 1)) (b.tmod 8))), .pointer (some ⟨bJ, (w64 (b.tdiv 8)).toNat * 1, none⟩), .row z (e23B u0) 23, .own t8 5 ao1 cap2 j, c, de.reg, hMx.perm lpr, kf, kf, kf, kf, kf, kf, kf, kf, kf, kf, kf, kf, kf, kf, kf, kf, kf, kf, kf, kf, kf, kf, rfl, kf, (nt h), (fun _ => dc), (fun _ => dd)⟩
   obtain rfl := oj hi
   have f := hpre 21 (by kernel_rfl)
   have m := hpre 20 (by kernel_rfl)
   have y := hpre 19 (by kernel_rfl)
   have aR := hpre 18 (by kernel_rfl)
   have aU := hpre 17 (by kernel_rfl)
   have N := hpre 16 (by kernel_rfl)
   have M := hpre 15 (by kernel_rfl)
   have C := hpre 14 (by kernel_rfl)
   have aP := hpre 13 (by kernel_rfl)
   have aO := hpre 12 (by kernel_rfl)
   have p := hpre 11 (by kernel_rfl)
   have aL := hpre 10 (by kernel_rfl)
   have aK := hpre 9 (by kernel_rfl)
   have aT := hpre 8 (by kernel_rfl)
   have L := hpre 7 (by kernel_rfl)
   have n := hpre 6 (by kernel_rfl)
   have ar := hpre 5 (by kernel_rfl)
   have aN := hpre 4 (by kernel_rfl)
   have aS := hpre 3 (by kernel_rfl)
   have aY := hpre 2 (by kernel_rfl)
   have aX := hpre 1 (by kernel_rfl)
   have a2 := hpre 0 (by kernel_rfl)
   have h := hSi
   obtain rfl := R a2
   obtain rfl := U aX
   obtain rfl := ah aY
   obtain rfl := V aS
   obtain rfl := W aN
   obtain rfl := ai ar
   obtain rfl := ay n
   obtain rfl := aF L
   obtain rfl := X aT
   obtain rfl := aj aK
   obtain rfl := ap aL
   obtain rfl := aQ p
   obtain rfl := Y aO
   obtain rfl := aa aP
   obtain rfl := aq C
   obtain rfl := az M
   obtain rfl := aG N
   obtain rfl := ab aU
   obtain rfl := ak aR
   obtain rfl := aM y
   obtain rfl := a1 m
   obtain rfl := bc f
   obtain rfl := I
   obtain rfl := ac h
   refine hG (any_step ?_); intro A J hJ
   have df := aA n
   have bK := bd f
   refine sox hFx hMx 1 bK (T := t8) (xs := j) (w64 (b.tdiv 8)).toNat (bOr .u8 (bAndNot .u8 q (bShl .u8 1 (b.tmod 8))) (bShl .u8 (w8 (bAnd .i64 (bShr .i64 u2 d) 1)) (b.tmod 8))) (u := y8 (bOr .u8 (bAndNot .u8 q (bShl .u8 1 (b.tmod 8))) (bShl .u8 (w8 (bAnd .i64 (bShr .i64 u2 d) 1)) (b.tmod 8)))) (nog rfl _) rfl rfl (by kernel_rfl) rfl (by kernel_rfl) rfl (by kernel_rfl) (by first | omega | (simp only [List.length_set] at *; omega)) rfl ?_; intro eC dg
   refine nl (qnI (hJ _ _ ?_))
   exact ⟨x, D, .slice ao1 j.length cap2, i6 b, i6 (w64 (b.tdiv 8)), .slice ao1 j.length cap2, i6 b, i6 (w64 (b.tdiv 8)), .pointer (some ⟨x, (w64 (b.tdiv 8)).toNat * 1, none⟩), y8 q, i6 b, i6 (b.tmod 8), y8 (bShl .u8 1 (b.tmod 8)), y8 (bAndNot .u8 q (bShl .u8 1 (b.tmod 8))), i6 u2, i6 d, i6 (bShr .i64 u2 d), i6 (bAnd .i64 (bShr .i64 u2 d) 1), y8 (w8 (bAnd .i64 (bShr .i64 u2 d) 1)), i6 b, i6 (b.tmod 8), y8 (bShl .u8 (w8 (bAnd .i64 (bShr .i64 u2 d) 1)) (b.tmod 8)), y8 (bOr .u8 (bAndNot .u8 q (bShl .u8 1 (b.tmod 8))) (bShl .u8 (w8 (bAnd .i64 (bShr .i64 u2 d) 1)) (b.tmod 8))), .pointer (some ⟨D, (w64 (b.tdiv 8)).toNat * 1, none⟩), .row z (e23B u0) 23, .own t8 5 ao1 cap2 (j.set (w64 (b.tdiv 8)).toNat (bOr .u8 (bAndNot .u8 q (bShl .u8 1 (b.tmod 8))) (bShl .u8 (w8 (bAnd .i64 (bShr .i64 u2 d) 1)) (b.tmod 8)))), c, hFx.reg, dg.perm lpr, kf, kf, kf, kf, kf, kf, kf, kf, kf, kf, kf, kf, kf, kf, kf, kf, kf, kf, kf, kf, kf, kf, rfl, nu, kf, (fun _ => df), (fun _ => bK)⟩
  case hE =>
   intro S hS bL eD hI; refine Go.Sy.hid ?_; intro G hG; obtain ⟨x, D, O, ae, P, aB, aH, aC, au, al, aD, av, am, af, aI, aJ, aE, aw, an, ax, ao, ag, Q, H, a9, hI⟩ := hI; obtain ⟨a5, c, hFx, hMx, R, U, ah, V, W, ai, ay, aF, X, aj, ap, aQ, Y, aa, aq, az, aG, ab, ak, aM, a1, hI⟩ := hI; obtain ⟨bc, I, ac, bG, aA, hI⟩ := hI; refine hG ?_
   obtain rfl := R (hS 0 (by decide))
   obtain rfl := U (hS 1 (by decide))
   obtain rfl := ah (hS 2 (by decide))
   obtain rfl := V (hS 3 (by decide))
   obtain rfl := W (hS 4 (by decide))
   obtain rfl := ai (hS 5 (by decide))
   obtain rfl := ay (hS 6 (by decide))
   obtain rfl := aF (hS 7 (by decide))
   obtain rfl := X (hS 8 (by decide))
   obtain rfl := aj (hS 9 (by decide))
   obtain rfl := ap (hS 10 (by decide))
   obtain rfl := aQ (hS 11 (by decide))
   obtain rfl := Y (hS 12 (by decide))
   obtain rfl := aa (hS 13 (by decide))
   obtain rfl := aq (hS 14 (by decide))
   obtain rfl := az (hS 15 (by decide))
   obtain rfl := aG (hS 16 (by decide))
   obtain rfl := ab (hS 17 (by decide))
   obtain rfl := ak (hS 18 (by decide))
   obtain rfl := aM (hS 19 (by decide))
   obtain rfl := a1 (hS 20 (by decide))
   obtain rfl := bc (hS 21 (by decide))
   obtain rfl := I
   obtain rfl := bG (hS 22 (by decide))
   have dh : (j.set (w64 (b.tdiv 8)).toNat (bOr .u8 (bAndNot .u8 q (bShl .u8 1 (b.tmod 8))) (bShl .u8 (w8 (bAnd .i64 (bShr .i64 u2 d) 1)) (b.tmod 8)))).length = j.length := by first | assumption | omega | (dsimp only at *; omega) | (simp; try omega)
   have bM : Fr 39 [] [⟨1, [], .slice ao1 (j.set (w64 (b.tdiv 8)).toNat (bOr .u8 (bAndNot .u8 q (bShl .u8 1 (b.tmod 8))) (bShl .u8 (w8 (bAnd .i64 (bShr .i64 u2 d) 1)) (b.tmod 8)))).length cap2⟩, ⟨2, [], i6 u2⟩, ⟨6, [], i6 d⟩, ⟨7, [], i6 b⟩, ⟨9, [], .slice aV (placesS u0).length aW⟩, ⟨10, [], i6 ((placesS u0).length : Int)⟩, ⟨11, [], i6 d⟩, ⟨16, [], .slice ao1 (j.set (w64 (b.tdiv 8)).toNat (bOr .u8 (bAndNot .u8 q (bShl .u8 1 (b.tmod 8))) (bShl .u8 (w8 (bAnd .i64 (bShr .i64 u2 d) 1)) (b.tmod 8)))).length cap2⟩, ⟨17, [], i6 b⟩, ⟨18, [], i6 (w64 (b.tdiv 8))⟩, ⟨19, [], .slice ao1 (j.set (w64 (b.tdiv 8)).toNat (bOr .u8 (bAndNot .u8 q (bShl .u8 1 (b.tmod 8))) (bShl .u8 (w8 (bAnd .i64 (bShr .i64 u2 d) 1)) (b.tmod 8)))).length cap2⟩, ⟨20, [], i6 b⟩, ⟨21, [], i6 (w64 (b.tdiv 8))⟩, ⟨22, [], .pointer (some ⟨x, (w64 (b.tdiv 8)).toNat * 1, none⟩)⟩, ⟨23, [], y8 q⟩, ⟨24, [], i6 b⟩, ⟨25, [], i6 (b.tmod 8)⟩, ⟨26, [], y8 (bShl .u8 1 (b.tmod 8))⟩, ⟨27, [], y8 (bAndNot .u8 q (bShl .u8 1 (b.tmod 8)))⟩, ⟨28, [], i6 u2⟩, ⟨29, [], i6 d⟩, ⟨30, [], i6 (bShr .i64 u2 d)⟩, ⟨31, [], i6 (bAnd .i64 (bShr .i64 u2 d) 1)⟩, ⟨32, [], y8 (w8 (bAnd .i64 (bShr .i64 u2 d) 1))⟩, ⟨33, [], i6 b⟩, ⟨34, [], i6 (b.tmod 8)⟩, ⟨35, [], y8 (bShl .u8 (w8 (bAnd .i64 (bShr .i64 u2 d) 1)) (b.tmod 8))⟩, ⟨36, [], y8 (bOr .u8 (bAndNot .u8 q (bShl .u8 1 (b.tmod 8))) (bShl .u8 (w8 (bAnd .i64 (bShr .i64 u2 d) 1)) (b.tmod 8)))⟩, ⟨37, [], .pointer (some ⟨D, (w64 (b.tdiv 8)).toNat * 1, none⟩)⟩] bL := by rw [dh]; exact hFx.reg
   refine j_ (t_ ?_)
   have bN : Fr 39 [] [⟨1, [], .slice ao1 (j.set (w64 (b.tdiv 8)).toNat (bOr .u8 (bAndNot .u8 q (bShl .u8 1 (b.tmod 8))) (bShl .u8 (w8 (bAnd .i64 (bShr .i64 u2 d) 1)) (b.tmod 8)))).length cap2⟩, ⟨2, [], i6 u2⟩, ⟨9, [], .slice aV (placesS u0).length aW⟩, ⟨10, [], i6 ((placesS u0).length : Int)⟩, ⟨11, [], i6 d⟩] bL := bM.reg
   refine rgB bN hMx [] [] [(11, i6 (w64 (d + 1)))] ?_; intro eI di
   exact d_ ⟨⟨w64 (d + 1), j.set (w64 (b.tdiv 8)).toNat (bOr .u8 (bAndNot .u8 q (bShl .u8 1 (b.tmod 8))) (bShl .u8 (w8 (bAnd .i64 (bShr .i64 u2 d) 1)) (b.tmod 8)))⟩, bF.1, bF.2, (di.reg).anyβ _ (by kernel_rfl), hMx.kp⟩
 refine x_ (y_ (y_ (z_ ?_)))
 obtain ⟨dk, dl⟩ := dj
 refine rN (fn := Tryd.f47) (v := .tuple #[]) a4 (re0 a4 (fn := Tryd.f47) rfl) ?_
 exact ⟨j, aZ, rfl, dl, l, dk, bv.kp⟩

end Go.Proofs.YtdndfbamhnchfaaDoor
set_option linter.unusedVariables false
set_option linter.unusedSimpArgs false
set_option linter.defProp false
set_option maxRecDepth 100000
set_option maxHeartbeats 0
namespace Go.Proofs.YtdndfbamhnchfaaDoor
open Go.Sy Go.RowKit
abbrev e23C (X : Signal) : List Value := [str X.Name, i6 X.Start, i6 X.Size, .bool X.Back, .bool X.Signed, i6 X.Mul, i6 X.Div, i6 X.Add, i6 X.Key]
def scheck_fun (u0 : Signal) (u1 : Int)  (Z : Fz) (w : World)  (hZ : Z.on w) := f_ (scheck_walk u0 u1  Z w  hZ (scheck_ok u0 u1))
def sget_fun (u0 : Signal) (u1 : List Int) (hpre : inD u0 u1) (ao1 : Option Addr) (cap2 : Nat) (Z : Fz) (w : World) (hs3 : SlR t8 Z ao1 cap2 u1) (hZ : Z.on w) := f_ (sget_walk u0 u1 ao1 cap2 Z w hs3 hZ (sget_ok u0 u1 hpre))
theorem sputd_fun (u0 : Signal) (u1 : List Int) (u2 : Int) (hpre : inD u0 u1) (ao1 : Option Addr) (cap2 : Nat) (B : Nat) (w0 : World) (Z0 : Fz) (Rr : List Res) (Z : Fz) (w : World) (hM0 : Mem B [] w0 Z0 ((.own t8 5 ao1 cap2 u1) :: Rr) Z w) (hZ : Z.on w) : Calls Tryd.prog 47 #[.agg #[str u0.Name, i6 u0.Start, i6 u0.Size, .bool u0.Back, .bool u0.Signed, i6 u0.Mul, i6 u0.Div, i6 u0.Add, i6 u0.Key], .slice ao1 u1.length cap2, i6 u2] w fun e w' => ∃ (Z' : Fz), e = .returned (.tuple #[]) ∧ Fz.le Z Z' ∧ ((putS u0 u1 u2).length = u1.length) ∧ Mem B [] w0 Z0 ((.own t8 5 ao1 cap2 (putS u0 u1 u2)) :: Rr) Z' w' :=
  (sputd_walk u0 u1 u2 ao1 cap2 B w0 Z0 Rr Z w hM0 hZ (sputd_ok u0 u1 u2 hpre)).mono fun _ _ ⟨r, h0, he, hk, f0, f1, hm⟩ => by subst hk; exact ⟨h0, he, f0, f1, hm⟩

theorem sraw_walk (u0 : Signal) (u1 : Int) (u2 : Int)  (Z : Fz) (w : World)  (hZ : Z.on w) {K : (Int × Int) → Prop} (hp : sraw_vc u0 u1 u2 K) : Calls Tryd.prog 13 #[.agg #[str u0.Name, i6 u0.Start, i6 u0.Size, .bool u0.Back, .bool u0.Signed, i6 u0.Mul, i6 u0.Div, i6 u0.Add, i6 u0.Key], i6 u1, i6 u2] w fun e w' => ∃ r : Int × Int, e = .returned (.tuple #[i6 r.1, i6 r.2]) ∧ K r ∧ Below w.heap.size w w' := by
 refine enter0 Tryd.func13 rfl rfl (by kernel_rfl) ?_; intro a0 eh; have ei := Mem.start w Z hZ
 refine sqH ?_; intro iC ej
 refine nw eh ei pb (e23C u0) 23 ?_; intro p a3 lI ek u
 refine bt ek u 2 [] [] [] ?_; intro a9 el
 apply ej
 refine s_ (sqH ?_); intro iD em
 refine l2 el u 17 0 0 9 (e23C u0) rfl rfl ?_; intro lJ en
 refine fc en u (scheck_fun u0 64 _ _ u.fz) ?_; intro lK lL eo q
 refine s1 eo 8 (i6 (checkS u0 64)) ?_; intro lM ep
 apply em
 refine sqB ep q [] [] [(20, .bool ((checkS u0 64) != 0))] ?_; intro lN x
 refine c_ x hp (fun _ iE => ?_) fun _ aA => ?_
 ·
  refine sqB x q [] [] [(6, i6 0), (7, i6 (checkS u0 64))] ?_; intro lO iF
  exact r_ (h_ (ra2 iF (.tuple #[i6 0, i6 (checkS u0 64)]) ⟨(0, (checkS u0 64)), rfl, iE, q.below⟩))
 refine k_ (s_ (sqB x q [] [] [(35, .bool ((((decide (u2 < 1)) || (decide (u2 > 1000000))) || (decide (u1 > 1099511627776))) || (decide (u1 < (-1099511627776)))))] ?_)); intro lP y
 refine c_ y aA (fun _ iG => ?_) fun _ iI => ?_
 ·
  refine sqB y q [] [] [(6, i6 0), (7, i6 3)] ?_; intro lQ iH
  exact r_ (h_ (ra2 iH (.tuple #[i6 0, i6 3]) ⟨(0, 3), rfl, iG, q.below⟩))
 refine k_ (sqB y q [0] [] [(9, i6 (w64 (u1 - (w64 (u0.Add * u2)))))] ?_); intro lR eq
 refine sqH ?_; intro iJ er
 refine bt eq q 4 [0, 0] [] [(43, i6 u0.Div), (45, i6 u0.Mul)] ?_; intro lS es
 refine ck es 45 #[i6 u0.Div, i6 u0.Mul] ?_
 refine (sgcd_walk u0.Div u0.Mul _ _ q.fz iI).mono ?_; rintro _ lT ⟨n, rfl, iK, hb⟩; refine ⟨_, rfl, ?_⟩; intro lU et; have eu := q.call hb
 refine s1 et 10 (i6 n) ?_; intro iL ev
 apply er
 have ew : Fr 171 [] [⟨2, [], i6 u2⟩, ⟨3, [], pt p 0⟩, ⟨9, [], i6 (w64 (u1 - (w64 (u0.Add * u2))))⟩, ⟨10, [], i6 n⟩] iL := ev.reg
 refine sqQH mixed (by kernel_rfl) eu ?_; intro iM ex
 refine q1 ew 47 (pt p 6) ?_; intro lV ds
 refine ql_ ds 0 6 (i6 u0.Div) rfl rfl ?_; intro lW ey
 refine q1 ey 49 (i6 n) ?_; intro lX dt
 obtain ⟨iN, iO⟩ := iK
 refine qu_ dt (i6 (w64 (u0.Div.tdiv n))) (fun v118 hC => quo_run dt (g := []) rfl (by kernel_rfl) (by kernel_rfl) iN rfl) ?_; intro lY ez
 refine q1 ez 51 (pt p 5) ?_; intro lZ du
 refine ql_ du 0 5 (i6 u0.Mul) rfl rfl ?_; intro l0 eA
 refine q1 eA 53 (i6 n) ?_; intro l1 dv
 obtain ⟨iP, iQ⟩ := iO
 refine qu_ dv (i6 (w64 (u0.Mul.tdiv n))) (fun v132 hC => quo_run dv (g := []) rfl (by kernel_rfl) (by kernel_rfl) iP rfl) ?_; intro l3 eB
 refine q1 eB 11 (i6 (w64 (u0.Div.tdiv n))) ?_; intro l4 eC
 refine q1 eC 12 (i6 (w64 (u0.Mul.tdiv n))) ?_; intro l5 eD
 refine qnl (ex _ ?_); intro l6 z
 refine s_ (sqB eD z [] [] [(56, .bool (decide ((w64 (u0.Mul.tdiv n)) < 0)))] ?_); intro eE eF
 have eG : Fr 171 [] [⟨2, [], i6 u2⟩, ⟨3, [], pt p 0⟩, ⟨9, [], i6 (w64 (u1 - (w64 (u0.Add * u2))))⟩, ⟨11, [], i6 (w64 (u0.Div.tdiv n))⟩, ⟨12, [], i6 (w64 (u0.Mul.tdiv n))⟩, ⟨56, [], .bool (decide ((w64 (u0.Mul.tdiv n)) < 0))⟩] eE := eF.reg
 obtain ⟨iR, aB, iS⟩ := iQ
 refine wp_then_k fun KJ155 hKJ156 => ?_
 have eH : ∀ (h : Int) (o : Int), iR h o → ∀ a1 w1, Fr 171 [] [⟨2, [], i6 u2⟩, ⟨3, [], pt p 0⟩, ⟨9, [], i6 (w64 (u1 - (w64 (u0.Add * u2))))⟩, ⟨11, [], i6 h⟩, ⟨12, [], i6 o⟩] a1 → Mem w.heap.size [] w Z [.row p (e23C u0) 23] Z w1 → KJ155 a1 w1 := by
  rintro h o iT l7 l8 eI aC
  refine hKJ156 _ _ ?_
  have iU := iS h o iT
  refine sqH ?_; intro iV eJ
  refine bt eI aC 2 [] [] [(61, i6 (w64 (u1 - (w64 (u0.Add * u2))))), (62, i6 u2)] ?_; intro l9 eK
  refine ck eK 45 #[i6 (w64 (u1 - (w64 (u0.Add * u2)))), i6 u2] ?_
  refine (sgcd_walk (w64 (u1 - (w64 (u0.Add * u2)))) u2 _ _ aC.fz iU).mono ?_; rintro _ ma ⟨a, rfl, iW, hb⟩; refine ⟨_, rfl, ?_⟩; intro mb eL; have eM := aC.call hb
  refine s1 eL 13 (i6 a) ?_; intro iX eN
  apply eJ
  have eO : Fr 171 [] [⟨2, [], i6 u2⟩, ⟨3, [], pt p 0⟩, ⟨9, [], i6 (w64 (u1 - (w64 (u0.Add * u2))))⟩, ⟨11, [], i6 h⟩, ⟨12, [], i6 o⟩, ⟨13, [], i6 a⟩] iX := eN.reg
  refine sqQH mixed (by kernel_rfl) eM ?_; intro iY eP
  refine q1 eO 64 (i6 (w64 (u1 - (w64 (u0.Add * u2))))) ?_; intro mc eQ
  refine q1 eQ 65 (i6 a) ?_; intro md dw
  obtain ⟨iZ, i0⟩ := iW
  refine qu_ dw (i6 (w64 ((w64 (u1 - (w64 (u0.Add * u2)))).tdiv a))) (fun v185 hC => quo_run dw (g := []) rfl (by kernel_rfl) (by kernel_rfl) iZ rfl) ?_; intro me eR
  refine q1 eR 67 (i6 u2) ?_; intro mf eS
  refine q1 eS 68 (i6 a) ?_; intro mg dx
  obtain ⟨i1, i2⟩ := i0
  refine qu_ dx (i6 (w64 (u2.tdiv a))) (fun v196 hC => quo_run dx (g := []) rfl (by kernel_rfl) (by kernel_rfl) i1 rfl) ?_; intro mh eT
  refine q1 eT 9 (i6 (w64 ((w64 (u1 - (w64 (u0.Add * u2)))).tdiv a))) ?_; intro mi eU
  refine q1 eU 2 (i6 (w64 (u2.tdiv a))) ?_; intro mj eV
  refine qnl (eP _ ?_); intro mk aD
  refine sqH ?_; intro i3 eW
  refine bt eV aD 2 [] [] [(70, i6 h), (71, i6 (w64 (u2.tdiv a)))] ?_; intro ml eX
  refine ck eX 45 #[i6 h, i6 (w64 (u2.tdiv a))] ?_
  refine (sgcd_walk h (w64 (u2.tdiv a)) _ _ aD.fz i2).mono ?_; rintro _ mm ⟨i, rfl, i4, hb⟩; refine ⟨_, rfl, ?_⟩; intro mn eY; have eZ := aD.call hb
  refine s1 eY 13 (i6 i) ?_; intro i5 e0
  apply eW
  have e1 : Fr 171 [] [⟨2, [], i6 (w64 (u2.tdiv a))⟩, ⟨3, [], pt p 0⟩, ⟨9, [], i6 (w64 ((w64 (u1 - (w64 (u0.Add * u2)))).tdiv a))⟩, ⟨11, [], i6 h⟩, ⟨12, [], i6 o⟩, ⟨13, [], i6 i⟩] i5 := e0.reg
  refine sqQH mixed (by kernel_rfl) eZ ?_; intro i7 e2
  refine q1 e1 73 (i6 h) ?_; intro mo e3
  refine q1 e3 74 (i6 i) ?_; intro mp dy
  obtain ⟨i8, i9⟩ := i4
  refine qu_ dy (i6 (w64 (h.tdiv i))) (fun v230 hC => quo_run dy (g := []) rfl (by kernel_rfl) (by kernel_rfl) i8 rfl) ?_; intro mq e4
  refine q1 e4 76 (i6 (w64 (u2.tdiv a))) ?_; intro mr e5
  refine q1 e5 77 (i6 i) ?_; intro ms dz
  obtain ⟨ja, jb⟩ := i9
  refine qu_ dz (i6 (w64 ((w64 (u2.tdiv a)).tdiv i))) (fun v241 hC => quo_run dz (g := []) rfl (by kernel_rfl) (by kernel_rfl) ja rfl) ?_; intro mt e6
  refine q1 e6 11 (i6 (w64 (h.tdiv i))) ?_; intro mu e7
  refine q1 e7 2 (i6 (w64 ((w64 (u2.tdiv a)).tdiv i))) ?_; intro mv e8
  refine qnl (e2 _ ?_); intro mw aE
  refine sqH ?_; intro jc e9
  refine bt e8 aE 2 [] [] [(79, i6 (w64 ((w64 (u1 - (w64 (u0.Add * u2)))).tdiv a))), (80, i6 o)] ?_; intro mx fa
  refine ck fa 45 #[i6 (w64 ((w64 (u1 - (w64 (u0.Add * u2)))).tdiv a)), i6 o] ?_
  refine (sgcd_walk (w64 ((w64 (u1 - (w64 (u0.Add * u2)))).tdiv a)) o _ _ aE.fz jb).mono ?_; rintro _ my ⟨f, rfl, jd, hb⟩; refine ⟨_, rfl, ?_⟩; intro mz fb; have fd := aE.call hb
  refine s1 fb 13 (i6 f) ?_; intro je fe
  apply e9
  have ff : Fr 171 [] [⟨2, [], i6 (w64 ((w64 (u2.tdiv a)).tdiv i))⟩, ⟨3, [], pt p 0⟩, ⟨9, [], i6 (w64 ((w64 (u1 - (w64 (u0.Add * u2)))).tdiv a))⟩, ⟨11, [], i6 (w64 (h.tdiv i))⟩, ⟨12, [], i6 o⟩, ⟨13, [], i6 f⟩] je := fe.reg
  refine sqQH mixed (by kernel_rfl) fd ?_; intro jf fg
  refine q1 ff 82 (i6 (w64 ((w64 (u1 - (w64 (u0.Add * u2)))).tdiv a))) ?_; intro mA fh
  refine q1 fh 83 (i6 f) ?_; intro mB dA
  obtain ⟨jg, jh⟩ := jd
  refine qu_ dA (i6 (w64 ((w64 ((w64 (u1 - (w64 (u0.Add * u2)))).tdiv a)).tdiv f))) (fun v275 hC => quo_run dA (g := []) rfl (by kernel_rfl) (by kernel_rfl) jg rfl) ?_; intro mC fi
  refine q1 fi 85 (i6 o) ?_; intro mD fj
  refine q1 fj 86 (i6 f) ?_; intro mE dB
  obtain ⟨ji, aF⟩ := jh
  refine qu_ dB (i6 (w64 (o.tdiv f))) (fun v286 hC => quo_run dB (g := []) rfl (by kernel_rfl) (by kernel_rfl) ji rfl) ?_; intro mF fk
  refine q1 fk 9 (i6 (w64 ((w64 ((w64 (u1 - (w64 (u0.Add * u2)))).tdiv a)).tdiv f))) ?_; intro mG fl
  refine q1 fl 12 (i6 (w64 (o.tdiv f))) ?_; intro mH fm
  refine qnl (fg _ ?_); intro mI s
  refine s_ (sqB fm s [] [] [(93, .bool (((w64 ((w64 (u2.tdiv a)).tdiv i)) != 1) || ((w64 (o.tdiv f)) != 1)))] ?_); intro mJ B
  refine c_ B aF (fun _ jj => ?_) fun _ jl => ?_
  ·
   refine sqB B s [] [] [(6, i6 0), (7, i6 4)] ?_; intro mK jk
   exact r_ (h_ (ra2 jk (.tuple #[i6 0, i6 4]) ⟨(0, 4), rfl, jj, s.below⟩))
  refine k_ (sqH ?_); intro jm fn
  refine l2 B s 95 0 0 9 (e23C u0) rfl rfl ?_; intro mL fo
  obtain ⟨jn, aG⟩ := jl
  refine fc fo s (sbounds_fun u0 jn _ _ s.fz) ?_; intro mM mN fp j
  refine bt fp j 5 [] [] [(14, i6 (boundsS u0).1), (15, i6 (boundsS u0).2)] ?_; intro mO fq
  apply fn
  refine s_ (sqH ?_); intro l k
  refine bt fq j 7 [] [] [(105, .bool ((decide ((w64 ((w64 ((w64 (u1 - (w64 (u0.Add * u2)))).tdiv a)).tdiv f)) > 0)) && (decide ((w64 (h.tdiv i)) > 0))))] ?_; intro mP aH
  refine e_ aG (fun C jo => ?_) fun C b7 => ?_
  ·
   have fr := aH.reval (d := 105) (c := []) (v := .bool ((decide ((w64 ((w64 ((w64 (u1 - (w64 (u0.Add * u2)))).tdiv a)).tdiv f)) > 0)) && (decide ((w64 (h.tdiv i)) > 0)))) (by kernel_rfl) (.bool true) (by rw [C])
   refine bt fr j 3 [] [106, 107, 108] [(106, i6 (w64 ((w64 ((w64 (u1 - (w64 (u0.Add * u2)))).tdiv a)).tdiv f))), (107, i6 (boundsS u0).2), (108, i6 (w64 (h.tdiv i)))] ?_; intro mQ aI
   obtain ⟨jp, aJ⟩ := jo
   refine v_ aI (i6 (w64 ((boundsS u0).2.tdiv (w64 (h.tdiv i))))) (wK aI true) (quo_run aI (g := []) rfl (by kernel_rfl) (by kernel_rfl) jp rfl) ?_; intro mR fs
   refine bt fs j 3 [] [110, 111] [(112, .bool (decide ((w64 ((w64 ((w64 (u1 - (w64 (u0.Add * u2)))).tdiv a)).tdiv f)) > (w64 ((boundsS u0).2.tdiv (w64 (h.tdiv i)))))))] ?_; intro mS aK
   refine e_ aJ (fun D jq => ?_) fun D aL => ?_
   ·
    have ft := aK.reval (d := 112) (c := []) (v := .bool (decide ((w64 ((w64 ((w64 (u1 - (w64 (u0.Add * u2)))).tdiv a)).tdiv f)) > (w64 ((boundsS u0).2.tdiv (w64 (h.tdiv i))))))) (by kernel_rfl) (.bool true) (by rw [D])
    refine bt ft j 44 [] [113, 114, 115, 116, 117, 118, 119, 120, 121, 122, 123, 124, 125, 126, 128, 129, 130, 131, 132, 133, 134, 135, 136, 137, 138, 139, 140, 141, 143, 144, 145, 146, 147, 148, 149, 150, 151, 152, 153, 154, 155, 156] [(156, .bool true)] ?_; intro mT dD
    apply k
    refine cdT dD (by kernel_rfl) ?_
    refine sqB dD j [] [] [(6, i6 0), (7, i6 3)] ?_; intro mU jr
    exact r_ (h_ (ra2 jr (.tuple #[i6 0, i6 3]) ⟨(0, 3), rfl, jq, j.below⟩))
   have aM := aK.reval (d := 112) (c := []) (v := .bool (decide ((w64 ((w64 ((w64 (u1 - (w64 (u0.Add * u2)))).tdiv a)).tdiv f)) > (w64 ((boundsS u0).2.tdiv (w64 (h.tdiv i))))))) (by kernel_rfl) (.bool false) (by rw [D])
   refine g_ aM false (i6 (w64 ((w64 ((w64 (u1 - (w64 (u0.Add * u2)))).tdiv a)).tdiv f))) ?_; intro mV aN
   refine g_ aN false (.bool (decide ((w64 ((w64 ((w64 (u1 - (w64 (u0.Add * u2)))).tdiv a)).tdiv f)) < 0))) ?_; intro mW aO
   refine g_ aO false (.bool (decide ((w64 ((w64 ((w64 (u1 - (w64 (u0.Add * u2)))).tdiv a)).tdiv f)) < 0))) ?_; intro mX fu
   have fv := fu.atom ((decide ((w64 ((w64 ((w64 (u1 - (w64 (u0.Add * u2)))).tdiv a)).tdiv f)) < 0)) == true) (by kernel_rfl)
   refine gp fv 116 0 [] (decide ((w64 ((w64 ((w64 (u1 - (w64 (u0.Add * u2)))).tdiv a)).tdiv f)) < 0)) (i6 (w64 (h.tdiv i))) rfl rfl ?_; intro mY fw
   refine gp fw 117 0 [] (decide ((w64 ((w64 ((w64 (u1 - (w64 (u0.Add * u2)))).tdiv a)).tdiv f)) < 0)) (.bool (decide ((w64 (h.tdiv i)) > 0))) rfl rfl ?_; intro mZ aP
   refine v_ aP (.bool ((decide ((w64 ((w64 ((w64 (u1 - (w64 (u0.Add * u2)))).tdiv a)).tdiv f)) < 0)) && (decide ((w64 (h.tdiv i)) > 0)))) (wK aP false) (pk_and aP (g := []) (m := 0) (b := decide ((w64 ((w64 ((w64 (u1 - (w64 (u0.Add * u2)))).tdiv a)).tdiv f)) < 0)) (v := decide ((w64 (h.tdiv i)) > 0)) rfl (by kernel_rfl) (by kernel_rfl) (by kernel_rfl) rfl) ?_; intro m0 aQ
   refine g_ aQ false (.bool ((decide ((w64 ((w64 ((w64 (u1 - (w64 (u0.Add * u2)))).tdiv a)).tdiv f)) < 0)) && (decide ((w64 (h.tdiv i)) > 0)))) ?_; intro m1 aR
   refine e_ aL (fun E js => ?_) fun E bx => ?_
   ·
    have fx := aR.reval (d := 119) (c := []) (v := .bool ((decide ((w64 ((w64 ((w64 (u1 - (w64 (u0.Add * u2)))).tdiv a)).tdiv f)) < 0)) && (decide ((w64 (h.tdiv i)) > 0)))) (by kernel_rfl) (.bool true) (by rw [E])
    refine bt fx j 3 [] [120, 121, 122] [(120, i6 (w64 ((w64 ((w64 (u1 - (w64 (u0.Add * u2)))).tdiv a)).tdiv f))), (121, i6 (boundsS u0).1), (122, i6 (w64 (h.tdiv i)))] ?_; intro m2 aS
    obtain ⟨jt, aT⟩ := js
    refine v_ aS (i6 (w64 ((boundsS u0).1.tdiv (w64 (h.tdiv i))))) (wK aS true) (quo_run aS (g := []) rfl (by kernel_rfl) (by kernel_rfl) jt rfl) ?_; intro m3 fy
    refine bt fy j 4 [] [124, 125, 126] [(127, .bool (decide ((w64 ((w64 ((w64 (u1 - (w64 (u0.Add * u2)))).tdiv a)).tdiv f)) < (w64 ((boundsS u0).1.tdiv (w64 (h.tdiv i)))))))] ?_; intro m4 aU
    refine e_ aT (fun F ju => ?_) fun F aV => ?_
    ·
     have fA := aU.reval (d := 127) (c := []) (v := .bool (decide ((w64 ((w64 ((w64 (u1 - (w64 (u0.Add * u2)))).tdiv a)).tdiv f)) < (w64 ((boundsS u0).1.tdiv (w64 (h.tdiv i))))))) (by kernel_rfl) (.bool true) (by rw [F])
     refine bt fA j 29 [] [128, 129, 130, 131, 132, 133, 134, 135, 136, 137, 138, 139, 140, 141, 143, 144, 145, 146, 147, 148, 149, 150, 151, 152, 153, 154, 155, 156] [(156, .bool true)] ?_; intro jv dE
     apply k
     refine cdT dE (by kernel_rfl) ?_
     have fB : Fr 171 [] [] jv := dE.reg
     refine sqB fB j [] [] [(6, i6 0), (7, i6 3)] ?_; intro m5 jw
     exact r_ (h_ (ra2 jw (.tuple #[i6 0, i6 3]) ⟨(0, 3), rfl, ju, j.below⟩))
    have aW := aU.reval (d := 127) (c := []) (v := .bool (decide ((w64 ((w64 ((w64 (u1 - (w64 (u0.Add * u2)))).tdiv a)).tdiv f)) < (w64 ((boundsS u0).1.tdiv (w64 (h.tdiv i))))))) (by kernel_rfl) (.bool false) (by rw [F])
    refine g_ aW false (i6 (w64 ((w64 ((w64 (u1 - (w64 (u0.Add * u2)))).tdiv a)).tdiv f))) ?_; intro m6 aX
    refine g_ aX false (.bool (decide ((w64 ((w64 ((w64 (u1 - (w64 (u0.Add * u2)))).tdiv a)).tdiv f)) > 0))) ?_; intro m7 aY
    refine g_ aY false (.bool (decide ((w64 ((w64 ((w64 (u1 - (w64 (u0.Add * u2)))).tdiv a)).tdiv f)) > 0))) ?_; intro m8 fC
    have fD := fC.atom ((decide ((w64 ((w64 ((w64 (u1 - (w64 (u0.Add * u2)))).tdiv a)).tdiv f)) > 0)) == true) (by kernel_rfl)
    refine gp fD 131 0 [] (decide ((w64 ((w64 ((w64 (u1 - (w64 (u0.Add * u2)))).tdiv a)).tdiv f)) > 0)) (i6 (w64 (h.tdiv i))) rfl rfl ?_; intro m9 fE
    refine gp fE 132 0 [] (decide ((w64 ((w64 ((w64 (u1 - (w64 (u0.Add * u2)))).tdiv a)).tdiv f)) > 0)) (.bool (decide ((w64 (h.tdiv i)) < 0))) rfl rfl ?_; intro na aZ
    refine v_ aZ (.bool ((decide ((w64 ((w64 ((w64 (u1 - (w64 (u0.Add * u2)))).tdiv a)).tdiv f)) > 0)) && (decide ((w64 (h.tdiv i)) < 0)))) (wK aZ false) (pk_and aZ (g := []) (m := 0) (b := decide ((w64 ((w64 ((w64 (u1 - (w64 (u0.Add * u2)))).tdiv a)).tdiv f)) > 0)) (v := decide ((w64 (h.tdiv i)) < 0)) rfl (by kernel_rfl) (by kernel_rfl) (by kernel_rfl) rfl) ?_; intro nb a2
    refine g_ a2 false (.bool ((decide ((w64 ((w64 ((w64 (u1 - (w64 (u0.Add * u2)))).tdiv a)).tdiv f)) > 0)) && (decide ((w64 (h.tdiv i)) < 0)))) ?_; intro nc a4
    refine e_ aV (fun G jx => ?_) fun G bk => ?_
    ·
     have fF := a4.reval (d := 134) (c := []) (v := .bool ((decide ((w64 ((w64 ((w64 (u1 - (w64 (u0.Add * u2)))).tdiv a)).tdiv f)) > 0)) && (decide ((w64 (h.tdiv i)) < 0)))) (by kernel_rfl) (.bool true) (by rw [G])
     refine bt fF j 3 [] [135, 136, 137] [(135, i6 (w64 ((w64 ((w64 (u1 - (w64 (u0.Add * u2)))).tdiv a)).tdiv f))), (136, i6 (boundsS u0).1), (137, i6 (w64 (h.tdiv i)))] ?_; intro nd a5
     obtain ⟨jy, a6⟩ := jx
     refine v_ a5 (i6 (w64 ((boundsS u0).1.tdiv (w64 (h.tdiv i))))) (wK a5 true) (quo_run a5 (g := []) rfl (by kernel_rfl) (by kernel_rfl) jy rfl) ?_; intro ne fG
     refine bt fG j 4 [] [139, 140, 141] [(142, .bool (decide ((w64 ((w64 ((w64 (u1 - (w64 (u0.Add * u2)))).tdiv a)).tdiv f)) > (w64 ((boundsS u0).1.tdiv (w64 (h.tdiv i)))))))] ?_; intro nf a7
     refine e_ a6 (fun H jz => ?_) fun H a8 => ?_
     ·
      have fH := a7.reval (d := 142) (c := []) (v := .bool (decide ((w64 ((w64 ((w64 (u1 - (w64 (u0.Add * u2)))).tdiv a)).tdiv f)) > (w64 ((boundsS u0).1.tdiv (w64 (h.tdiv i))))))) (by kernel_rfl) (.bool true) (by rw [H])
      refine bt fH j 14 [] [143, 144, 145, 146, 147, 148, 149, 150, 151, 152, 153, 154, 155, 156] [(156, .bool true)] ?_; intro jA dF
      apply k
      refine cdT dF (by kernel_rfl) ?_
      have fI : Fr 171 [] [] jA := dF.reg
      refine sqB fI j [] [] [(6, i6 0), (7, i6 3)] ?_; intro ng jB
      exact r_ (h_ (ra2 jB (.tuple #[i6 0, i6 3]) ⟨(0, 3), rfl, jz, j.below⟩))
     have ba := a7.reval (d := 142) (c := []) (v := .bool (decide ((w64 ((w64 ((w64 (u1 - (w64 (u0.Add * u2)))).tdiv a)).tdiv f)) > (w64 ((boundsS u0).1.tdiv (w64 (h.tdiv i))))))) (by kernel_rfl) (.bool false) (by rw [H])
     refine g_ ba false (i6 (w64 ((w64 ((w64 (u1 - (w64 (u0.Add * u2)))).tdiv a)).tdiv f))) ?_; intro nh bb
     refine g_ bb false (.bool (decide ((w64 ((w64 ((w64 (u1 - (w64 (u0.Add * u2)))).tdiv a)).tdiv f)) < 0))) ?_; intro ni bc
     refine g_ bc false (.bool (decide ((w64 ((w64 ((w64 (u1 - (w64 (u0.Add * u2)))).tdiv a)).tdiv f)) < 0))) ?_; intro nj fJ
     have fK := fJ.atom ((decide ((w64 ((w64 ((w64 (u1 - (w64 (u0.Add * u2)))).tdiv a)).tdiv f)) < 0)) == true) (by kernel_rfl)
     refine gp fK 146 0 [] (decide ((w64 ((w64 ((w64 (u1 - (w64 (u0.Add * u2)))).tdiv a)).tdiv f)) < 0)) (i6 (w64 (h.tdiv i))) rfl rfl ?_; intro nk fL
     refine gp fL 147 0 [] (decide ((w64 ((w64 ((w64 (u1 - (w64 (u0.Add * u2)))).tdiv a)).tdiv f)) < 0)) (.bool (decide ((w64 (h.tdiv i)) < 0))) rfl rfl ?_; intro nl bd
     refine v_ bd (.bool ((decide ((w64 ((w64 ((w64 (u1 - (w64 (u0.Add * u2)))).tdiv a)).tdiv f)) < 0)) && (decide ((w64 (h.tdiv i)) < 0)))) (wK bd false) (pk_and bd (g := []) (m := 0) (b := decide ((w64 ((w64 ((w64 (u1 - (w64 (u0.Add * u2)))).tdiv a)).tdiv f)) < 0)) (v := decide ((w64 (h.tdiv i)) < 0)) rfl (by kernel_rfl) (by kernel_rfl) (by kernel_rfl) rfl) ?_; intro nm be
     refine g_ be false (.bool ((decide ((w64 ((w64 ((w64 (u1 - (w64 (u0.Add * u2)))).tdiv a)).tdiv f)) < 0)) && (decide ((w64 (h.tdiv i)) < 0)))) ?_; intro nn bf
     refine e_ a8 (fun I jC => ?_) fun I bj => ?_
     ·
      have fM := bf.reval (d := 149) (c := []) (v := .bool ((decide ((w64 ((w64 ((w64 (u1 - (w64 (u0.Add * u2)))).tdiv a)).tdiv f)) < 0)) && (decide ((w64 (h.tdiv i)) < 0)))) (by kernel_rfl) (.bool true) (by rw [I])
      refine bt fM j 3 [] [150, 151, 152] [(150, i6 (w64 ((w64 ((w64 (u1 - (w64 (u0.Add * u2)))).tdiv a)).tdiv f))), (151, i6 (boundsS u0).2), (152, i6 (w64 (h.tdiv i)))] ?_; intro no bg
      obtain ⟨jD, bh⟩ := jC
      refine v_ bg (i6 (w64 ((boundsS u0).2.tdiv (w64 (h.tdiv i))))) (wK bg true) (quo_run bg (g := []) rfl (by kernel_rfl) (by kernel_rfl) jD rfl) ?_; intro np fN
      refine bt fN j 3 [] [154, 155, 156] [(156, .bool (decide ((w64 ((w64 ((w64 (u1 - (w64 (u0.Add * u2)))).tdiv a)).tdiv f)) < (w64 ((boundsS u0).2.tdiv (w64 (h.tdiv i)))))))] ?_; intro fO J
      apply k
      refine c_ J bh (fun _ jE => ?_) fun _ bi => ?_
      ·
       have fP : Fr 171 [] [] fO := J.reg
       refine sqB fP j [] [] [(6, i6 0), (7, i6 3)] ?_; intro nq jF
       exact r_ (h_ (ra2 jF (.tuple #[i6 0, i6 3]) ⟨(0, 3), rfl, jE, j.below⟩))
      refine k_ (s_ ?_)
      have fQ : Fr 171 [] [⟨9, [], i6 (w64 ((w64 ((w64 (u1 - (w64 (u0.Add * u2)))).tdiv a)).tdiv f))⟩, ⟨11, [], i6 (w64 (h.tdiv i))⟩, ⟨14, [], i6 (boundsS u0).1⟩, ⟨15, [], i6 (boundsS u0).2⟩] fO := J.reg
      refine sqB fQ j [] [] [(16, i6 (w64 ((w64 ((w64 ((w64 (u1 - (w64 (u0.Add * u2)))).tdiv a)).tdiv f)) * (w64 (h.tdiv i)))))] ?_; intro nr fR
      refine sqB fR j [] [] [(167, .bool ((decide ((w64 ((w64 ((w64 ((w64 (u1 - (w64 (u0.Add * u2)))).tdiv a)).tdiv f)) * (w64 (h.tdiv i)))) < (boundsS u0).1)) || (decide ((w64 ((w64 ((w64 ((w64 (u1 - (w64 (u0.Add * u2)))).tdiv a)).tdiv f)) * (w64 (h.tdiv i)))) > (boundsS u0).2))))] ?_; intro ns L
      refine c_ L bi (fun _ jG => ?_) fun _ jI => ?_
      ·
       refine sqB L j [] [] [(6, i6 0), (7, i6 3)] ?_; intro nt jH
       exact r_ (h_ (ra2 jH (.tuple #[i6 0, i6 3]) ⟨(0, 3), rfl, jG, j.below⟩))
      refine k_ (sqB L j [] [] [(6, i6 (w64 ((w64 ((w64 ((w64 (u1 - (w64 (u0.Add * u2)))).tdiv a)).tdiv f)) * (w64 (h.tdiv i))))), (7, i6 0)] ?_); intro nu jJ
      exact r_ (ra2 jJ (.tuple #[i6 (w64 ((w64 ((w64 ((w64 (u1 - (w64 (u0.Add * u2)))).tdiv a)).tdiv f)) * (w64 (h.tdiv i)))), i6 0]) ⟨(w64 ((w64 ((w64 ((w64 (u1 - (w64 (u0.Add * u2)))).tdiv a)).tdiv f)) * (w64 (h.tdiv i))), 0), rfl, jI, j.below⟩)
     have fS := bf.reval (d := 149) (c := []) (v := .bool ((decide ((w64 ((w64 ((w64 (u1 - (w64 (u0.Add * u2)))).tdiv a)).tdiv f)) < 0)) && (decide ((w64 (h.tdiv i)) < 0)))) (by kernel_rfl) (.bool false) (by rw [I])
     refine bt fS j 7 [] [150, 151, 152, 153, 154, 155, 156] [(156, .bool false)] ?_; intro jK dI
     apply k
     refine cdF dI (by kernel_rfl) ?_
     refine k_ (s_ ?_)
     have fT : Fr 171 [] [⟨9, [], i6 (w64 ((w64 ((w64 (u1 - (w64 (u0.Add * u2)))).tdiv a)).tdiv f))⟩, ⟨11, [], i6 (w64 (h.tdiv i))⟩, ⟨14, [], i6 (boundsS u0).1⟩, ⟨15, [], i6 (boundsS u0).2⟩] jK := dI.reg
     refine sqB fT j [] [] [(16, i6 (w64 ((w64 ((w64 ((w64 (u1 - (w64 (u0.Add * u2)))).tdiv a)).tdiv f)) * (w64 (h.tdiv i)))))] ?_; intro nv fU
     refine sqB fU j [] [] [(167, .bool ((decide ((w64 ((w64 ((w64 ((w64 (u1 - (w64 (u0.Add * u2)))).tdiv a)).tdiv f)) * (w64 (h.tdiv i)))) < (boundsS u0).1)) || (decide ((w64 ((w64 ((w64 ((w64 (u1 - (w64 (u0.Add * u2)))).tdiv a)).tdiv f)) * (w64 (h.tdiv i)))) > (boundsS u0).2))))] ?_; intro nx M
     refine c_ M bj (fun _ jL => ?_) fun _ jN => ?_
     ·
      refine sqB M j [] [] [(6, i6 0), (7, i6 3)] ?_; intro ny jM
      exact r_ (h_ (ra2 jM (.tuple #[i6 0, i6 3]) ⟨(0, 3), rfl, jL, j.below⟩))
     refine k_ (sqB M j [] [] [(6, i6 (w64 ((w64 ((w64 ((w64 (u1 - (w64 (u0.Add * u2)))).tdiv a)).tdiv f)) * (w64 (h.tdiv i))))), (7, i6 0)] ?_); intro nz jO
     exact r_ (ra2 jO (.tuple #[i6 (w64 ((w64 ((w64 ((w64 (u1 - (w64 (u0.Add * u2)))).tdiv a)).tdiv f)) * (w64 (h.tdiv i)))), i6 0]) ⟨(w64 ((w64 ((w64 ((w64 (u1 - (w64 (u0.Add * u2)))).tdiv a)).tdiv f)) * (w64 (h.tdiv i))), 0), rfl, jN, j.below⟩)
    have fV := a4.reval (d := 134) (c := []) (v := .bool ((decide ((w64 ((w64 ((w64 (u1 - (w64 (u0.Add * u2)))).tdiv a)).tdiv f)) > 0)) && (decide ((w64 (h.tdiv i)) < 0)))) (by kernel_rfl) (.bool false) (by rw [G])
    refine sk_ fV false ?_; intro nA fW
    refine sk_ fW false ?_; intro nB fX
    refine sk_ fX false ?_; intro nC fY
    refine sk_ fY false ?_; intro nD fZ
    refine sk_ fZ false ?_; intro nE bl
    refine g_ bl false (.bool false) ?_; intro nF f0
    refine s1 f0 141 (.bool false) ?_; intro nG f1
    refine s1 f1 142 (.bool false) ?_; intro nH bm
    refine g_ bm false (i6 (w64 ((w64 ((w64 (u1 - (w64 (u0.Add * u2)))).tdiv a)).tdiv f))) ?_; intro nI bn
    refine g_ bn false (.bool (decide ((w64 ((w64 ((w64 (u1 - (w64 (u0.Add * u2)))).tdiv a)).tdiv f)) < 0))) ?_; intro nJ bo
    refine g_ bo false (.bool (decide ((w64 ((w64 ((w64 (u1 - (w64 (u0.Add * u2)))).tdiv a)).tdiv f)) < 0))) ?_; intro nK f2
    have f3 := f2.atom ((decide ((w64 ((w64 ((w64 (u1 - (w64 (u0.Add * u2)))).tdiv a)).tdiv f)) < 0)) == true) (by kernel_rfl)
    refine gp f3 146 1 [] (decide ((w64 ((w64 ((w64 (u1 - (w64 (u0.Add * u2)))).tdiv a)).tdiv f)) < 0)) (i6 (w64 (h.tdiv i))) rfl rfl ?_; intro nL f4
    refine gp f4 147 1 [] (decide ((w64 ((w64 ((w64 (u1 - (w64 (u0.Add * u2)))).tdiv a)).tdiv f)) < 0)) (.bool (decide ((w64 (h.tdiv i)) < 0))) rfl rfl ?_; intro nM bp
    refine v_ bp (.bool ((decide ((w64 ((w64 ((w64 (u1 - (w64 (u0.Add * u2)))).tdiv a)).tdiv f)) < 0)) && (decide ((w64 (h.tdiv i)) < 0)))) (wK bp false) (pk_and bp (g := []) (m := 1) (b := decide ((w64 ((w64 ((w64 (u1 - (w64 (u0.Add * u2)))).tdiv a)).tdiv f)) < 0)) (v := decide ((w64 (h.tdiv i)) < 0)) rfl (by kernel_rfl) (by kernel_rfl) (by kernel_rfl) rfl) ?_; intro nN bq
    refine g_ bq false (.bool ((decide ((w64 ((w64 ((w64 (u1 - (w64 (u0.Add * u2)))).tdiv a)).tdiv f)) < 0)) && (decide ((w64 (h.tdiv i)) < 0)))) ?_; intro nO br
    refine e_ bk (fun N jP => ?_) fun N bw => ?_
    ·
     have f5 := br.reval (d := 149) (c := []) (v := .bool ((decide ((w64 ((w64 ((w64 (u1 - (w64 (u0.Add * u2)))).tdiv a)).tdiv f)) < 0)) && (decide ((w64 (h.tdiv i)) < 0)))) (by kernel_rfl) (.bool true) (by rw [N])
     refine bt f5 j 3 [] [150, 151, 152] [(150, i6 (w64 ((w64 ((w64 (u1 - (w64 (u0.Add * u2)))).tdiv a)).tdiv f))), (151, i6 (boundsS u0).2), (152, i6 (w64 (h.tdiv i)))] ?_; intro nP bs
     obtain ⟨jQ, bu⟩ := jP
     refine v_ bs (i6 (w64 ((boundsS u0).2.tdiv (w64 (h.tdiv i))))) (wK bs true) (quo_run bs (g := []) rfl (by kernel_rfl) (by kernel_rfl) jQ rfl) ?_; intro nQ f6
     refine bt f6 j 3 [] [154, 155, 156] [(156, .bool (decide ((w64 ((w64 ((w64 (u1 - (w64 (u0.Add * u2)))).tdiv a)).tdiv f)) < (w64 ((boundsS u0).2.tdiv (w64 (h.tdiv i)))))))] ?_; intro f7 O
     apply k
     refine c_ O bu (fun _ jR => ?_) fun _ bv => ?_
     ·
      have f8 : Fr 171 [] [] f7 := O.reg
      refine sqB f8 j [] [] [(6, i6 0), (7, i6 3)] ?_; intro nR jS
      exact r_ (h_ (ra2 jS (.tuple #[i6 0, i6 3]) ⟨(0, 3), rfl, jR, j.below⟩))
     refine k_ (s_ ?_)
     have f9 : Fr 171 [] [⟨9, [], i6 (w64 ((w64 ((w64 (u1 - (w64 (u0.Add * u2)))).tdiv a)).tdiv f))⟩, ⟨11, [], i6 (w64 (h.tdiv i))⟩, ⟨14, [], i6 (boundsS u0).1⟩, ⟨15, [], i6 (boundsS u0).2⟩] f7 := O.reg
     refine sqB f9 j [] [] [(16, i6 (w64 ((w64 ((w64 ((w64 (u1 - (w64 (u0.Add * u2)))).tdiv a)).tdiv f)) * (w64 (h.tdiv i)))))] ?_; intro nS ga
     refine sqB ga j [] [] [(167, .bool ((decide ((w64 ((w64 ((w64 ((w64 (u1 - (w64 (u0.Add * u2)))).tdiv a)).tdiv f)) * (w64 (h.tdiv i)))) < (boundsS u0).1)) || (decide ((w64 ((w64 ((w64 ((w64 (u1 - (w64 (u0.Add * u2)))).tdiv a)).tdiv f)) * (w64 (h.tdiv i)))) > (boundsS u0).2))))] ?_; intro nT P
     refine c_ P bv (fun _ jT => ?_) fun _ jV => ?_
     ·
      refine sqB P j [] [] [(6, i6 0), (7, i6 3)] ?_; intro nU jU
      exact r_ (h_ (ra2 jU (.tuple #[i6 0, i6 3]) ⟨(0, 3), rfl, jT, j.below⟩))
     refine k_ (sqB P j [] [] [(6, i6 (w64 ((w64 ((w64 ((w64 (u1 - (w64 (u0.Add * u2)))).tdiv a)).tdiv f)) * (w64 (h.tdiv i))))), (7, i6 0)] ?_); intro nV jW
     exact r_ (ra2 jW (.tuple #[i6 (w64 ((w64 ((w64 ((w64 (u1 - (w64 (u0.Add * u2)))).tdiv a)).tdiv f)) * (w64 (h.tdiv i)))), i6 0]) ⟨(w64 ((w64 ((w64 ((w64 (u1 - (w64 (u0.Add * u2)))).tdiv a)).tdiv f)) * (w64 (h.tdiv i))), 0), rfl, jV, j.below⟩)
    have gb := br.reval (d := 149) (c := []) (v := .bool ((decide ((w64 ((w64 ((w64 (u1 - (w64 (u0.Add * u2)))).tdiv a)).tdiv f)) < 0)) && (decide ((w64 (h.tdiv i)) < 0)))) (by kernel_rfl) (.bool false) (by rw [N])
    refine bt gb j 7 [] [150, 151, 152, 153, 154, 155, 156] [(156, .bool false)] ?_; intro jX dM
    apply k
    refine cdF dM (by kernel_rfl) ?_
    refine k_ (s_ ?_)
    have gc : Fr 171 [] [⟨9, [], i6 (w64 ((w64 ((w64 (u1 - (w64 (u0.Add * u2)))).tdiv a)).tdiv f))⟩, ⟨11, [], i6 (w64 (h.tdiv i))⟩, ⟨14, [], i6 (boundsS u0).1⟩, ⟨15, [], i6 (boundsS u0).2⟩] jX := dM.reg
    refine sqB gc j [] [] [(16, i6 (w64 ((w64 ((w64 ((w64 (u1 - (w64 (u0.Add * u2)))).tdiv a)).tdiv f)) * (w64 (h.tdiv i)))))] ?_; intro nW gd
    refine sqB gd j [] [] [(167, .bool ((decide ((w64 ((w64 ((w64 ((w64 (u1 - (w64 (u0.Add * u2)))).tdiv a)).tdiv f)) * (w64 (h.tdiv i)))) < (boundsS u0).1)) || (decide ((w64 ((w64 ((w64 ((w64 (u1 - (w64 (u0.Add * u2)))).tdiv a)).tdiv f)) * (w64 (h.tdiv i)))) > (boundsS u0).2))))] ?_; intro nX Q
    refine c_ Q bw (fun _ jY => ?_) fun _ j0 => ?_
    ·
     refine sqB Q j [] [] [(6, i6 0), (7, i6 3)] ?_; intro nY jZ
     exact r_ (h_ (ra2 jZ (.tuple #[i6 0, i6 3]) ⟨(0, 3), rfl, jY, j.below⟩))
    refine k_ (sqB Q j [] [] [(6, i6 (w64 ((w64 ((w64 ((w64 (u1 - (w64 (u0.Add * u2)))).tdiv a)).tdiv f)) * (w64 (h.tdiv i))))), (7, i6 0)] ?_); intro nZ j1
    exact r_ (ra2 j1 (.tuple #[i6 (w64 ((w64 ((w64 ((w64 (u1 - (w64 (u0.Add * u2)))).tdiv a)).tdiv f)) * (w64 (h.tdiv i)))), i6 0]) ⟨(w64 ((w64 ((w64 ((w64 (u1 - (w64 (u0.Add * u2)))).tdiv a)).tdiv f)) * (w64 (h.tdiv i))), 0), rfl, j0, j.below⟩)
   have ge := aR.reval (d := 119) (c := []) (v := .bool ((decide ((w64 ((w64 ((w64 (u1 - (w64 (u0.Add * u2)))).tdiv a)).tdiv f)) < 0)) && (decide ((w64 (h.tdiv i)) > 0)))) (by kernel_rfl) (.bool false) (by rw [E])
   refine sk_ ge false ?_; intro n0 gf
   refine sk_ gf false ?_; intro n1 gg
   refine sk_ gg false ?_; intro n2 gh
   refine sk_ gh false ?_; intro n3 gi
   refine sk_ gi false ?_; intro n4 bz
   refine g_ bz false (.bool false) ?_; intro n5 gj
   refine s1 gj 126 (.bool false) ?_; intro n6 gk
   refine s1 gk 127 (.bool false) ?_; intro n7 bA
   refine g_ bA false (i6 (w64 ((w64 ((w64 (u1 - (w64 (u0.Add * u2)))).tdiv a)).tdiv f))) ?_; intro n8 bB
   refine g_ bB false (.bool (decide ((w64 ((w64 ((w64 (u1 - (w64 (u0.Add * u2)))).tdiv a)).tdiv f)) > 0))) ?_; intro n9 bC
   refine g_ bC false (.bool (decide ((w64 ((w64 ((w64 (u1 - (w64 (u0.Add * u2)))).tdiv a)).tdiv f)) > 0))) ?_; intro oa gl
   have gm := gl.atom ((decide ((w64 ((w64 ((w64 (u1 - (w64 (u0.Add * u2)))).tdiv a)).tdiv f)) > 0)) == true) (by kernel_rfl)
   refine gp gm 131 1 [] (decide ((w64 ((w64 ((w64 (u1 - (w64 (u0.Add * u2)))).tdiv a)).tdiv f)) > 0)) (i6 (w64 (h.tdiv i))) rfl rfl ?_; intro ob gn
   refine gp gn 132 1 [] (decide ((w64 ((w64 ((w64 (u1 - (w64 (u0.Add * u2)))).tdiv a)).tdiv f)) > 0)) (.bool (decide ((w64 (h.tdiv i)) < 0))) rfl rfl ?_; intro oc bD
   refine v_ bD (.bool ((decide ((w64 ((w64 ((w64 (u1 - (w64 (u0.Add * u2)))).tdiv a)).tdiv f)) > 0)) && (decide ((w64 (h.tdiv i)) < 0)))) (wK bD false) (pk_and bD (g := []) (m := 1) (b := decide ((w64 ((w64 ((w64 (u1 - (w64 (u0.Add * u2)))).tdiv a)).tdiv f)) > 0)) (v := decide ((w64 (h.tdiv i)) < 0)) rfl (by kernel_rfl) (by kernel_rfl) (by kernel_rfl) rfl) ?_; intro od bE
   refine g_ bE false (.bool ((decide ((w64 ((w64 ((w64 (u1 - (w64 (u0.Add * u2)))).tdiv a)).tdiv f)) > 0)) && (decide ((w64 (h.tdiv i)) < 0)))) ?_; intro oe bF
   refine e_ bx (fun R j2 => ?_) fun R bU => ?_
   ·
    have go := bF.reval (d := 134) (c := []) (v := .bool ((decide ((w64 ((w64 ((w64 (u1 - (w64 (u0.Add * u2)))).tdiv a)).tdiv f)) > 0)) && (decide ((w64 (h.tdiv i)) < 0)))) (by kernel_rfl) (.bool true) (by rw [R])
    refine bt go j 3 [] [135, 136, 137] [(135, i6 (w64 ((w64 ((w64 (u1 - (w64 (u0.Add * u2)))).tdiv a)).tdiv f))), (136, i6 (boundsS u0).1), (137, i6 (w64 (h.tdiv i)))] ?_; intro og bG
    obtain ⟨j3, bH⟩ := j2
    refine v_ bG (i6 (w64 ((boundsS u0).1.tdiv (w64 (h.tdiv i))))) (wK bG true) (quo_run bG (g := []) rfl (by kernel_rfl) (by kernel_rfl) j3 rfl) ?_; intro oh gq
    refine bt gq j 4 [] [139, 140, 141] [(142, .bool (decide ((w64 ((w64 ((w64 (u1 - (w64 (u0.Add * u2)))).tdiv a)).tdiv f)) > (w64 ((boundsS u0).1.tdiv (w64 (h.tdiv i)))))))] ?_; intro oi bI
    refine e_ bH (fun S j4 => ?_) fun S bJ => ?_
    ·
     have gr := bI.reval (d := 142) (c := []) (v := .bool (decide ((w64 ((w64 ((w64 (u1 - (w64 (u0.Add * u2)))).tdiv a)).tdiv f)) > (w64 ((boundsS u0).1.tdiv (w64 (h.tdiv i))))))) (by kernel_rfl) (.bool true) (by rw [S])
     refine bt gr j 14 [] [143, 144, 145, 146, 147, 148, 149, 150, 151, 152, 153, 154, 155, 156] [(156, .bool true)] ?_; intro j5 dO
     apply k
     refine cdT dO (by kernel_rfl) ?_
     have gs : Fr 171 [] [] j5 := dO.reg
     refine sqB gs j [] [] [(6, i6 0), (7, i6 3)] ?_; intro oj j6
     exact r_ (h_ (ra2 j6 (.tuple #[i6 0, i6 3]) ⟨(0, 3), rfl, j4, j.below⟩))
    have bK := bI.reval (d := 142) (c := []) (v := .bool (decide ((w64 ((w64 ((w64 (u1 - (w64 (u0.Add * u2)))).tdiv a)).tdiv f)) > (w64 ((boundsS u0).1.tdiv (w64 (h.tdiv i))))))) (by kernel_rfl) (.bool false) (by rw [S])
    refine g_ bK false (i6 (w64 ((w64 ((w64 (u1 - (w64 (u0.Add * u2)))).tdiv a)).tdiv f))) ?_; intro ok bL
    refine g_ bL false (.bool (decide ((w64 ((w64 ((w64 (u1 - (w64 (u0.Add * u2)))).tdiv a)).tdiv f)) < 0))) ?_; intro ol bM
    refine g_ bM false (.bool (decide ((w64 ((w64 ((w64 (u1 - (w64 (u0.Add * u2)))).tdiv a)).tdiv f)) < 0))) ?_; intro om gt
    have gu := gt.atom ((decide ((w64 ((w64 ((w64 (u1 - (w64 (u0.Add * u2)))).tdiv a)).tdiv f)) < 0)) == true) (by kernel_rfl)
    refine gp gu 146 0 [] (decide ((w64 ((w64 ((w64 (u1 - (w64 (u0.Add * u2)))).tdiv a)).tdiv f)) < 0)) (i6 (w64 (h.tdiv i))) rfl rfl ?_; intro oo gv
    refine gp gv 147 0 [] (decide ((w64 ((w64 ((w64 (u1 - (w64 (u0.Add * u2)))).tdiv a)).tdiv f)) < 0)) (.bool (decide ((w64 (h.tdiv i)) < 0))) rfl rfl ?_; intro op bN
    refine v_ bN (.bool ((decide ((w64 ((w64 ((w64 (u1 - (w64 (u0.Add * u2)))).tdiv a)).tdiv f)) < 0)) && (decide ((w64 (h.tdiv i)) < 0)))) (wK bN false) (pk_and bN (g := []) (m := 0) (b := decide ((w64 ((w64 ((w64 (u1 - (w64 (u0.Add * u2)))).tdiv a)).tdiv f)) < 0)) (v := decide ((w64 (h.tdiv i)) < 0)) rfl (by kernel_rfl) (by kernel_rfl) (by kernel_rfl) rfl) ?_; intro oq bO
    refine g_ bO false (.bool ((decide ((w64 ((w64 ((w64 (u1 - (w64 (u0.Add * u2)))).tdiv a)).tdiv f)) < 0)) && (decide ((w64 (h.tdiv i)) < 0)))) ?_; intro or bP
    refine e_ bJ (fun T j7 => ?_) fun T bT => ?_
    ·
     have gw := bP.reval (d := 149) (c := []) (v := .bool ((decide ((w64 ((w64 ((w64 (u1 - (w64 (u0.Add * u2)))).tdiv a)).tdiv f)) < 0)) && (decide ((w64 (h.tdiv i)) < 0)))) (by kernel_rfl) (.bool true) (by rw [T])
     refine bt gw j 3 [] [150, 151, 152] [(150, i6 (w64 ((w64 ((w64 (u1 - (w64 (u0.Add * u2)))).tdiv a)).tdiv f))), (151, i6 (boundsS u0).2), (152, i6 (w64 (h.tdiv i)))] ?_; intro os bQ
     obtain ⟨j8, bR⟩ := j7
     refine v_ bQ (i6 (w64 ((boundsS u0).2.tdiv (w64 (h.tdiv i))))) (wK bQ true) (quo_run bQ (g := []) rfl (by kernel_rfl) (by kernel_rfl) j8 rfl) ?_; intro ot gx
     refine bt gx j 3 [] [154, 155, 156] [(156, .bool (decide ((w64 ((w64 ((w64 (u1 - (w64 (u0.Add * u2)))).tdiv a)).tdiv f)) < (w64 ((boundsS u0).2.tdiv (w64 (h.tdiv i)))))))] ?_; intro gy U
     apply k
     refine c_ U bR (fun _ j9 => ?_) fun _ bS => ?_
     ·
      have gz : Fr 171 [] [] gy := U.reg
      refine sqB gz j [] [] [(6, i6 0), (7, i6 3)] ?_; intro ou ka
      exact r_ (h_ (ra2 ka (.tuple #[i6 0, i6 3]) ⟨(0, 3), rfl, j9, j.below⟩))
     refine k_ (s_ ?_)
     have gA : Fr 171 [] [⟨9, [], i6 (w64 ((w64 ((w64 (u1 - (w64 (u0.Add * u2)))).tdiv a)).tdiv f))⟩, ⟨11, [], i6 (w64 (h.tdiv i))⟩, ⟨14, [], i6 (boundsS u0).1⟩, ⟨15, [], i6 (boundsS u0).2⟩] gy := U.reg
     refine sqB gA j [] [] [(16, i6 (w64 ((w64 ((w64 ((w64 (u1 - (w64 (u0.Add * u2)))).tdiv a)).tdiv f)) * (w64 (h.tdiv i)))))] ?_; intro ov gB
     refine sqB gB j [] [] [(167, .bool ((decide ((w64 ((w64 ((w64 ((w64 (u1 - (w64 (u0.Add * u2)))).tdiv a)).tdiv f)) * (w64 (h.tdiv i)))) < (boundsS u0).1)) || (decide ((w64 ((w64 ((w64 ((w64 (u1 - (w64 (u0.Add * u2)))).tdiv a)).tdiv f)) * (w64 (h.tdiv i)))) > (boundsS u0).2))))] ?_; intro ow V
     refine c_ V bS (fun _ kb => ?_) fun _ kd => ?_
     ·
      refine sqB V j [] [] [(6, i6 0), (7, i6 3)] ?_; intro ox kc
      exact r_ (h_ (ra2 kc (.tuple #[i6 0, i6 3]) ⟨(0, 3), rfl, kb, j.below⟩))
     refine k_ (sqB V j [] [] [(6, i6 (w64 ((w64 ((w64 ((w64 (u1 - (w64 (u0.Add * u2)))).tdiv a)).tdiv f)) * (w64 (h.tdiv i))))), (7, i6 0)] ?_); intro oy ke
     exact r_ (ra2 ke (.tuple #[i6 (w64 ((w64 ((w64 ((w64 (u1 - (w64 (u0.Add * u2)))).tdiv a)).tdiv f)) * (w64 (h.tdiv i)))), i6 0]) ⟨(w64 ((w64 ((w64 ((w64 (u1 - (w64 (u0.Add * u2)))).tdiv a)).tdiv f)) * (w64 (h.tdiv i))), 0), rfl, kd, j.below⟩)
    have gC := bP.reval (d := 149) (c := []) (v := .bool ((decide ((w64 ((w64 ((w64 (u1 - (w64 (u0.Add * u2)))).tdiv a)).tdiv f)) < 0)) && (decide ((w64 (h.tdiv i)) < 0)))) (by kernel_rfl) (.bool false) (by rw [T])
    refine bt gC j 7 [] [150, 151, 152, 153, 154, 155, 156] [(156, .bool false)] ?_; intro kf dR
    apply k
    refine cdF dR (by kernel_rfl) ?_
    refine k_ (s_ ?_)
    have gD : Fr 171 [] [⟨9, [], i6 (w64 ((w64 ((w64 (u1 - (w64 (u0.Add * u2)))).tdiv a)).tdiv f))⟩, ⟨11, [], i6 (w64 (h.tdiv i))⟩, ⟨14, [], i6 (boundsS u0).1⟩, ⟨15, [], i6 (boundsS u0).2⟩] kf := dR.reg
    refine sqB gD j [] [] [(16, i6 (w64 ((w64 ((w64 ((w64 (u1 - (w64 (u0.Add * u2)))).tdiv a)).tdiv f)) * (w64 (h.tdiv i)))))] ?_; intro oz gE
    refine sqB gE j [] [] [(167, .bool ((decide ((w64 ((w64 ((w64 ((w64 (u1 - (w64 (u0.Add * u2)))).tdiv a)).tdiv f)) * (w64 (h.tdiv i)))) < (boundsS u0).1)) || (decide ((w64 ((w64 ((w64 ((w64 (u1 - (w64 (u0.Add * u2)))).tdiv a)).tdiv f)) * (w64 (h.tdiv i)))) > (boundsS u0).2))))] ?_; intro oA W
    refine c_ W bT (fun _ kg => ?_) fun _ ki => ?_
    ·
     refine sqB W j [] [] [(6, i6 0), (7, i6 3)] ?_; intro oB kh
     exact r_ (h_ (ra2 kh (.tuple #[i6 0, i6 3]) ⟨(0, 3), rfl, kg, j.below⟩))
    refine k_ (sqB W j [] [] [(6, i6 (w64 ((w64 ((w64 ((w64 (u1 - (w64 (u0.Add * u2)))).tdiv a)).tdiv f)) * (w64 (h.tdiv i))))), (7, i6 0)] ?_); intro oC kj
    exact r_ (ra2 kj (.tuple #[i6 (w64 ((w64 ((w64 ((w64 (u1 - (w64 (u0.Add * u2)))).tdiv a)).tdiv f)) * (w64 (h.tdiv i)))), i6 0]) ⟨(w64 ((w64 ((w64 ((w64 (u1 - (w64 (u0.Add * u2)))).tdiv a)).tdiv f)) * (w64 (h.tdiv i))), 0), rfl, ki, j.below⟩)
   have gF := bF.reval (d := 134) (c := []) (v := .bool ((decide ((w64 ((w64 ((w64 (u1 - (w64 (u0.Add * u2)))).tdiv a)).tdiv f)) > 0)) && (decide ((w64 (h.tdiv i)) < 0)))) (by kernel_rfl) (.bool false) (by rw [R])
   refine sk_ gF false ?_; intro oD gG
   refine sk_ gG false ?_; intro oE gH
   refine sk_ gH false ?_; intro oF gI
   refine sk_ gI false ?_; intro oG gJ
   refine sk_ gJ false ?_; intro oH bV
   refine g_ bV false (.bool false) ?_; intro oI gK
   refine s1 gK 141 (.bool false) ?_; intro oJ gL
   refine s1 gL 142 (.bool false) ?_; intro oK bW
   refine g_ bW false (i6 (w64 ((w64 ((w64 (u1 - (w64 (u0.Add * u2)))).tdiv a)).tdiv f))) ?_; intro oL bX
   refine g_ bX false (.bool (decide ((w64 ((w64 ((w64 (u1 - (w64 (u0.Add * u2)))).tdiv a)).tdiv f)) < 0))) ?_; intro oM bY
   refine g_ bY false (.bool (decide ((w64 ((w64 ((w64 (u1 - (w64 (u0.Add * u2)))).tdiv a)).tdiv f)) < 0))) ?_; intro oN gM
   refine gp gM 146 0 [] (decide ((w64 ((w64 ((w64 (u1 - (w64 (u0.Add * u2)))).tdiv a)).tdiv f)) < 0)) (i6 (w64 (h.tdiv i))) rfl rfl ?_; intro oO gN
   refine gp gN 147 0 [] (decide ((w64 ((w64 ((w64 (u1 - (w64 (u0.Add * u2)))).tdiv a)).tdiv f)) < 0)) (.bool (decide ((w64 (h.tdiv i)) < 0))) rfl rfl ?_; intro oP bZ
   refine v_ bZ (.bool ((decide ((w64 ((w64 ((w64 (u1 - (w64 (u0.Add * u2)))).tdiv a)).tdiv f)) < 0)) && (decide ((w64 (h.tdiv i)) < 0)))) (wK bZ false) (pk_and bZ (g := []) (m := 0) (b := decide ((w64 ((w64 ((w64 (u1 - (w64 (u0.Add * u2)))).tdiv a)).tdiv f)) < 0)) (v := decide ((w64 (h.tdiv i)) < 0)) rfl (by kernel_rfl) (by kernel_rfl) (by kernel_rfl) rfl) ?_; intro oQ b0
   refine g_ b0 false (.bool ((decide ((w64 ((w64 ((w64 (u1 - (w64 (u0.Add * u2)))).tdiv a)).tdiv f)) < 0)) && (decide ((w64 (h.tdiv i)) < 0)))) ?_; intro oR b1
   refine e_ bU (fun X kk => ?_) fun X b6 => ?_
   ·
    have gO := b1.reval (d := 149) (c := []) (v := .bool ((decide ((w64 ((w64 ((w64 (u1 - (w64 (u0.Add * u2)))).tdiv a)).tdiv f)) < 0)) && (decide ((w64 (h.tdiv i)) < 0)))) (by kernel_rfl) (.bool true) (by rw [X])
    refine bt gO j 3 [] [150, 151, 152] [(150, i6 (w64 ((w64 ((w64 (u1 - (w64 (u0.Add * u2)))).tdiv a)).tdiv f))), (151, i6 (boundsS u0).2), (152, i6 (w64 (h.tdiv i)))] ?_; intro oS b3
    obtain ⟨kl, b4⟩ := kk
    refine v_ b3 (i6 (w64 ((boundsS u0).2.tdiv (w64 (h.tdiv i))))) (wK b3 true) (quo_run b3 (g := []) rfl (by kernel_rfl) (by kernel_rfl) kl rfl) ?_; intro oT gP
    refine bt gP j 3 [] [154, 155, 156] [(156, .bool (decide ((w64 ((w64 ((w64 (u1 - (w64 (u0.Add * u2)))).tdiv a)).tdiv f)) < (w64 ((boundsS u0).2.tdiv (w64 (h.tdiv i)))))))] ?_; intro gQ Y
    apply k
    refine c_ Y b4 (fun _ km => ?_) fun _ b5 => ?_
    ·
     have gR : Fr 171 [] [] gQ := Y.reg
     refine sqB gR j [] [] [(6, i6 0), (7, i6 3)] ?_; intro oU kn
     exact r_ (h_ (ra2 kn (.tuple #[i6 0, i6 3]) ⟨(0, 3), rfl, km, j.below⟩))
    refine k_ (s_ ?_)
    have gS : Fr 171 [] [⟨9, [], i6 (w64 ((w64 ((w64 (u1 - (w64 (u0.Add * u2)))).tdiv a)).tdiv f))⟩, ⟨11, [], i6 (w64 (h.tdiv i))⟩, ⟨14, [], i6 (boundsS u0).1⟩, ⟨15, [], i6 (boundsS u0).2⟩] gQ := Y.reg
    refine sqB gS j [] [] [(16, i6 (w64 ((w64 ((w64 ((w64 (u1 - (w64 (u0.Add * u2)))).tdiv a)).tdiv f)) * (w64 (h.tdiv i)))))] ?_; intro oV gT
    refine sqB gT j [] [] [(167, .bool ((decide ((w64 ((w64 ((w64 ((w64 (u1 - (w64 (u0.Add * u2)))).tdiv a)).tdiv f)) * (w64 (h.tdiv i)))) < (boundsS u0).1)) || (decide ((w64 ((w64 ((w64 ((w64 (u1 - (w64 (u0.Add * u2)))).tdiv a)).tdiv f)) * (w64 (h.tdiv i)))) > (boundsS u0).2))))] ?_; intro oW aa
    refine c_ aa b5 (fun _ ko => ?_) fun _ kq => ?_
    ·
     refine sqB aa j [] [] [(6, i6 0), (7, i6 3)] ?_; intro oX kp
     exact r_ (h_ (ra2 kp (.tuple #[i6 0, i6 3]) ⟨(0, 3), rfl, ko, j.below⟩))
    refine k_ (sqB aa j [] [] [(6, i6 (w64 ((w64 ((w64 ((w64 (u1 - (w64 (u0.Add * u2)))).tdiv a)).tdiv f)) * (w64 (h.tdiv i))))), (7, i6 0)] ?_); intro oY kr
    exact r_ (ra2 kr (.tuple #[i6 (w64 ((w64 ((w64 ((w64 (u1 - (w64 (u0.Add * u2)))).tdiv a)).tdiv f)) * (w64 (h.tdiv i)))), i6 0]) ⟨(w64 ((w64 ((w64 ((w64 (u1 - (w64 (u0.Add * u2)))).tdiv a)).tdiv f)) * (w64 (h.tdiv i))), 0), rfl, kq, j.below⟩)
   have gU := b1.reval (d := 149) (c := []) (v := .bool ((decide ((w64 ((w64 ((w64 (u1 - (w64 (u0.Add * u2)))).tdiv a)).tdiv f)) < 0)) && (decide ((w64 (h.tdiv i)) < 0)))) (by kernel_rfl) (.bool false) (by rw [X])
   refine bt gU j 7 [] [150, 151, 152, 153, 154, 155, 156] [(156, .bool false)] ?_; intro ks dV
   apply k
   refine cdF dV (by kernel_rfl) ?_
   refine k_ (s_ ?_)
   have gV : Fr 171 [] [⟨9, [], i6 (w64 ((w64 ((w64 (u1 - (w64 (u0.Add * u2)))).tdiv a)).tdiv f))⟩, ⟨11, [], i6 (w64 (h.tdiv i))⟩, ⟨14, [], i6 (boundsS u0).1⟩, ⟨15, [], i6 (boundsS u0).2⟩] ks := dV.reg
   refine sqB gV j [] [] [(16, i6 (w64 ((w64 ((w64 ((w64 (u1 - (w64 (u0.Add * u2)))).tdiv a)).tdiv f)) * (w64 (h.tdiv i)))))] ?_; intro oZ gW
   refine sqB gW j [] [] [(167, .bool ((decide ((w64 ((w64 ((w64 ((w64 (u1 - (w64 (u0.Add * u2)))).tdiv a)).tdiv f)) * (w64 (h.tdiv i)))) < (boundsS u0).1)) || (decide ((w64 ((w64 ((w64 ((w64 (u1 - (w64 (u0.Add * u2)))).tdiv a)).tdiv f)) * (w64 (h.tdiv i)))) > (boundsS u0).2))))] ?_; intro o0 ab
   refine c_ ab b6 (fun _ kt => ?_) fun _ kv => ?_
   ·
    refine sqB ab j [] [] [(6, i6 0), (7, i6 3)] ?_; intro o1 ku
    exact r_ (h_ (ra2 ku (.tuple #[i6 0, i6 3]) ⟨(0, 3), rfl, kt, j.below⟩))
   refine k_ (sqB ab j [] [] [(6, i6 (w64 ((w64 ((w64 ((w64 (u1 - (w64 (u0.Add * u2)))).tdiv a)).tdiv f)) * (w64 (h.tdiv i))))), (7, i6 0)] ?_); intro o2 kw
   exact r_ (ra2 kw (.tuple #[i6 (w64 ((w64 ((w64 ((w64 (u1 - (w64 (u0.Add * u2)))).tdiv a)).tdiv f)) * (w64 (h.tdiv i)))), i6 0]) ⟨(w64 ((w64 ((w64 ((w64 (u1 - (w64 (u0.Add * u2)))).tdiv a)).tdiv f)) * (w64 (h.tdiv i))), 0), rfl, kv, j.below⟩)
  have gX := aH.reval (d := 105) (c := []) (v := .bool ((decide ((w64 ((w64 ((w64 (u1 - (w64 (u0.Add * u2)))).tdiv a)).tdiv f)) > 0)) && (decide ((w64 (h.tdiv i)) > 0)))) (by kernel_rfl) (.bool false) (by rw [C])
  refine sk_ gX false ?_; intro o3 gY
  refine sk_ gY false ?_; intro o4 gZ
  refine sk_ gZ false ?_; intro o5 g0
  refine sk_ g0 false ?_; intro o6 g1
  refine sk_ g1 false ?_; intro o7 g2
  refine s1 g2 111 (.bool false) ?_; intro o8 g3
  refine s1 g3 112 (.bool false) ?_; intro o9 b8
  refine g_ b8 false (i6 (w64 ((w64 ((w64 (u1 - (w64 (u0.Add * u2)))).tdiv a)).tdiv f))) ?_; intro pa b9
  refine g_ b9 false (.bool (decide ((w64 ((w64 ((w64 (u1 - (w64 (u0.Add * u2)))).tdiv a)).tdiv f)) < 0))) ?_; intro pc ca
  refine g_ ca false (.bool (decide ((w64 ((w64 ((w64 (u1 - (w64 (u0.Add * u2)))).tdiv a)).tdiv f)) < 0))) ?_; intro pd g4
  have g5 := g4.atom ((decide ((w64 ((w64 ((w64 (u1 - (w64 (u0.Add * u2)))).tdiv a)).tdiv f)) < 0)) == true) (by kernel_rfl)
  refine gp g5 116 0 [] (decide ((w64 ((w64 ((w64 (u1 - (w64 (u0.Add * u2)))).tdiv a)).tdiv f)) < 0)) (i6 (w64 (h.tdiv i))) rfl rfl ?_; intro pe g6
  refine gp g6 117 0 [] (decide ((w64 ((w64 ((w64 (u1 - (w64 (u0.Add * u2)))).tdiv a)).tdiv f)) < 0)) (.bool (decide ((w64 (h.tdiv i)) > 0))) rfl rfl ?_; intro pf cb
  refine v_ cb (.bool ((decide ((w64 ((w64 ((w64 (u1 - (w64 (u0.Add * u2)))).tdiv a)).tdiv f)) < 0)) && (decide ((w64 (h.tdiv i)) > 0)))) (wK cb false) (pk_and cb (g := []) (m := 0) (b := decide ((w64 ((w64 ((w64 (u1 - (w64 (u0.Add * u2)))).tdiv a)).tdiv f)) < 0)) (v := decide ((w64 (h.tdiv i)) > 0)) rfl (by kernel_rfl) (by kernel_rfl) (by kernel_rfl) rfl) ?_; intro pg cc
  refine g_ cc false (.bool ((decide ((w64 ((w64 ((w64 (u1 - (w64 (u0.Add * u2)))).tdiv a)).tdiv f)) < 0)) && (decide ((w64 (h.tdiv i)) > 0)))) ?_; intro ph ce
  refine e_ b7 (fun ac kx => ?_) fun ac cR => ?_
  ·
   have g7 := ce.reval (d := 119) (c := []) (v := .bool ((decide ((w64 ((w64 ((w64 (u1 - (w64 (u0.Add * u2)))).tdiv a)).tdiv f)) < 0)) && (decide ((w64 (h.tdiv i)) > 0)))) (by kernel_rfl) (.bool true) (by rw [ac])
   refine bt g7 j 3 [] [120, 121, 122] [(120, i6 (w64 ((w64 ((w64 (u1 - (w64 (u0.Add * u2)))).tdiv a)).tdiv f))), (121, i6 (boundsS u0).1), (122, i6 (w64 (h.tdiv i)))] ?_; intro pi cf
   obtain ⟨ky, cg⟩ := kx
   refine v_ cf (i6 (w64 ((boundsS u0).1.tdiv (w64 (h.tdiv i))))) (wK cf true) (quo_run cf (g := []) rfl (by kernel_rfl) (by kernel_rfl) ky rfl) ?_; intro pj g8
   refine bt g8 j 4 [] [124, 125, 126] [(127, .bool (decide ((w64 ((w64 ((w64 (u1 - (w64 (u0.Add * u2)))).tdiv a)).tdiv f)) < (w64 ((boundsS u0).1.tdiv (w64 (h.tdiv i)))))))] ?_; intro pk ch
   refine e_ cg (fun ad kz => ?_) fun ad ci => ?_
   ·
    have g9 := ch.reval (d := 127) (c := []) (v := .bool (decide ((w64 ((w64 ((w64 (u1 - (w64 (u0.Add * u2)))).tdiv a)).tdiv f)) < (w64 ((boundsS u0).1.tdiv (w64 (h.tdiv i))))))) (by kernel_rfl) (.bool true) (by rw [ad])
    refine bt g9 j 29 [] [128, 129, 130, 131, 132, 133, 134, 135, 136, 137, 138, 139, 140, 141, 143, 144, 145, 146, 147, 148, 149, 150, 151, 152, 153, 154, 155, 156] [(156, .bool true)] ?_; intro kA dX
    apply k
    refine cdT dX (by kernel_rfl) ?_
    have ha : Fr 171 [] [] kA := dX.reg
    refine sqB ha j [] [] [(6, i6 0), (7, i6 3)] ?_; intro pl kB
    exact r_ (h_ (ra2 kB (.tuple #[i6 0, i6 3]) ⟨(0, 3), rfl, kz, j.below⟩))
   have cj := ch.reval (d := 127) (c := []) (v := .bool (decide ((w64 ((w64 ((w64 (u1 - (w64 (u0.Add * u2)))).tdiv a)).tdiv f)) < (w64 ((boundsS u0).1.tdiv (w64 (h.tdiv i))))))) (by kernel_rfl) (.bool false) (by rw [ad])
   refine g_ cj false (i6 (w64 ((w64 ((w64 (u1 - (w64 (u0.Add * u2)))).tdiv a)).tdiv f))) ?_; intro pm cl
   refine g_ cl false (.bool (decide ((w64 ((w64 ((w64 (u1 - (w64 (u0.Add * u2)))).tdiv a)).tdiv f)) > 0))) ?_; intro pn cm
   refine g_ cm false (.bool (decide ((w64 ((w64 ((w64 (u1 - (w64 (u0.Add * u2)))).tdiv a)).tdiv f)) > 0))) ?_; intro po hc
   have hd := hc.atom ((decide ((w64 ((w64 ((w64 (u1 - (w64 (u0.Add * u2)))).tdiv a)).tdiv f)) > 0)) == true) (by kernel_rfl)
   refine gp hd 131 0 [] (decide ((w64 ((w64 ((w64 (u1 - (w64 (u0.Add * u2)))).tdiv a)).tdiv f)) > 0)) (i6 (w64 (h.tdiv i))) rfl rfl ?_; intro pp he
   refine gp he 132 0 [] (decide ((w64 ((w64 ((w64 (u1 - (w64 (u0.Add * u2)))).tdiv a)).tdiv f)) > 0)) (.bool (decide ((w64 (h.tdiv i)) < 0))) rfl rfl ?_; intro pq cn
   refine v_ cn (.bool ((decide ((w64 ((w64 ((w64 (u1 - (w64 (u0.Add * u2)))).tdiv a)).tdiv f)) > 0)) && (decide ((w64 (h.tdiv i)) < 0)))) (wK cn false) (pk_and cn (g := []) (m := 0) (b := decide ((w64 ((w64 ((w64 (u1 - (w64 (u0.Add * u2)))).tdiv a)).tdiv f)) > 0)) (v := decide ((w64 (h.tdiv i)) < 0)) rfl (by kernel_rfl) (by kernel_rfl) (by kernel_rfl) rfl) ?_; intro pr co
   refine g_ co false (.bool ((decide ((w64 ((w64 ((w64 (u1 - (w64 (u0.Add * u2)))).tdiv a)).tdiv f)) > 0)) && (decide ((w64 (h.tdiv i)) < 0)))) ?_; intro ps cp
   refine e_ ci (fun ae kC => ?_) fun ae cF => ?_
   ·
    have hf := cp.reval (d := 134) (c := []) (v := .bool ((decide ((w64 ((w64 ((w64 (u1 - (w64 (u0.Add * u2)))).tdiv a)).tdiv f)) > 0)) && (decide ((w64 (h.tdiv i)) < 0)))) (by kernel_rfl) (.bool true) (by rw [ae])
    refine bt hf j 3 [] [135, 136, 137] [(135, i6 (w64 ((w64 ((w64 (u1 - (w64 (u0.Add * u2)))).tdiv a)).tdiv f))), (136, i6 (boundsS u0).1), (137, i6 (w64 (h.tdiv i)))] ?_; intro pu cq
    obtain ⟨kD, cr⟩ := kC
    refine v_ cq (i6 (w64 ((boundsS u0).1.tdiv (w64 (h.tdiv i))))) (wK cq true) (quo_run cq (g := []) rfl (by kernel_rfl) (by kernel_rfl) kD rfl) ?_; intro pv hg
    refine bt hg j 4 [] [139, 140, 141] [(142, .bool (decide ((w64 ((w64 ((w64 (u1 - (w64 (u0.Add * u2)))).tdiv a)).tdiv f)) > (w64 ((boundsS u0).1.tdiv (w64 (h.tdiv i)))))))] ?_; intro pw ct
    refine e_ cr (fun af kE => ?_) fun af cu => ?_
    ·
     have hh := ct.reval (d := 142) (c := []) (v := .bool (decide ((w64 ((w64 ((w64 (u1 - (w64 (u0.Add * u2)))).tdiv a)).tdiv f)) > (w64 ((boundsS u0).1.tdiv (w64 (h.tdiv i))))))) (by kernel_rfl) (.bool true) (by rw [af])
     refine bt hh j 14 [] [143, 144, 145, 146, 147, 148, 149, 150, 151, 152, 153, 154, 155, 156] [(156, .bool true)] ?_; intro kF dY
     apply k
     refine cdT dY (by kernel_rfl) ?_
     have hi : Fr 171 [] [] kF := dY.reg
     refine sqB hi j [] [] [(6, i6 0), (7, i6 3)] ?_; intro px kG
     exact r_ (h_ (ra2 kG (.tuple #[i6 0, i6 3]) ⟨(0, 3), rfl, kE, j.below⟩))
    have cv := ct.reval (d := 142) (c := []) (v := .bool (decide ((w64 ((w64 ((w64 (u1 - (w64 (u0.Add * u2)))).tdiv a)).tdiv f)) > (w64 ((boundsS u0).1.tdiv (w64 (h.tdiv i))))))) (by kernel_rfl) (.bool false) (by rw [af])
    refine g_ cv false (i6 (w64 ((w64 ((w64 (u1 - (w64 (u0.Add * u2)))).tdiv a)).tdiv f))) ?_; intro py cw
    refine g_ cw false (.bool (decide ((w64 ((w64 ((w64 (u1 - (w64 (u0.Add * u2)))).tdiv a)).tdiv f)) < 0))) ?_; intro pz cx
    refine g_ cx false (.bool (decide ((w64 ((w64 ((w64 (u1 - (w64 (u0.Add * u2)))).tdiv a)).tdiv f)) < 0))) ?_; intro pA hj
    have hk := hj.atom ((decide ((w64 ((w64 ((w64 (u1 - (w64 (u0.Add * u2)))).tdiv a)).tdiv f)) < 0)) == true) (by kernel_rfl)
    refine gp hk 146 0 [] (decide ((w64 ((w64 ((w64 (u1 - (w64 (u0.Add * u2)))).tdiv a)).tdiv f)) < 0)) (i6 (w64 (h.tdiv i))) rfl rfl ?_; intro pB hl
    refine gp hl 147 0 [] (decide ((w64 ((w64 ((w64 (u1 - (w64 (u0.Add * u2)))).tdiv a)).tdiv f)) < 0)) (.bool (decide ((w64 (h.tdiv i)) < 0))) rfl rfl ?_; intro pC cy
    refine v_ cy (.bool ((decide ((w64 ((w64 ((w64 (u1 - (w64 (u0.Add * u2)))).tdiv a)).tdiv f)) < 0)) && (decide ((w64 (h.tdiv i)) < 0)))) (wK cy false) (pk_and cy (g := []) (m := 0) (b := decide ((w64 ((w64 ((w64 (u1 - (w64 (u0.Add * u2)))).tdiv a)).tdiv f)) < 0)) (v := decide ((w64 (h.tdiv i)) < 0)) rfl (by kernel_rfl) (by kernel_rfl) (by kernel_rfl) rfl) ?_; intro pD cz
    refine g_ cz false (.bool ((decide ((w64 ((w64 ((w64 (u1 - (w64 (u0.Add * u2)))).tdiv a)).tdiv f)) < 0)) && (decide ((w64 (h.tdiv i)) < 0)))) ?_; intro pE cA
    refine e_ cu (fun ag kH => ?_) fun ag cE => ?_
    ·
     have hm := cA.reval (d := 149) (c := []) (v := .bool ((decide ((w64 ((w64 ((w64 (u1 - (w64 (u0.Add * u2)))).tdiv a)).tdiv f)) < 0)) && (decide ((w64 (h.tdiv i)) < 0)))) (by kernel_rfl) (.bool true) (by rw [ag])
     refine bt hm j 3 [] [150, 151, 152] [(150, i6 (w64 ((w64 ((w64 (u1 - (w64 (u0.Add * u2)))).tdiv a)).tdiv f))), (151, i6 (boundsS u0).2), (152, i6 (w64 (h.tdiv i)))] ?_; intro pF cB
     obtain ⟨kI, cC⟩ := kH
     refine v_ cB (i6 (w64 ((boundsS u0).2.tdiv (w64 (h.tdiv i))))) (wK cB true) (quo_run cB (g := []) rfl (by kernel_rfl) (by kernel_rfl) kI rfl) ?_; intro pG hn
     refine bt hn j 3 [] [154, 155, 156] [(156, .bool (decide ((w64 ((w64 ((w64 (u1 - (w64 (u0.Add * u2)))).tdiv a)).tdiv f)) < (w64 ((boundsS u0).2.tdiv (w64 (h.tdiv i)))))))] ?_; intro ho ah
     apply k
     refine c_ ah cC (fun _ kJ => ?_) fun _ cD => ?_
     ·
      have hq : Fr 171 [] [] ho := ah.reg
      refine sqB hq j [] [] [(6, i6 0), (7, i6 3)] ?_; intro pH kK
      exact r_ (h_ (ra2 kK (.tuple #[i6 0, i6 3]) ⟨(0, 3), rfl, kJ, j.below⟩))
     refine k_ (s_ ?_)
     have hr : Fr 171 [] [⟨9, [], i6 (w64 ((w64 ((w64 (u1 - (w64 (u0.Add * u2)))).tdiv a)).tdiv f))⟩, ⟨11, [], i6 (w64 (h.tdiv i))⟩, ⟨14, [], i6 (boundsS u0).1⟩, ⟨15, [], i6 (boundsS u0).2⟩] ho := ah.reg
     refine sqB hr j [] [] [(16, i6 (w64 ((w64 ((w64 ((w64 (u1 - (w64 (u0.Add * u2)))).tdiv a)).tdiv f)) * (w64 (h.tdiv i)))))] ?_; intro pI hs
     refine sqB hs j [] [] [(167, .bool ((decide ((w64 ((w64 ((w64 ((w64 (u1 - (w64 (u0.Add * u2)))).tdiv a)).tdiv f)) * (w64 (h.tdiv i)))) < (boundsS u0).1)) || (decide ((w64 ((w64 ((w64 ((w64 (u1 - (w64 (u0.Add * u2)))).tdiv a)).tdiv f)) * (w64 (h.tdiv i)))) > (boundsS u0).2))))] ?_; intro pJ ai
     refine c_ ai cD (fun _ kL => ?_) fun _ kN => ?_
     ·
      refine sqB ai j [] [] [(6, i6 0), (7, i6 3)] ?_; intro pK kM
      exact r_ (h_ (ra2 kM (.tuple #[i6 0, i6 3]) ⟨(0, 3), rfl, kL, j.below⟩))
     refine k_ (sqB ai j [] [] [(6, i6 (w64 ((w64 ((w64 ((w64 (u1 - (w64 (u0.Add * u2)))).tdiv a)).tdiv f)) * (w64 (h.tdiv i))))), (7, i6 0)] ?_); intro pL kO
     exact r_ (ra2 kO (.tuple #[i6 (w64 ((w64 ((w64 ((w64 (u1 - (w64 (u0.Add * u2)))).tdiv a)).tdiv f)) * (w64 (h.tdiv i)))), i6 0]) ⟨(w64 ((w64 ((w64 ((w64 (u1 - (w64 (u0.Add * u2)))).tdiv a)).tdiv f)) * (w64 (h.tdiv i))), 0), rfl, kN, j.below⟩)
    have ht := cA.reval (d := 149) (c := []) (v := .bool ((decide ((w64 ((w64 ((w64 (u1 - (w64 (u0.Add * u2)))).tdiv a)).tdiv f)) < 0)) && (decide ((w64 (h.tdiv i)) < 0)))) (by kernel_rfl) (.bool false) (by rw [ag])
    refine bt ht j 7 [] [150, 151, 152, 153, 154, 155, 156] [(156, .bool false)] ?_; intro kP d1
    apply k
    refine cdF d1 (by kernel_rfl) ?_
    refine k_ (s_ ?_)
    have hu : Fr 171 [] [⟨9, [], i6 (w64 ((w64 ((w64 (u1 - (w64 (u0.Add * u2)))).tdiv a)).tdiv f))⟩, ⟨11, [], i6 (w64 (h.tdiv i))⟩, ⟨14, [], i6 (boundsS u0).1⟩, ⟨15, [], i6 (boundsS u0).2⟩] kP := d1.reg
    refine sqB hu j [] [] [(16, i6 (w64 ((w64 ((w64 ((w64 (u1 - (w64 (u0.Add * u2)))).tdiv a)).tdiv f)) * (w64 (h.tdiv i)))))] ?_; intro pM hv
    refine sqB hv j [] [] [(167, .bool ((decide ((w64 ((w64 ((w64 ((w64 (u1 - (w64 (u0.Add * u2)))).tdiv a)).tdiv f)) * (w64 (h.tdiv i)))) < (boundsS u0).1)) || (decide ((w64 ((w64 ((w64 ((w64 (u1 - (w64 (u0.Add * u2)))).tdiv a)).tdiv f)) * (w64 (h.tdiv i)))) > (boundsS u0).2))))] ?_; intro pN aj
    refine c_ aj cE (fun _ kQ => ?_) fun _ kS => ?_
    ·
     refine sqB aj j [] [] [(6, i6 0), (7, i6 3)] ?_; intro pO kR
     exact r_ (h_ (ra2 kR (.tuple #[i6 0, i6 3]) ⟨(0, 3), rfl, kQ, j.below⟩))
    refine k_ (sqB aj j [] [] [(6, i6 (w64 ((w64 ((w64 ((w64 (u1 - (w64 (u0.Add * u2)))).tdiv a)).tdiv f)) * (w64 (h.tdiv i))))), (7, i6 0)] ?_); intro pP kT
    exact r_ (ra2 kT (.tuple #[i6 (w64 ((w64 ((w64 ((w64 (u1 - (w64 (u0.Add * u2)))).tdiv a)).tdiv f)) * (w64 (h.tdiv i)))), i6 0]) ⟨(w64 ((w64 ((w64 ((w64 (u1 - (w64 (u0.Add * u2)))).tdiv a)).tdiv f)) * (w64 (h.tdiv i))), 0), rfl, kS, j.below⟩)
   have hw := cp.reval (d := 134) (c := []) (v := .bool ((decide ((w64 ((w64 ((w64 (u1 - (w64 (u0.Add * u2)))).tdiv a)).tdiv f)) > 0)) && (decide ((w64 (h.tdiv i)) < 0)))) (by kernel_rfl) (.bool false) (by rw [ae])
   refine sk_ hw false ?_; intro pQ hx
   refine sk_ hx false ?_; intro pR hy
   refine sk_ hy false ?_; intro pS hz
   refine sk_ hz false ?_; intro pT hA
   refine sk_ hA false ?_; intro pU cG
   refine g_ cG false (.bool false) ?_; intro pV hB
   refine s1 hB 141 (.bool false) ?_; intro pW hD
   refine s1 hD 142 (.bool false) ?_; intro pX cH
   refine g_ cH false (i6 (w64 ((w64 ((w64 (u1 - (w64 (u0.Add * u2)))).tdiv a)).tdiv f))) ?_; intro pY cI
   refine g_ cI false (.bool (decide ((w64 ((w64 ((w64 (u1 - (w64 (u0.Add * u2)))).tdiv a)).tdiv f)) < 0))) ?_; intro pZ cJ
   refine g_ cJ false (.bool (decide ((w64 ((w64 ((w64 (u1 - (w64 (u0.Add * u2)))).tdiv a)).tdiv f)) < 0))) ?_; intro p1 hE
   have hF := hE.atom ((decide ((w64 ((w64 ((w64 (u1 - (w64 (u0.Add * u2)))).tdiv a)).tdiv f)) < 0)) == true) (by kernel_rfl)
   refine gp hF 146 1 [] (decide ((w64 ((w64 ((w64 (u1 - (w64 (u0.Add * u2)))).tdiv a)).tdiv f)) < 0)) (i6 (w64 (h.tdiv i))) rfl rfl ?_; intro p2 hG
   refine gp hG 147 1 [] (decide ((w64 ((w64 ((w64 (u1 - (w64 (u0.Add * u2)))).tdiv a)).tdiv f)) < 0)) (.bool (decide ((w64 (h.tdiv i)) < 0))) rfl rfl ?_; intro p3 cK
   refine v_ cK (.bool ((decide ((w64 ((w64 ((w64 (u1 - (w64 (u0.Add * u2)))).tdiv a)).tdiv f)) < 0)) && (decide ((w64 (h.tdiv i)) < 0)))) (wK cK false) (pk_and cK (g := []) (m := 1) (b := decide ((w64 ((w64 ((w64 (u1 - (w64 (u0.Add * u2)))).tdiv a)).tdiv f)) < 0)) (v := decide ((w64 (h.tdiv i)) < 0)) rfl (by kernel_rfl) (by kernel_rfl) (by kernel_rfl) rfl) ?_; intro p4 cL
   refine g_ cL false (.bool ((decide ((w64 ((w64 ((w64 (u1 - (w64 (u0.Add * u2)))).tdiv a)).tdiv f)) < 0)) && (decide ((w64 (h.tdiv i)) < 0)))) ?_; intro p5 cM
   refine e_ cF (fun ak kU => ?_) fun ak cQ => ?_
   ·
    have hH := cM.reval (d := 149) (c := []) (v := .bool ((decide ((w64 ((w64 ((w64 (u1 - (w64 (u0.Add * u2)))).tdiv a)).tdiv f)) < 0)) && (decide ((w64 (h.tdiv i)) < 0)))) (by kernel_rfl) (.bool true) (by rw [ak])
    refine bt hH j 3 [] [150, 151, 152] [(150, i6 (w64 ((w64 ((w64 (u1 - (w64 (u0.Add * u2)))).tdiv a)).tdiv f))), (151, i6 (boundsS u0).2), (152, i6 (w64 (h.tdiv i)))] ?_; intro p6 cN
    obtain ⟨kV, cO⟩ := kU
    refine v_ cN (i6 (w64 ((boundsS u0).2.tdiv (w64 (h.tdiv i))))) (wK cN true) (quo_run cN (g := []) rfl (by kernel_rfl) (by kernel_rfl) kV rfl) ?_; intro p7 hI
    refine bt hI j 3 [] [154, 155, 156] [(156, .bool (decide ((w64 ((w64 ((w64 (u1 - (w64 (u0.Add * u2)))).tdiv a)).tdiv f)) < (w64 ((boundsS u0).2.tdiv (w64 (h.tdiv i)))))))] ?_; intro hJ al
    apply k
    refine c_ al cO (fun _ kW => ?_) fun _ cP => ?_
    ·
     have hK : Fr 171 [] [] hJ := al.reg
     refine sqB hK j [] [] [(6, i6 0), (7, i6 3)] ?_; intro p8 kX
     exact r_ (h_ (ra2 kX (.tuple #[i6 0, i6 3]) ⟨(0, 3), rfl, kW, j.below⟩))
    refine k_ (s_ ?_)
    have hL : Fr 171 [] [⟨9, [], i6 (w64 ((w64 ((w64 (u1 - (w64 (u0.Add * u2)))).tdiv a)).tdiv f))⟩, ⟨11, [], i6 (w64 (h.tdiv i))⟩, ⟨14, [], i6 (boundsS u0).1⟩, ⟨15, [], i6 (boundsS u0).2⟩] hJ := al.reg
    refine sqB hL j [] [] [(16, i6 (w64 ((w64 ((w64 ((w64 (u1 - (w64 (u0.Add * u2)))).tdiv a)).tdiv f)) * (w64 (h.tdiv i)))))] ?_; intro p9 hM
    refine sqB hM j [] [] [(167, .bool ((decide ((w64 ((w64 ((w64 ((w64 (u1 - (w64 (u0.Add * u2)))).tdiv a)).tdiv f)) * (w64 (h.tdiv i)))) < (boundsS u0).1)) || (decide ((w64 ((w64 ((w64 ((w64 (u1 - (w64 (u0.Add * u2)))).tdiv a)).tdiv f)) * (w64 (h.tdiv i)))) > (boundsS u0).2))))] ?_; intro qa am
    refine c_ am cP (fun _ kY => ?_) fun _ k0 => ?_
    ·
     refine sqB am j [] [] [(6, i6 0), (7, i6 3)] ?_; intro qb kZ
     exact r_ (h_ (ra2 kZ (.tuple #[i6 0, i6 3]) ⟨(0, 3), rfl, kY, j.below⟩))
    refine k_ (sqB am j [] [] [(6, i6 (w64 ((w64 ((w64 ((w64 (u1 - (w64 (u0.Add * u2)))).tdiv a)).tdiv f)) * (w64 (h.tdiv i))))), (7, i6 0)] ?_); intro qc k1
    exact r_ (ra2 k1 (.tuple #[i6 (w64 ((w64 ((w64 ((w64 (u1 - (w64 (u0.Add * u2)))).tdiv a)).tdiv f)) * (w64 (h.tdiv i)))), i6 0]) ⟨(w64 ((w64 ((w64 ((w64 (u1 - (w64 (u0.Add * u2)))).tdiv a)).tdiv f)) * (w64 (h.tdiv i))), 0), rfl, k0, j.below⟩)
   have hN := cM.reval (d := 149) (c := []) (v := .bool ((decide ((w64 ((w64 ((w64 (u1 - (w64 (u0.Add * u2)))).tdiv a)).tdiv f)) < 0)) && (decide ((w64 (h.tdiv i)) < 0)))) (by kernel_rfl) (.bool false) (by rw [ak])
   refine bt hN j 7 [] [150, 151, 152, 153, 154, 155, 156] [(156, .bool false)] ?_; intro k2 d5
   apply k
   refine cdF d5 (by kernel_rfl) ?_
   refine k_ (s_ ?_)
   have hO : Fr 171 [] [⟨9, [], i6 (w64 ((w64 ((w64 (u1 - (w64 (u0.Add * u2)))).tdiv a)).tdiv f))⟩, ⟨11, [], i6 (w64 (h.tdiv i))⟩, ⟨14, [], i6 (boundsS u0).1⟩, ⟨15, [], i6 (boundsS u0).2⟩] k2 := d5.reg
   refine sqB hO j [] [] [(16, i6 (w64 ((w64 ((w64 ((w64 (u1 - (w64 (u0.Add * u2)))).tdiv a)).tdiv f)) * (w64 (h.tdiv i)))))] ?_; intro qd hP
   refine sqB hP j [] [] [(167, .bool ((decide ((w64 ((w64 ((w64 ((w64 (u1 - (w64 (u0.Add * u2)))).tdiv a)).tdiv f)) * (w64 (h.tdiv i)))) < (boundsS u0).1)) || (decide ((w64 ((w64 ((w64 ((w64 (u1 - (w64 (u0.Add * u2)))).tdiv a)).tdiv f)) * (w64 (h.tdiv i)))) > (boundsS u0).2))))] ?_; intro qe an
   refine c_ an cQ (fun _ k3 => ?_) fun _ k5 => ?_
   ·
    refine sqB an j [] [] [(6, i6 0), (7, i6 3)] ?_; intro qf k4
    exact r_ (h_ (ra2 k4 (.tuple #[i6 0, i6 3]) ⟨(0, 3), rfl, k3, j.below⟩))
   refine k_ (sqB an j [] [] [(6, i6 (w64 ((w64 ((w64 ((w64 (u1 - (w64 (u0.Add * u2)))).tdiv a)).tdiv f)) * (w64 (h.tdiv i))))), (7, i6 0)] ?_); intro qg k6
   exact r_ (ra2 k6 (.tuple #[i6 (w64 ((w64 ((w64 ((w64 (u1 - (w64 (u0.Add * u2)))).tdiv a)).tdiv f)) * (w64 (h.tdiv i)))), i6 0]) ⟨(w64 ((w64 ((w64 ((w64 (u1 - (w64 (u0.Add * u2)))).tdiv a)).tdiv f)) * (w64 (h.tdiv i))), 0), rfl, k5, j.below⟩)
  have hQ := ce.reval (d := 119) (c := []) (v := .bool ((decide ((w64 ((w64 ((w64 (u1 - (w64 (u0.Add * u2)))).tdiv a)).tdiv f)) < 0)) && (decide ((w64 (h.tdiv i)) > 0)))) (by kernel_rfl) (.bool false) (by rw [ac])
  refine sk_ hQ false ?_; intro qh hR
  refine sk_ hR false ?_; intro qi hS
  refine sk_ hS false ?_; intro qj hT
  refine sk_ hT false ?_; intro qk hU
  refine sk_ hU false ?_; intro ql cS
  refine g_ cS false (.bool false) ?_; intro qm hV
  refine s1 hV 126 (.bool false) ?_; intro qn hW
  refine s1 hW 127 (.bool false) ?_; intro qo cT
  refine g_ cT false (i6 (w64 ((w64 ((w64 (u1 - (w64 (u0.Add * u2)))).tdiv a)).tdiv f))) ?_; intro qp cU
  refine g_ cU false (.bool (decide ((w64 ((w64 ((w64 (u1 - (w64 (u0.Add * u2)))).tdiv a)).tdiv f)) > 0))) ?_; intro qq cV
  refine g_ cV false (.bool (decide ((w64 ((w64 ((w64 (u1 - (w64 (u0.Add * u2)))).tdiv a)).tdiv f)) > 0))) ?_; intro qr hX
  have hY := hX.atom ((decide ((w64 ((w64 ((w64 (u1 - (w64 (u0.Add * u2)))).tdiv a)).tdiv f)) > 0)) == true) (by kernel_rfl)
  refine gp hY 131 1 [] (decide ((w64 ((w64 ((w64 (u1 - (w64 (u0.Add * u2)))).tdiv a)).tdiv f)) > 0)) (i6 (w64 (h.tdiv i))) rfl rfl ?_; intro qs h0
  refine gp h0 132 1 [] (decide ((w64 ((w64 ((w64 (u1 - (w64 (u0.Add * u2)))).tdiv a)).tdiv f)) > 0)) (.bool (decide ((w64 (h.tdiv i)) < 0))) rfl rfl ?_; intro qt cW
  refine v_ cW (.bool ((decide ((w64 ((w64 ((w64 (u1 - (w64 (u0.Add * u2)))).tdiv a)).tdiv f)) > 0)) && (decide ((w64 (h.tdiv i)) < 0)))) (wK cW false) (pk_and cW (g := []) (m := 1) (b := decide ((w64 ((w64 ((w64 (u1 - (w64 (u0.Add * u2)))).tdiv a)).tdiv f)) > 0)) (v := decide ((w64 (h.tdiv i)) < 0)) rfl (by kernel_rfl) (by kernel_rfl) (by kernel_rfl) rfl) ?_; intro qu cX
  refine g_ cX false (.bool ((decide ((w64 ((w64 ((w64 (u1 - (w64 (u0.Add * u2)))).tdiv a)).tdiv f)) > 0)) && (decide ((w64 (h.tdiv i)) < 0)))) ?_; intro qv cY
  refine e_ cR (fun ao k7 => ?_) fun ao dd => ?_
  ·
   have h1 := cY.reval (d := 134) (c := []) (v := .bool ((decide ((w64 ((w64 ((w64 (u1 - (w64 (u0.Add * u2)))).tdiv a)).tdiv f)) > 0)) && (decide ((w64 (h.tdiv i)) < 0)))) (by kernel_rfl) (.bool true) (by rw [ao])
   refine bt h1 j 3 [] [135, 136, 137] [(135, i6 (w64 ((w64 ((w64 (u1 - (w64 (u0.Add * u2)))).tdiv a)).tdiv f))), (136, i6 (boundsS u0).1), (137, i6 (w64 (h.tdiv i)))] ?_; intro qw cZ
   obtain ⟨k8, c0⟩ := k7
   refine v_ cZ (i6 (w64 ((boundsS u0).1.tdiv (w64 (h.tdiv i))))) (wK cZ true) (quo_run cZ (g := []) rfl (by kernel_rfl) (by kernel_rfl) k8 rfl) ?_; intro qx h2
   refine bt h2 j 4 [] [139, 140, 141] [(142, .bool (decide ((w64 ((w64 ((w64 (u1 - (w64 (u0.Add * u2)))).tdiv a)).tdiv f)) > (w64 ((boundsS u0).1.tdiv (w64 (h.tdiv i)))))))] ?_; intro qy c1
   refine e_ c0 (fun ap k9 => ?_) fun ap c2 => ?_
   ·
    have h3 := c1.reval (d := 142) (c := []) (v := .bool (decide ((w64 ((w64 ((w64 (u1 - (w64 (u0.Add * u2)))).tdiv a)).tdiv f)) > (w64 ((boundsS u0).1.tdiv (w64 (h.tdiv i))))))) (by kernel_rfl) (.bool true) (by rw [ap])
    refine bt h3 j 14 [] [143, 144, 145, 146, 147, 148, 149, 150, 151, 152, 153, 154, 155, 156] [(156, .bool true)] ?_; intro la d7
    apply k
    refine cdT d7 (by kernel_rfl) ?_
    have h4 : Fr 171 [] [] la := d7.reg
    refine sqB h4 j [] [] [(6, i6 0), (7, i6 3)] ?_; intro qz lb
    exact r_ (h_ (ra2 lb (.tuple #[i6 0, i6 3]) ⟨(0, 3), rfl, k9, j.below⟩))
   have c3 := c1.reval (d := 142) (c := []) (v := .bool (decide ((w64 ((w64 ((w64 (u1 - (w64 (u0.Add * u2)))).tdiv a)).tdiv f)) > (w64 ((boundsS u0).1.tdiv (w64 (h.tdiv i))))))) (by kernel_rfl) (.bool false) (by rw [ap])
   refine g_ c3 false (i6 (w64 ((w64 ((w64 (u1 - (w64 (u0.Add * u2)))).tdiv a)).tdiv f))) ?_; intro qA c4
   refine g_ c4 false (.bool (decide ((w64 ((w64 ((w64 (u1 - (w64 (u0.Add * u2)))).tdiv a)).tdiv f)) < 0))) ?_; intro qB c5
   refine g_ c5 false (.bool (decide ((w64 ((w64 ((w64 (u1 - (w64 (u0.Add * u2)))).tdiv a)).tdiv f)) < 0))) ?_; intro qC h5
   have h6 := h5.atom ((decide ((w64 ((w64 ((w64 (u1 - (w64 (u0.Add * u2)))).tdiv a)).tdiv f)) < 0)) == true) (by kernel_rfl)
   refine gp h6 146 0 [] (decide ((w64 ((w64 ((w64 (u1 - (w64 (u0.Add * u2)))).tdiv a)).tdiv f)) < 0)) (i6 (w64 (h.tdiv i))) rfl rfl ?_; intro qD h7
   refine gp h7 147 0 [] (decide ((w64 ((w64 ((w64 (u1 - (w64 (u0.Add * u2)))).tdiv a)).tdiv f)) < 0)) (.bool (decide ((w64 (h.tdiv i)) < 0))) rfl rfl ?_; intro qE c6
   refine v_ c6 (.bool ((decide ((w64 ((w64 ((w64 (u1 - (w64 (u0.Add * u2)))).tdiv a)).tdiv f)) < 0)) && (decide ((w64 (h.tdiv i)) < 0)))) (wK c6 false) (pk_and c6 (g := []) (m := 0) (b := decide ((w64 ((w64 ((w64 (u1 - (w64 (u0.Add * u2)))).tdiv a)).tdiv f)) < 0)) (v := decide ((w64 (h.tdiv i)) < 0)) rfl (by kernel_rfl) (by kernel_rfl) (by kernel_rfl) rfl) ?_; intro qF c7
   refine g_ c7 false (.bool ((decide ((w64 ((w64 ((w64 (u1 - (w64 (u0.Add * u2)))).tdiv a)).tdiv f)) < 0)) && (decide ((w64 (h.tdiv i)) < 0)))) ?_; intro qG c8
   refine e_ c2 (fun aq lc => ?_) fun aq dc => ?_
   ·
    have h8 := c8.reval (d := 149) (c := []) (v := .bool ((decide ((w64 ((w64 ((w64 (u1 - (w64 (u0.Add * u2)))).tdiv a)).tdiv f)) < 0)) && (decide ((w64 (h.tdiv i)) < 0)))) (by kernel_rfl) (.bool true) (by rw [aq])
    refine bt h8 j 3 [] [150, 151, 152] [(150, i6 (w64 ((w64 ((w64 (u1 - (w64 (u0.Add * u2)))).tdiv a)).tdiv f))), (151, i6 (boundsS u0).2), (152, i6 (w64 (h.tdiv i)))] ?_; intro qH c9
    obtain ⟨lf, da⟩ := lc
    refine v_ c9 (i6 (w64 ((boundsS u0).2.tdiv (w64 (h.tdiv i))))) (wK c9 true) (quo_run c9 (g := []) rfl (by kernel_rfl) (by kernel_rfl) lf rfl) ?_; intro qI h9
    refine bt h9 j 3 [] [154, 155, 156] [(156, .bool (decide ((w64 ((w64 ((w64 (u1 - (w64 (u0.Add * u2)))).tdiv a)).tdiv f)) < (w64 ((boundsS u0).2.tdiv (w64 (h.tdiv i)))))))] ?_; intro ia ar
    apply k
    refine c_ ar da (fun _ lg => ?_) fun _ db => ?_
    ·
     have ib : Fr 171 [] [] ia := ar.reg
     refine sqB ib j [] [] [(6, i6 0), (7, i6 3)] ?_; intro qJ lh
     exact r_ (h_ (ra2 lh (.tuple #[i6 0, i6 3]) ⟨(0, 3), rfl, lg, j.below⟩))
    refine k_ (s_ ?_)
    have ic : Fr 171 [] [⟨9, [], i6 (w64 ((w64 ((w64 (u1 - (w64 (u0.Add * u2)))).tdiv a)).tdiv f))⟩, ⟨11, [], i6 (w64 (h.tdiv i))⟩, ⟨14, [], i6 (boundsS u0).1⟩, ⟨15, [], i6 (boundsS u0).2⟩] ia := ar.reg
    refine sqB ic j [] [] [(16, i6 (w64 ((w64 ((w64 ((w64 (u1 - (w64 (u0.Add * u2)))).tdiv a)).tdiv f)) * (w64 (h.tdiv i)))))] ?_; intro qK id
    refine sqB id j [] [] [(167, .bool ((decide ((w64 ((w64 ((w64 ((w64 (u1 - (w64 (u0.Add * u2)))).tdiv a)).tdiv f)) * (w64 (h.tdiv i)))) < (boundsS u0).1)) || (decide ((w64 ((w64 ((w64 ((w64 (u1 - (w64 (u0.Add * u2)))).tdiv a)).tdiv f)) * (w64 (h.tdiv i)))) > (boundsS u0).2))))] ?_; intro qL au
    refine c_ au db (fun _ li => ?_) fun _ lk => ?_
    ·
     refine sqB au j [] [] [(6, i6 0), (7, i6 3)] ?_; intro qM lj
     exact r_ (h_ (ra2 lj (.tuple #[i6 0, i6 3]) ⟨(0, 3), rfl, li, j.below⟩))
    refine k_ (sqB au j [] [] [(6, i6 (w64 ((w64 ((w64 ((w64 (u1 - (w64 (u0.Add * u2)))).tdiv a)).tdiv f)) * (w64 (h.tdiv i))))), (7, i6 0)] ?_); intro qN ll
    exact r_ (ra2 ll (.tuple #[i6 (w64 ((w64 ((w64 ((w64 (u1 - (w64 (u0.Add * u2)))).tdiv a)).tdiv f)) * (w64 (h.tdiv i)))), i6 0]) ⟨(w64 ((w64 ((w64 ((w64 (u1 - (w64 (u0.Add * u2)))).tdiv a)).tdiv f)) * (w64 (h.tdiv i))), 0), rfl, lk, j.below⟩)
   have ie := c8.reval (d := 149) (c := []) (v := .bool ((decide ((w64 ((w64 ((w64 (u1 - (w64 (u0.Add * u2)))).tdiv a)).tdiv f)) < 0)) && (decide ((w64 (h.tdiv i)) < 0)))) (by kernel_rfl) (.bool false) (by rw [aq])
   refine bt ie j 7 [] [150, 151, 152, 153, 154, 155, 156] [(156, .bool false)] ?_; intro lm ea
   apply k
   refine cdF ea (by kernel_rfl) ?_
   refine k_ (s_ ?_)
   have ig : Fr 171 [] [⟨9, [], i6 (w64 ((w64 ((w64 (u1 - (w64 (u0.Add * u2)))).tdiv a)).tdiv f))⟩, ⟨11, [], i6 (w64 (h.tdiv i))⟩, ⟨14, [], i6 (boundsS u0).1⟩, ⟨15, [], i6 (boundsS u0).2⟩] lm := ea.reg
   refine sqB ig j [] [] [(16, i6 (w64 ((w64 ((w64 ((w64 (u1 - (w64 (u0.Add * u2)))).tdiv a)).tdiv f)) * (w64 (h.tdiv i)))))] ?_; intro qO ih
   refine sqB ih j [] [] [(167, .bool ((decide ((w64 ((w64 ((w64 ((w64 (u1 - (w64 (u0.Add * u2)))).tdiv a)).tdiv f)) * (w64 (h.tdiv i)))) < (boundsS u0).1)) || (decide ((w64 ((w64 ((w64 ((w64 (u1 - (w64 (u0.Add * u2)))).tdiv a)).tdiv f)) * (w64 (h.tdiv i)))) > (boundsS u0).2))))] ?_; intro qP av
   refine c_ av dc (fun _ ln => ?_) fun _ lp => ?_
   ·
    refine sqB av j [] [] [(6, i6 0), (7, i6 3)] ?_; intro qQ lo
    exact r_ (h_ (ra2 lo (.tuple #[i6 0, i6 3]) ⟨(0, 3), rfl, ln, j.below⟩))
   refine k_ (sqB av j [] [] [(6, i6 (w64 ((w64 ((w64 ((w64 (u1 - (w64 (u0.Add * u2)))).tdiv a)).tdiv f)) * (w64 (h.tdiv i))))), (7, i6 0)] ?_); intro qR lq
   exact r_ (ra2 lq (.tuple #[i6 (w64 ((w64 ((w64 ((w64 (u1 - (w64 (u0.Add * u2)))).tdiv a)).tdiv f)) * (w64 (h.tdiv i)))), i6 0]) ⟨(w64 ((w64 ((w64 ((w64 (u1 - (w64 (u0.Add * u2)))).tdiv a)).tdiv f)) * (w64 (h.tdiv i))), 0), rfl, lp, j.below⟩)
  have ii := cY.reval (d := 134) (c := []) (v := .bool ((decide ((w64 ((w64 ((w64 (u1 - (w64 (u0.Add * u2)))).tdiv a)).tdiv f)) > 0)) && (decide ((w64 (h.tdiv i)) < 0)))) (by kernel_rfl) (.bool false) (by rw [ao])
  refine sk_ ii false ?_; intro qS ij
  refine sk_ ij false ?_; intro qT ik
  refine sk_ ik false ?_; intro qU il
  refine sk_ il false ?_; intro qV im
  refine sk_ im false ?_; intro qW de
  refine g_ de false (.bool false) ?_; intro qX io
  refine s1 io 141 (.bool false) ?_; intro qY ip
  refine s1 ip 142 (.bool false) ?_; intro qZ df
  refine g_ df false (i6 (w64 ((w64 ((w64 (u1 - (w64 (u0.Add * u2)))).tdiv a)).tdiv f))) ?_; intro q0 dg
  refine g_ dg false (.bool (decide ((w64 ((w64 ((w64 (u1 - (w64 (u0.Add * u2)))).tdiv a)).tdiv f)) < 0))) ?_; intro q2 dh
  refine g_ dh false (.bool (decide ((w64 ((w64 ((w64 (u1 - (w64 (u0.Add * u2)))).tdiv a)).tdiv f)) < 0))) ?_; intro q3 iq
  refine gp iq 146 0 [] (decide ((w64 ((w64 ((w64 (u1 - (w64 (u0.Add * u2)))).tdiv a)).tdiv f)) < 0)) (i6 (w64 (h.tdiv i))) rfl rfl ?_; intro q4 ir
  refine gp ir 147 0 [] (decide ((w64 ((w64 ((w64 (u1 - (w64 (u0.Add * u2)))).tdiv a)).tdiv f)) < 0)) (.bool (decide ((w64 (h.tdiv i)) < 0))) rfl rfl ?_; intro q5 di
  refine v_ di (.bool ((decide ((w64 ((w64 ((w64 (u1 - (w64 (u0.Add * u2)))).tdiv a)).tdiv f)) < 0)) && (decide ((w64 (h.tdiv i)) < 0)))) (wK di false) (pk_and di (g := []) (m := 0) (b := decide ((w64 ((w64 ((w64 (u1 - (w64 (u0.Add * u2)))).tdiv a)).tdiv f)) < 0)) (v := decide ((w64 (h.tdiv i)) < 0)) rfl (by kernel_rfl) (by kernel_rfl) (by kernel_rfl) rfl) ?_; intro q6 dj
  refine g_ dj false (.bool ((decide ((w64 ((w64 ((w64 (u1 - (w64 (u0.Add * u2)))).tdiv a)).tdiv f)) < 0)) && (decide ((w64 (h.tdiv i)) < 0)))) ?_; intro q7 dk
  refine e_ dd (fun aw lr => ?_) fun aw dp => ?_
  ·
   have it := dk.reval (d := 149) (c := []) (v := .bool ((decide ((w64 ((w64 ((w64 (u1 - (w64 (u0.Add * u2)))).tdiv a)).tdiv f)) < 0)) && (decide ((w64 (h.tdiv i)) < 0)))) (by kernel_rfl) (.bool true) (by rw [aw])
   refine bt it j 3 [] [150, 151, 152] [(150, i6 (w64 ((w64 ((w64 (u1 - (w64 (u0.Add * u2)))).tdiv a)).tdiv f))), (151, i6 (boundsS u0).2), (152, i6 (w64 (h.tdiv i)))] ?_; intro q8 dl
   obtain ⟨ls, dm⟩ := lr
   refine v_ dl (i6 (w64 ((boundsS u0).2.tdiv (w64 (h.tdiv i))))) (wK dl true) (quo_run dl (g := []) rfl (by kernel_rfl) (by kernel_rfl) ls rfl) ?_; intro q9 iu
   refine bt iu j 3 [] [154, 155, 156] [(156, .bool (decide ((w64 ((w64 ((w64 (u1 - (w64 (u0.Add * u2)))).tdiv a)).tdiv f)) < (w64 ((boundsS u0).2.tdiv (w64 (h.tdiv i)))))))] ?_; intro iv ax
   apply k
   refine c_ ax dm (fun _ lt => ?_) fun _ dn => ?_
   ·
    have iw : Fr 171 [] [] iv := ax.reg
    refine sqB iw j [] [] [(6, i6 0), (7, i6 3)] ?_; intro ra lu
    exact r_ (h_ (ra2 lu (.tuple #[i6 0, i6 3]) ⟨(0, 3), rfl, lt, j.below⟩))
   refine k_ (s_ ?_)
   have ix : Fr 171 [] [⟨9, [], i6 (w64 ((w64 ((w64 (u1 - (w64 (u0.Add * u2)))).tdiv a)).tdiv f))⟩, ⟨11, [], i6 (w64 (h.tdiv i))⟩, ⟨14, [], i6 (boundsS u0).1⟩, ⟨15, [], i6 (boundsS u0).2⟩] iv := ax.reg
   refine sqB ix j [] [] [(16, i6 (w64 ((w64 ((w64 ((w64 (u1 - (w64 (u0.Add * u2)))).tdiv a)).tdiv f)) * (w64 (h.tdiv i)))))] ?_; intro rb iy
   refine sqB iy j [] [] [(167, .bool ((decide ((w64 ((w64 ((w64 ((w64 (u1 - (w64 (u0.Add * u2)))).tdiv a)).tdiv f)) * (w64 (h.tdiv i)))) < (boundsS u0).1)) || (decide ((w64 ((w64 ((w64 ((w64 (u1 - (w64 (u0.Add * u2)))).tdiv a)).tdiv f)) * (w64 (h.tdiv i)))) > (boundsS u0).2))))] ?_; intro rc ay
   refine c_ ay dn (fun _ lv => ?_) fun _ lx => ?_
   ·
    refine sqB ay j [] [] [(6, i6 0), (7, i6 3)] ?_; intro re lw
    exact r_ (h_ (ra2 lw (.tuple #[i6 0, i6 3]) ⟨(0, 3), rfl, lv, j.below⟩))
   refine k_ (sqB ay j [] [] [(6, i6 (w64 ((w64 ((w64 ((w64 (u1 - (w64 (u0.Add * u2)))).tdiv a)).tdiv f)) * (w64 (h.tdiv i))))), (7, i6 0)] ?_); intro rf ly
   exact r_ (ra2 ly (.tuple #[i6 (w64 ((w64 ((w64 ((w64 (u1 - (w64 (u0.Add * u2)))).tdiv a)).tdiv f)) * (w64 (h.tdiv i)))), i6 0]) ⟨(w64 ((w64 ((w64 ((w64 (u1 - (w64 (u0.Add * u2)))).tdiv a)).tdiv f)) * (w64 (h.tdiv i))), 0), rfl, lx, j.below⟩)
  have iz := dk.reval (d := 149) (c := []) (v := .bool ((decide ((w64 ((w64 ((w64 (u1 - (w64 (u0.Add * u2)))).tdiv a)).tdiv f)) < 0)) && (decide ((w64 (h.tdiv i)) < 0)))) (by kernel_rfl) (.bool false) (by rw [aw])
  refine bt iz j 7 [] [150, 151, 152, 153, 154, 155, 156] [(156, .bool false)] ?_; intro lz ee
  apply k
  refine cdF ee (by kernel_rfl) ?_
  refine k_ (s_ ?_)
  have iA : Fr 171 [] [⟨9, [], i6 (w64 ((w64 ((w64 (u1 - (w64 (u0.Add * u2)))).tdiv a)).tdiv f))⟩, ⟨11, [], i6 (w64 (h.tdiv i))⟩, ⟨14, [], i6 (boundsS u0).1⟩, ⟨15, [], i6 (boundsS u0).2⟩] lz := ee.reg
  refine sqB iA j [] [] [(16, i6 (w64 ((w64 ((w64 ((w64 (u1 - (w64 (u0.Add * u2)))).tdiv a)).tdiv f)) * (w64 (h.tdiv i)))))] ?_; intro rg iB
  refine sqB iB j [] [] [(167, .bool ((decide ((w64 ((w64 ((w64 ((w64 (u1 - (w64 (u0.Add * u2)))).tdiv a)).tdiv f)) * (w64 (h.tdiv i)))) < (boundsS u0).1)) || (decide ((w64 ((w64 ((w64 ((w64 (u1 - (w64 (u0.Add * u2)))).tdiv a)).tdiv f)) * (w64 (h.tdiv i)))) > (boundsS u0).2))))] ?_; intro rh az
  refine c_ az dp (fun _ lA => ?_) fun _ lC => ?_
  ·
   refine sqB az j [] [] [(6, i6 0), (7, i6 3)] ?_; intro ri lB
   exact r_ (h_ (ra2 lB (.tuple #[i6 0, i6 3]) ⟨(0, 3), rfl, lA, j.below⟩))
  refine k_ (sqB az j [] [] [(6, i6 (w64 ((w64 ((w64 ((w64 (u1 - (w64 (u0.Add * u2)))).tdiv a)).tdiv f)) * (w64 (h.tdiv i))))), (7, i6 0)] ?_); intro rj lD
  exact r_ (ra2 lD (.tuple #[i6 (w64 ((w64 ((w64 ((w64 (u1 - (w64 (u0.Add * u2)))).tdiv a)).tdiv f)) * (w64 (h.tdiv i)))), i6 0]) ⟨(w64 ((w64 ((w64 ((w64 (u1 - (w64 (u0.Add * u2)))).tdiv a)).tdiv f)) * (w64 (h.tdiv i))), 0), rfl, lC, j.below⟩)
 refine c_ eG aB (fun _ lE => ?_) fun _ lG => ?_
 ·
  refine rgB eG z [] [] [(11, i6 (w64 (0 - (w64 (u0.Div.tdiv n))))), (12, i6 (w64 (0 - (w64 (u0.Mul.tdiv n)))))] ?_; intro rk lF
  exact d_ (eH (w64 (0 - (w64 (u0.Div.tdiv n)))) (w64 (0 - (w64 (u0.Mul.tdiv n)))) lE _ _ ((lF.reg).anyβ _ (by kernel_rfl)) (z.kp))
 exact l_ (d_ (eH (w64 (u0.Div.tdiv n)) (w64 (u0.Mul.tdiv n)) lG _ _ ((eG.reg).anyβ _ (by kernel_rfl)) (z.kp)))

end Go.Proofs.YtdndfbamhnchfaaDoor
set_option linter.unusedVariables false
set_option linter.unusedSimpArgs false
set_option linter.defProp false
set_option maxRecDepth 100000
set_option maxHeartbeats 0
namespace Go.Proofs.YtdndfbamhnchfaaDoor
open Go.Sy Go.RowKit
abbrev e23D (X : Signal) : List Value := [str X.Name, i6 X.Start, i6 X.Size, .bool X.Back, .bool X.Signed, i6 X.Mul, i6 X.Div, i6 X.Add, i6 X.Key]
abbrev e26D (X : Reading) : List Value := [str X.Name, i6 X.Num, i6 X.Den]
theorem iisnan_walk (u0 : Int)  (Z : Fz) (w : World)  (hZ : Z.on w) {K : Bool → Prop} (hp : iisnan_vc u0 K) : Calls Tryd.prog 100 #[i6 u0] w fun e w' => ∃ r : Bool, e = .returned (.bool r) ∧ K r ∧ Below w.heap.size w w' := by
 refine enter0 Tryd.func100 rfl rfl (by kernel_rfl) ?_; intro f b; have a := Mem.start w Z hZ
 refine sqB b a [] [] [] ?_; intro h c
 refine sqB c a [] [] [(2, .bool (u0 != u0))] ?_; intro i d
 exact r_ (ra1 d (.bool (u0 != u0)) ⟨u0 != u0, rfl, hp, a.below⟩)
def iisnan_fun (u0 : Int)  (Z : Fz) (w : World)  (hZ : Z.on w) := f_ (iisnan_walk u0  Z w  hZ (iisnan_ok u0))
def sraw_fun (u0 : Signal) (u1 : Int) (u2 : Int)  (Z : Fz) (w : World)  (hZ : Z.on w) := f_ (sraw_walk u0 u1 u2  Z w  hZ (sraw_ok u0 u1 u2))
theorem swrite_walk (u0 : Signal) (u1 : List Int) (u2 : Int) (u3 : Int) (ao1 : Option Addr) (cap2 : Nat) (Z : Fz) (w : World) (hs3 : SlR t8 Z ao1 cap2 u1) (hZ : Z.on w) {K : ((List Int) × Int) → Prop} (hp : swrite_vc u0 u1 u2 u3 K) : Calls Tryd.prog 14 #[.agg #[str u0.Name, i6 u0.Start, i6 u0.Size, .bool u0.Back, .bool u0.Signed, i6 u0.Mul, i6 u0.Div, i6 u0.Add, i6 u0.Key], .slice ao1 u1.length cap2, i6 u2, i6 u3] w fun e w' => ∃ (r : (List Int) × Int) (ao1001 : Option Addr) (cap1002 : Nat) (Z' : Fz), e = .returned (.tuple #[.slice ao1001 r.1.length cap1002, i6 r.2]) ∧ K r ∧ Mem w.heap.size [] w Z [.own t8 5 ao1001 cap1002 r.1] Z' w' := by
 refine enter0 Tryd.func14 rfl rfl (by kernel_rfl) ?_; intro a0 q; have s := Mem.start w Z hZ
 have l := hp (hs3.small)
 refine sqH ?_; intro W u
 refine nw q s pb (e23D u0) 23 ?_; intro f a7 ax v g
 refine bt v g 2 [] [] [] ?_; intro ay x
 apply u
 refine s_ (sqH ?_); intro X y
 refine bt x g 3 [0] [] [(14, .agg (e23D u0).toArray), (16, i6 (u1.length : Int))] ?_; intro az z
 refine fc z g (scheck_fun u0 (u1.length : Int) _ _ g.fz) ?_; intro aA Y A c
 refine s1 A 10 (i6 (checkS u0 (u1.length : Int))) ?_; intro aB B
 apply y
 refine sqB B c [] [] [(19, .bool ((checkS u0 (u1.length : Int)) != 0))] ?_; intro aC h
 refine cd h (t := (checkS u0 (u1.length : Int)) != 0) (by kernel_rfl) (fun n => ?_) (fun n => ?_)
 · -- yes
  have aa := l.1 n
  refine sqB h c [] [] [(8, .slice none 0 0), (9, i6 (checkS u0 (u1.length : Int)))] ?_; intro aD ab
  refine r_ (h_ ?_)
  have ac : Mem w.heap.size [] w Z [.own t8 5 none 0 ([] : List Int), .row f (e23D u0) 23] Z Y := c.addNil t8 5 (by decide)
  exact ra2 ab (.tuple #[.slice none ([] : List Int).length 0, i6 (checkS u0 (u1.length : Int))]) ⟨(([] : List Int), (checkS u0 (u1.length : Int))), none, 0, Z, rfl, aa, ac.kp⟩
 · -- no
  have m := l.2 n
  refine k_ (sqH ?_); intro ad C
  refine bt h c 3 [0] [] [(22, .agg (e23D u0).toArray), (23, i6 u2), (24, i6 u3)] ?_; intro aE D
  refine fc D c (sraw_fun u0 u2 u3 _ _ c.fz) ?_; intro aF ae E d
  refine bt E d 5 [] [] [(11, i6 (rawS u0 u2 u3).1), (12, i6 (rawS u0 u2 u3).2)] ?_; intro aG F
  apply C
  refine s_ (sqB F d [] [] [(29, .bool ((rawS u0 u2 u3).2 != 0))] ?_); intro aH i
  refine cd i (t := (rawS u0 u2 u3).2 != 0) (by kernel_rfl) (fun o => ?_) (fun o => ?_)
  · -- yes
   have af := m.1 o
   refine sqB i d [] [] [(8, .slice none 0 0), (9, i6 (rawS u0 u2 u3).2)] ?_; intro aI ag
   refine r_ (h_ ?_)
   have ah : Mem w.heap.size [] w Z [.own t8 5 none 0 ([] : List Int), .row f (e23D u0) 23] Z ae := d.addNil t8 5 (by decide)
   exact ra2 ag (.tuple #[.slice none ([] : List Int).length 0, i6 (rawS u0 u2 u3).2]) ⟨(([] : List Int), (rawS u0 u2 u3).2), none, 0, Z, rfl, af, ah.kp⟩
  · -- no
   have ai := m.2 o
   refine k_ (sqH ?_); intro aj G
   refine s1 i 31 (.slice ao1 u1.length cap2) ?_; intro aJ H
   obtain ⟨ak, I⟩ := ai
   refine ck H 12 #[.slice ao1 u1.length cap2] ?_
   refine (bclone_fun u1 ak ao1 cap2 _ _ hs3 d.fz).mono ?_; rintro _ al ⟨a, b, am, rfl, hm⟩; refine ⟨_, rfl, ?_⟩; intro aK J; have L := d.callZ hm
   have j : Mem w.heap.size [] w Z [.own t8 5 a b (bcloneS u1), .row f (e23D u0) 23] am al := L
   have an := I (j.ownSmall 0 rfl)
   refine s1 J 13 (.slice a (bcloneS u1).length b) ?_; intro aL N
   apply G
   refine sqH ?_; intro ao O
   refine bt N j 3 [1] [] [(33, .agg (e23D u0).toArray), (34, .slice a (bcloneS u1).length b), (35, i6 (rawS u0 u2 u3).1)] ?_; intro aM P
   obtain ⟨ap, Q⟩ := an
   refine ck P 47 #[.agg (e23D u0).toArray, .slice a (bcloneS u1).length b, i6 (rawS u0 u2 u3).1] ?_
   refine (sputd_fun u0 (bcloneS u1) (rawS u0 u2 u3).1 ap a b _ _ _ _ _ _ j j.fz).mono ?_; rintro _ aq ⟨R, rfl, S, ar, hm⟩; refine ⟨_, rfl, ?_⟩; intro au T; have U := hm
   have V : Fr 38 [] [⟨0, [], .agg (e23D u0).toArray⟩, ⟨1, [], .slice ao1 u1.length cap2⟩, ⟨2, [], i6 u2⟩, ⟨3, [], i6 u3⟩, ⟨4, [], pt f 0⟩, ⟨10, [], i6 (checkS u0 (u1.length : Int))⟩, ⟨11, [], i6 (rawS u0 u2 u3).1⟩, ⟨12, [], i6 (rawS u0 u2 u3).2⟩, ⟨13, [], .slice a (putS u0 (bcloneS u1) (rawS u0 u2 u3).1).length b⟩, ⟨14, [], .agg (e23D u0).toArray⟩, ⟨16, [], i6 (u1.length : Int)⟩, ⟨17, [], i6 (checkS u0 (u1.length : Int))⟩, ⟨19, [], .bool ((checkS u0 (u1.length : Int)) != 0)⟩, ⟨22, [], .agg (e23D u0).toArray⟩, ⟨23, [], i6 u2⟩, ⟨24, [], i6 u3⟩, ⟨25, [], .tuple #[i6 (rawS u0 u2 u3).1, i6 (rawS u0 u2 u3).2]⟩, ⟨29, [], .bool ((rawS u0 u2 u3).2 != 0)⟩, ⟨31, [], .slice ao1 u1.length cap2⟩, ⟨32, [], .slice a (putS u0 (bcloneS u1) (rawS u0 u2 u3).1).length b⟩, ⟨33, [], .agg (e23D u0).toArray⟩, ⟨34, [], .slice a (putS u0 (bcloneS u1) (rawS u0 u2 u3).1).length b⟩, ⟨35, [], i6 (rawS u0 u2 u3).1⟩, ⟨36, [], .tuple #[]⟩] au := by rw [ar]; exact T.region (by kernel_rfl) (by kernel_rfl)
   have p : Mem w.heap.size [] w Z [.own t8 5 a b (putS u0 (bcloneS u1) (rawS u0 u2 u3).1), .row f (e23D u0) 23] R aq := U
   have av := Q (p.ownSmall 0 rfl)
   apply O
   refine sqB V p [] [] [(8, .slice a (putS u0 (bcloneS u1) (rawS u0 u2 u3).1).length b), (9, i6 0)] ?_; intro aN aw
   exact r_ (ra2 aw (.tuple #[.slice a (putS u0 (bcloneS u1) (rawS u0 u2 u3).1).length b, i6 0]) ⟨((putS u0 (bcloneS u1) (rawS u0 u2 u3).1), 0), a, b, R, rfl, av, p.kp⟩)

theorem sread_walk (u0 : Signal) (u1 : List Int) (ao1 : Option Addr) (cap2 : Nat) (Z : Fz) (w : World) (hs3 : SlR t8 Z ao1 cap2 u1) (hZ : Z.on w) {K : (Int × Reading × Int) → Prop} (hp : sread_vc u0 u1 K) : Calls Tryd.prog 7 #[.agg #[str u0.Name, i6 u0.Start, i6 u0.Size, .bool u0.Back, .bool u0.Signed, i6 u0.Mul, i6 u0.Div, i6 u0.Add, i6 u0.Key], .slice ao1 u1.length cap2] w fun e w' => ∃ r : Int × Reading × Int, e = .returned (.tuple #[i6 r.1, .agg #[str r.2.1.Name, i6 r.2.1.Num, i6 r.2.1.Den], i6 r.2.2]) ∧ K r ∧ Below w.heap.size w w' := by
 refine enter0 Tryd.func7 rfl rfl (by kernel_rfl) ?_; intro a0 m; have n := Mem.start w Z hZ
 have f := hp (hs3.small)
 refine sqH ?_; intro T o
 refine nw m n pb (e23D u0) 23 ?_; intro p a7 aj q s
 refine s1 q 4 (i6 0) ?_; intro ak u
 refine nw u s pb [str [], i6 0, i6 0] 26 ?_; intro c al am x g
 refine s1 x 6 (i6 0) ?_; intro an y
 apply o
 refine s_ (sqH ?_); intro U z
 refine bt y g 3 [1] [] [(9, .agg (e23D u0).toArray), (11, i6 (u1.length : Int))] ?_; intro ao A
 refine fc A g (scheck_fun u0 (u1.length : Int) _ _ g.fz) ?_; intro ap aq B a
 refine s1 B 7 (i6 (checkS u0 (u1.length : Int))) ?_; intro ar C
 apply z
 refine sqB C a [] [] [(14, .bool ((checkS u0 (u1.length : Int)) != 0))] ?_; intro au d
 refine cd d (t := (checkS u0 (u1.length : Int)) != 0) (by kernel_rfl) (fun i => ?_) (fun i => ?_)
 · -- yes
  have V := f.1 i
  refine sqH ?_; intro W D
  refine bt d a 3 [] [] [(4, i6 0), (15, .agg #[str [], i6 0, i6 0]), (16, i6 (checkS u0 (u1.length : Int)))] ?_; intro av j
  refine sx j a 0 [str [], i6 0, i6 0] 0 ?_; intro X E
  refine s1 j 6 (i6 (checkS u0 (u1.length : Int))) ?_; intro aw F
  have G : Mem w.heap.size [] w Z [.row c [str [], i6 0, i6 0] 26, .row p (e23D u0) 23] Z X := E
  apply D
  refine r_ (h_ (rt (fn := Tryd.f7) (v := .tuple #[i6 0, .agg #[str [], i6 0, i6 0], i6 (checkS u0 (u1.length : Int))]) F (re3m F (fn := Tryd.f7) rfl (ad := ⟨c, 0, none⟩) (by kernel_rfl) (loadVar_run G 0 (b := c) (k := 3) (vs := [str [], i6 0, i6 0]) (ty := 26) rfl (by kernel_rfl) (by kernel_rfl)) (by kernel_rfl) (by kernel_rfl)) ?_))
  exact ⟨(0, (⟨[], 0, 0⟩ : Reading), (checkS u0 (u1.length : Int))), rfl, V, G.below⟩
 · -- no
  have Y := f.2 i
  refine k_ (sqH ?_); intro aa H
  refine bt d a 2 [1] [] [(17, .agg (e23D u0).toArray), (18, .slice ao1 u1.length cap2)] ?_; intro ax I
  obtain ⟨ab, ac⟩ := Y
  refine fc I a (sget_fun u0 u1 ab ao1 cap2 _ _ hs3 a.fz) ?_; intro ay az J h
  refine s1 J 8 (i6 (getS u0 u1)) ?_; intro aA L
  apply H
  refine sqH ?_; intro ae M
  refine bt L h 3 [1] [] [(20, i6 (getS u0 u1)), (21, .agg (e23D u0).toArray), (22, i6 (getS u0 u1))] ?_; intro aB N
  obtain ⟨af, ag⟩ := ac
  refine fc N h (smean_fun u0 (getS u0 u1) af _ _ h.fz) ?_; intro aC aD O P
  refine s1 O 4 (i6 (getS u0 u1)) ?_; intro aE l
  refine sx l P 0 (e26D (meanS u0 (getS u0 u1))) 0 ?_; intro ah Q
  refine s1 l 6 (i6 0) ?_; intro aF R
  have S : Mem w.heap.size [] w Z [.row c (e26D (meanS u0 (getS u0 u1))) 26, .row p (e23D u0) 23] Z ah := Q
  apply M
  refine r_ (rt (fn := Tryd.f7) (v := .tuple #[i6 (getS u0 u1), .agg (e26D (meanS u0 (getS u0 u1))).toArray, i6 0]) R (re3m R (fn := Tryd.f7) rfl (ad := ⟨c, 0, none⟩) (by kernel_rfl) (loadVar_run S 0 (b := c) (k := 3) (vs := (e26D (meanS u0 (getS u0 u1)))) (ty := 26) rfl (by kernel_rfl) (by kernel_rfl)) (by kernel_rfl) (by kernel_rfl)) ?_)
  exact ⟨((getS u0 u1), (meanS u0 (getS u0 u1)), 0), rfl, ag, S.below⟩

end Go.Proofs.YtdndfbamhnchfaaDoor
namespace Go.Proofs
open Go.Shelf
def Tryd.lays189_ren : Go.Shelf.Ren := ⟨fun | 189 => 61 | 125 => 99 | 257 => 98 | 128 => 125 | 129 => 126 | 294 => 116 | 295 => 117 | 296 => 118 | 297 => 119 | 298 => 120 | 299 => 121 | 216 => 122 | 300 => 123 | 301 => 124 | 328 => 132 | 329 => 133 | 330 => 134 | 331 => 135 | 332 => 136 | 215 => 100 | 343 => 144 | n => n, fun | 28 => 43 | 3 => 3 | 46 => 84 | 0 => 0 | 51 => 109 | 53 => 104 | 4 => 4 | 183 => 138 | 182 => 137 | 131 => 143 | 5 => 5 | 9 => 9 | 218 => 150 | 222 => 153 | 228 => 167 | 229 => 79 | n => n, fun | n => n⟩
theorem Tryd.lays189 : Go.Proofs.Lays.n189 Tryd.prog Tryd.lays189_ren := {
  mixed := by kernel_rfl
  f125 := Tryd.func99.trans (congrArg some (by kernel_rfl))
  f128 := Tryd.func125.trans (congrArg some (by kernel_rfl))
  f129 := Tryd.func126.trans (congrArg some (by kernel_rfl))
  f189 := Tryd.func61.trans (congrArg some (by kernel_rfl))
  f215 := Tryd.func100.trans (congrArg some (by kernel_rfl))
  f216 := Tryd.func122.trans (congrArg some (by kernel_rfl))
  f257 := Tryd.func98.trans (congrArg some (by kernel_rfl))
  f294 := Tryd.func116.trans (congrArg some (by kernel_rfl))
  f295 := Tryd.func117.trans (congrArg some (by kernel_rfl))
  f296 := Tryd.func118.trans (congrArg some (by kernel_rfl))
  f297 := Tryd.func119.trans (congrArg some (by kernel_rfl))
  f298 := Tryd.func120.trans (congrArg some (by kernel_rfl))
  f299 := Tryd.func121.trans (congrArg some (by kernel_rfl))
  f300 := Tryd.func123.trans (congrArg some (by kernel_rfl))
  f301 := Tryd.func124.trans (congrArg some (by kernel_rfl))
  f328 := Tryd.func132.trans (congrArg some (by kernel_rfl))
  f329 := Tryd.func133.trans (congrArg some (by kernel_rfl))
  f330 := Tryd.func134.trans (congrArg some (by kernel_rfl))
  f331 := Tryd.func135.trans (congrArg some (by kernel_rfl))
  f332 := Tryd.func136.trans (congrArg some (by kernel_rfl))
  f343 := Tryd.func144.trans (congrArg some (by kernel_rfl))
  t0 := Tryd.underlying0
  a0 := Tryd.isAgg0
  z0 := Tryd.sizeOf0
  v0 := Tryd.zeroValue0
  t3 := Tryd.underlying3
  a3 := Tryd.isAgg3
  z3 := Tryd.sizeOf3
  v3 := Tryd.zeroValue3
  t4 := Tryd.underlying4
  a4 := Tryd.isAgg4
  z4 := Tryd.sizeOf4
  v4 := Tryd.zeroValue4
  t5 := Tryd.underlying5
  a5 := Tryd.isAgg5
  z5 := Tryd.sizeOf5
  v5 := Tryd.zeroValue5
  t9 := Tryd.underlying9
  a9 := Tryd.isAgg9
  z9 := Tryd.sizeOf9
  v9 := Tryd.zeroValue9
  t28 := Tryd.underlying43
  a28 := Tryd.isAgg43
  z28 := Tryd.sizeOf43
  v28 := Tryd.zeroValue43
  t46 := Tryd.underlying84
  a46 := Tryd.isAgg84
  z46 := Tryd.sizeOf84
  v46 := Tryd.zeroValue84
  t51 := Tryd.underlying109
  a51 := Tryd.isAgg109
  z51 := Tryd.sizeOf109
  v51 := Tryd.zeroValue109
  t53 := Tryd.underlying104
  a53 := Tryd.isAgg104
  z53 := Tryd.sizeOf104
  v53 := Tryd.zeroValue104
  t131 := Tryd.underlying143
  a131 := Tryd.isAgg143
  z131 := Tryd.sizeOf143
  v131 := Tryd.zeroValue143
  t182 := Tryd.underlying137
  a182 := Tryd.isAgg137
  z182 := Tryd.sizeOf137
  v182 := Tryd.zeroValue137
  t183 := Tryd.underlying138
  a183 := Tryd.isAgg138
  z183 := Tryd.sizeOf138
  v183 := Tryd.zeroValue138
  t218 := Tryd.underlying150
  a218 := Tryd.isAgg150
  z218 := Tryd.sizeOf150
  v218 := Tryd.zeroValue150
  t222 := Tryd.underlying153
  a222 := Tryd.isAgg153
  z222 := Tryd.sizeOf153
  v222 := Tryd.zeroValue153
  t228 := Tryd.underlying167
  a228 := Tryd.isAgg167
  z228 := Tryd.sizeOf167
  v228 := Tryd.zeroValue167
  t229 := Tryd.underlying79
  a229 := Tryd.isAgg79
  z229 := Tryd.sizeOf79
  v229 := Tryd.zeroValue79 }
end Go.Proofs
set_option linter.unusedVariables false
set_option linter.unusedSimpArgs false
set_option linter.defProp false
set_option maxRecDepth 100000
set_option maxHeartbeats 0
namespace Go.Proofs.YtdndfbamhnchfaaDoor
open Go.Sy Go.RowKit
def swrite_fun (u0 : Signal) (u1 : List Int) (u2 : Int) (u3 : Int) (hpre : isBytes u1) (ao1 : Option Addr) (cap2 : Nat) (Z : Fz) (w : World) (hs3 : SlR t8 Z ao1 cap2 u1) (hZ : Z.on w) := fc_ (swrite_walk u0 u1 u2 u3 ao1 cap2 Z w hs3 hZ (swrite_ok u0 u1 u2 u3 hpre))
def sread_fun (u0 : Signal) (u1 : List Int) (hpre : isBytes u1) (ao1 : Option Addr) (cap2 : Nat) (Z : Fz) (w : World) (hs3 : SlR t8 Z ao1 cap2 u1) (hZ : Z.on w) := f_ (sread_walk u0 u1 ao1 cap2 Z w hs3 hZ (sread_ok u0 u1 hpre))
open Go Go.Sort
theorem sort_block (w : World) (blk n : Nat) (d : Array Int) (os : Array Obj) (cur : Array Value) (e : TypeId) (fr : Nat × Nat) (h : w.heap[blk]? = some (.cells cur e fr)) : (grow (putRow (Value.int .i64) (Go.Sort.ahead w n) blk 0 d) os).heap[blk]? = some (.cells (putCells (Value.int .i64) 0 d cur) e fr) := by
  have hl := (Array.getElem?_eq_some_iff.1 h).1
  have hl' : blk < (w.heap.modify blk (onCells (putCells (Value.int .i64) 0 d))).size := by rw [Array.size_modify]; exact hl
  show (w.heap.modify blk (onCells (putCells (Value.int .i64) 0 d)) ++ os)[blk]? = _
  rw [Array.getElem?_append, if_pos hl', Array.getElem?_modify, if_pos rfl, h]
  rfl
theorem sort_grown (w : World) (blk n : Nat) (d : Array Int) (os : Array Obj) : w.grownBy (grow (putRow (Value.int .i64) (Go.Sort.ahead w n) blk 0 d) os) (some blk) := by
  refine ⟨rfl, rfl, rfl, ?_, fun k hk hne => ?_⟩
  · show w.heap.size ≤ (w.heap.modify blk _ ++ os).size
    rw [Array.size_append, Array.size_modify]
    omega
  · have hl' : k < (w.heap.modify blk (onCells (putCells (Value.int .i64) 0 d))).size := by rw [Array.size_modify]; exact hk
    show (w.heap.modify blk (onCells (putCells (Value.int .i64) 0 d)) ++ os)[k]? = _
    rw [Array.getElem?_append, if_pos hl', Array.getElem?_modify, if_neg (fun h => hne (by rw [h]))]


theorem sort_cells (d : List Int) (cur : Array Value) (n cap : Nat) (hc : cur.size = cap) (hd : d.length ≤ cap) : ((putCells (Value.int .i64) 0 d.toArray cur).toList.take d.length) = d.map (Value.int .i64) := by
  apply List.ext_getElem?
  intro k
  rw [List.getElem?_take, List.getElem?_map]
  by_cases hk : k < d.length
  · rw [if_pos hk, List.getElem?_eq_getElem hk, Array.getElem?_toList]
    unfold putCells
    rw [Array.getElem?_mapIdx, Array.getElem?_eq_getElem (by omega), Option.map_some, Option.map_some, if_pos ⟨by omega, by simpa using hk⟩]
    congr 1
    simp [hk]
  · rw [if_neg hk, List.getElem?_eq_none (by omega)]
    rfl
theorem sort_mem {B : Nat} {U : List Nat} {w0 : World} {Z0 : Fz} {R : List Res} {Z : Fz} {w : World} (hM : Mem B U w0 Z0 R Z w) (i : Nat) {e : TypeId} {ad : Addr} {cap : Nat} {xs : List Int} (hR : R[i]? = some (.own t6 e (some ad) cap xs)) (n : Nat) (os : Array Obj) (ys : List Int) (hl : ys.length = xs.length) : Mem B U w0 Z0 (R.set i (.own t6 e (some ad) cap ys)) Z (grow (putRow (Value.int .i64) (Go.Sort.ahead w n) ad.block 0 ys.toArray) os) := by
  obtain ⟨a, c, cells, ho, hr⟩ := hM.res _ (List.mem_of_getElem? hR)
  rcases ho.2 with ⟨hv, _⟩ | ⟨g, cap', cur, hv, hb, hg, hn, hc, hs, ht⟩
  · cases hv
  · cases hv
    refine hM.upd hR (sort_grown w _ n _ os) _ ⟨a, by rw [hl]; exact c, ys.map (Value.int .i64), ⟨by simp [tyInt], .inr ⟨g, cap, _, by rw [hl], hb, sort_block w g n _ os cur e _ hg, by rw [hl]; exact hn, hc, ?_, ?_⟩⟩, ?_⟩ (fun b hb => .inl hb)
    · unfold putCells; rw [Array.size_mapIdx]; exact hs
    · have := sort_cells ys cur n (cap * 1) (by simpa [tyInt] using hs) (by omega)
      simpa [tyInt] using this
    · refine ⟨by simp [tyInt], fun j x hx => ?_⟩
      show List.take 1 (List.drop (j * 1) (ys.map (Value.int .i64))) = [Value.int .i64 x]
      have hj := (List.getElem?_eq_some_iff.1 hx).1
      rw [Nat.mul_one, List.drop_eq_getElem_cons (by rw [List.length_map]; exact hj), List.take_succ_cons, List.take_zero, List.getElem_map, (List.getElem?_eq_some_iff.1 hx).2]
theorem sort_frozen (w : World) (g j : Nat) (cur : Array Value) (e : TypeId) (hg : w.heap[g]? = some (.cells cur e (0, 0))) : w.frozen? ⟨g, j, none⟩ = false := by
  simp [World.frozen?, hg]
theorem sort_holds {B : Nat} {U : List Nat} {Z : Fz} {w : World} {e : TypeId} {ad : Addr} {cap : Nat} {xs : List Int} (h : (Res.own t6 e (some ad) cap xs).holds B U Z w) : ad = ⟨ad.block, 0, none⟩ ∧ ad.block < w.heap.size ∧ Holds (Value.int .i64) w ad.block 0 xs.toArray := by
  obtain ⟨d, f, cells, ho, hr⟩ := h
  rcases ho.2 with ⟨hv, _⟩ | ⟨g, cap', cur, hv, hb, hg, hn, hc, hs, ht⟩
  · cases hv
  · cases hv
    refine ⟨rfl, (Array.getElem?_eq_some_iff.1 hg).1, fun j hj => ⟨?_, sort_frozen w g _ cur e hg⟩⟩
    have hj : j < xs.length := by simpa using hj
    have b := hr.2 j xs[j] (List.getElem?_eq_getElem hj)
    have b : List.take 1 (List.drop (j * 1) cells) = [Value.int .i64 xs[j]] := b
    have a : cells[j]? = some (Value.int .i64 xs[j]) := by
      have c := congrArg (fun l => l[0]?) b
      simpa using c
    rw [← ht, List.getElem?_take] at a
    split at a
    · show w.cell? ⟨g, 0 + j, none⟩ = _
      rw [cell_of_row w g _ cur e (0, 0) hg, Nat.zero_add]
      rw [Array.getElem?_toList] at a
      rw [a]
      simp [hj]
    · cases a
theorem isort_at {P : Program} {fid : Nat} (u0 : List Int) (ao1 : Option Addr) (cap2 : Nat) (B : Nat) (w0 : World) (Z0 : Fz) (Rr : List Res) (Z : Fz) (w : World) {e : TypeId} (hM0 : Mem B [] w0 Z0 ((.own t6 e ao1 cap2 u0) :: Rr) Z w)
    (h1 : ∀ (blk off cap : Nat) (zs : List Int) (w : World) (hH : Holds (Value.int .i64) w blk off zs.toArray) (hblk : blk < w.heap.size) (hsz : zs.length < 4611686018427387904), Calls P fid #[.slice (some ⟨blk, off, none⟩) zs.length cap] w fun e w' => e = .returned (.tuple #[]) ∧ ∃ n os, w' = grow (putRow (Value.int .i64) (Go.Sort.ahead w n) blk off (zs.mergeSort fun x y => decide (x ≤ y)).toArray) os)
    (h2 : ∀ (p : Option Addr) (cap : Nat) (w : World), Calls P fid #[.slice p 0 cap] w fun e w' => e = .returned (.tuple #[]) ∧ w' = w) :
    Calls P fid #[.slice ao1 u0.length cap2] w fun e9 w' => ∃ (Z' : Fz), e9 = .returned (.tuple #[]) ∧ Fz.le Z Z' ∧ ((isortS u0).length = u0.length) ∧ Mem B [] w0 Z0 ((.own t6 e ao1 cap2 (isortS u0)) :: Rr) Z' w' := by
  have hr := hM0.res _ List.mem_cons_self
  cases ao1 with
  | none =>
    obtain ⟨_, _, cells, ho, _⟩ := hr
    rcases ho.2 with ⟨hv, hn⟩ | ⟨g, cap', cur, hv, _⟩
    · have : u0 = [] := List.eq_nil_of_length_eq_zero hn
      subst this
      have a : isortS [] = [] := by unfold isortS; exact List.mergeSort_nil
      rw [a]
      exact (h2 none cap2 w).mono fun _ _ ⟨ha, hb⟩ => by subst hb; exact ⟨Z, ha, Fz.le.refl Z, rfl, hM0⟩
    · cases hv
  | some ad =>
    obtain ⟨ha, hb, hc⟩ := sort_holds hr
    have hsm : u0.length < 4611686018427387904 := by
      have := hr.2.1
      have e : lim = 140737488355328 := rfl
      omega
    have hcall := h1 ad.block 0 cap2 u0 w hc hb hsm
    rw [← ha] at hcall
    refine hcall.mono ?_
    rintro _ _ ⟨he, n, os, rfl⟩
    exact ⟨Z, he, Fz.le.refl Z, isort_len u0, sort_mem hM0 0 rfl n os (isortS u0) (isort_len u0)⟩
theorem isort_fun (u0 : List Int) (ao1 : Option Addr) (cap2 : Nat) (B : Nat) (w0 : World) (Z0 : Fz) (Rr : List Res) (Z : Fz) (w : World) (hM0 : Mem B [] w0 Z0 ((.own t6 3 ao1 cap2 u0) :: Rr) Z w) (hZ : Z.on w) : Calls Tryd.prog 61 #[.slice ao1 u0.length cap2] w fun e w' => ∃ (Z' : Fz), e = .returned (.tuple #[]) ∧ Fz.le Z Z' ∧ ((isortS u0).length = u0.length) ∧ Mem B [] w0 Z0 ((.own t6 3 ao1 cap2 (isortS u0)) :: Rr) Z' w' :=
  isort_at u0 ao1 cap2 B w0 Z0 Rr Z w hM0 (fun blk off cap zs w hH hb hs => Any.slices_Sort_int Tryd.lays189 blk off cap zs w hH hb hs) (fun p cap w => Any.slices_Sort_int_none Tryd.lays189 p cap w)

theorem icmp_walk (u0 : Int) (u1 : Int)  (Z : Fz) (w : World)  (hZ : Z.on w) {K : Int → Prop} (hp : icmp_vc u0 u1 K) : Calls Tryd.prog 62 #[i6 u0, i6 u1] w fun e w' => ∃ r : Int, e = .returned (i6 r) ∧ K r ∧ Below w.heap.size w w' := by
 refine enter0 Tryd.func62 rfl rfl (by kernel_rfl) ?_; intro U u; have h := Mem.start w Z hZ
 refine sqB u h [] [] [] ?_; intro W v
 refine sqH ?_; intro F x
 refine s1 v 7 (i6 u0) ?_; intro X y
 refine fc y h (iisnan_fun u0 _ _ h.fz) ?_; intro Y aa z m
 refine s1 z 5 (.bool (iisnan u0)) ?_; intro ab A
 apply x
 refine sqH ?_; intro G B
 refine s1 A 9 (i6 u1) ?_; intro ac C
 refine fc C m (iisnan_fun u1 _ _ m.fz) ?_; intro ad ae D a
 refine s1 D 6 (.bool (iisnan u1)) ?_; intro af E
 apply B
 refine s_ (sqB E a [] [] [(11, .bool (iisnan u0))] ?_); intro ag b
 refine cd b (t := (iisnan u0)) (by kernel_rfl) (fun n => ?_) (fun n => ?_)
 · -- yes
  have i := hp.1 n
  refine s_ (sqB b a [] [] [(12, .bool (iisnan u1))] ?_); intro ah c
  refine cd c (t := (iisnan u1)) (by kernel_rfl) (fun o => ?_) (fun o => ?_)
  · -- yes
   have H := i.1 o
   refine sqB c a [] [] [(4, i6 0)] ?_; intro ai I
   exact r_ (h_ (h_ (ra1 I (i6 0) ⟨0, rfl, H, a.below⟩)))
  · -- no
   have J := i.2 o
   refine k_ (sqB c a [] [] [(4, i6 (-1))] ?_); intro aj L
   exact r_ (h_ (ra1 L (i6 (-1)) ⟨-1, rfl, J, a.below⟩))
 · -- no
  have j := hp.2 n
  refine k_ (s_ (sqB b a [] [] [(13, .bool (iisnan u1))] ?_)); intro ak d
  refine cd d (t := (iisnan u1)) (by kernel_rfl) (fun p => ?_) (fun p => ?_)
  · -- yes
   have M := j.1 p
   refine sqB d a [] [] [(4, i6 1)] ?_; intro al N
   exact r_ (h_ (ra1 N (i6 1) ⟨1, rfl, M, a.below⟩))
  · -- no
   have k := j.2 p
   refine k_ (s_ (sqB d a [] [] [(16, .bool (decide (u0 < u1)))] ?_)); intro am f
   refine cd f (t := decide (u0 < u1)) (by kernel_rfl) (fun q => ?_) (fun q => ?_)
   · -- yes
    have O := k.1 q
    refine sqB f a [] [] [(4, i6 (-1))] ?_; intro an P
    exact r_ (h_ (ra1 P (i6 (-1)) ⟨-1, rfl, O, a.below⟩))
   · -- no
    have l := k.2 q
    refine k_ (s_ (sqB f a [] [] [(19, .bool (decide (u0 > u1)))] ?_)); intro ao g
    refine cd g (t := decide (u0 > u1)) (by kernel_rfl) (fun s => ?_) (fun s => ?_)
    · -- yes
     have Q := l.1 s
     refine sqB g a [] [] [(4, i6 1)] ?_; intro ap R
     exact r_ (h_ (ra1 R (i6 1) ⟨1, rfl, Q, a.below⟩))
    · -- no
     have S := l.2 s
     refine k_ (sqB g a [] [] [(4, i6 0)] ?_); intro aq T
     exact r_ (ra1 T (i6 0) ⟨0, rfl, S, a.below⟩)

end Go.Proofs.YtdndfbamhnchfaaDoor
set_option linter.unusedVariables false
set_option linter.unusedSimpArgs false
set_option linter.defProp false
set_option maxRecDepth 100000
set_option maxHeartbeats 0
namespace Go.Proofs.YtdndfbamhnchfaaDoor
open Go.Sy Go.RowKit
abbrev e23F (X : Signal) : List Value := [str X.Name, i6 X.Start, i6 X.Size, .bool X.Back, .bool X.Signed, i6 X.Mul, i6 X.Div, i6 X.Add, i6 X.Key]
def icmp_fun (u0 : Int) (u1 : Int)  (Z : Fz) (w : World)  (hZ : Z.on w) := f_ (icmp_walk u0 u1  Z w  hZ (icmp_ok u0 u1))
theorem sover_walk (u0 : Signal) (u1 : Signal)  (Z : Fz) (w : World)  (hZ : Z.on w) {K : Bool → Prop} (hp : sover_vc u0 u1 K) : Calls Tryd.prog 22 #[.agg #[str u0.Name, i6 u0.Start, i6 u0.Size, .bool u0.Back, .bool u0.Signed, i6 u0.Mul, i6 u0.Div, i6 u0.Add, i6 u0.Key], .agg #[str u1.Name, i6 u1.Start, i6 u1.Size, .bool u1.Back, .bool u1.Signed, i6 u1.Mul, i6 u1.Div, i6 u1.Add, i6 u1.Key]] w fun e w' => ∃ r : Bool, e = .returned (.bool r) ∧ K r ∧ Below w.heap.size w w' := by
 refine enter0 Tryd.func22 rfl rfl (by kernel_rfl) ?_; intro a0 aj; have ak := Mem.start w Z hZ
 refine sqH ?_; intro bB al
 refine nw aj ak pb (e23F u0) 23 ?_; intro j a3 cJ am an
 refine nw am an pb (e23F u1) 23 ?_; intro i a8 cK ao H
 refine s1 ao 4 (.bool false) ?_; intro cL ap
 apply al
 refine s_ (sqH ?_); intro bC aq
 refine l2 ap H 8 1 0 9 (e23F u0) rfl rfl ?_; intro cM ar
 refine fc ar H (scheck_fun u0 64 _ _ H.fz) ?_; intro cN cO au I
 refine s1 au 10 (.bool ((checkS u0 64) != 0)) ?_; intro cP av
 refine s1 av 11 (.bool ((checkS u0 64) != 0)) ?_; intro cQ aw
 have S := aw.atom (((checkS u0 64) != 0) == false) (by kernel_rfl)
 refine gd S (.agg (e23F u1).toArray) (m := 0) (cj := []) (bj := (checkS u0 64) != 0) rfl rfl (by kernel_rfl) rfl (by kernel_rfl) (by kernel_rfl) (by kernel_rfl) (fun hg => lda S I 0 (g := [0]) (b := i) (off := 0) (k := 9) (cs := (e23F u1)) (vs := (e23F u1)) (ty := 23) rfl (by kernel_rfl) (by kernel_rfl) (by kernel_rfl) (by kernel_rfl) (by kernel_rfl) hg) ?_; intro cR ax
 refine gcl ax I (i6 (checkS u1 64)) 19 #[.agg (e23F u1).toArray, i6 64] (m := 0) (cj := []) (bj := (checkS u0 64) != 0) rfl rfl (by kernel_rfl) rfl (by kernel_rfl) (by kernel_rfl) (by kernel_rfl) (fun _ => by kernel_rfl) (fun hg => scheck_fun u1 64 _ _ I.fz) ?_; intro cT cU ay J
 refine gp ay 14 0 [] ((checkS u0 64) != 0) (.bool ((checkS u1 64) != 0)) rfl rfl ?_; intro cV U
 refine u_ U (.bool (((checkS u0 64) != 0) || ((checkS u1 64) != 0))) (pk_or U (g := []) (m := 0) (b := (checkS u0 64) != 0) (v := (checkS u1 64) != 0) rfl (by kernel_rfl) (by kernel_rfl) (by kernel_rfl) rfl) ?_; intro az x
 apply aq
 refine cd x (t := ((checkS u0 64) != 0) || ((checkS u1 64) != 0)) (by kernel_rfl) (fun V => ?_) (fun V => ?_)
 · -- yes
  have bD := hp.1 V
  have aA : Fr 49 [] [] az := x.reg
  refine sqB aA J [] [] [(4, .bool false)] ?_; intro cW bE
  exact r_ (h_ (ra1 bE (.bool false) ⟨false, rfl, bD, J.below⟩))
 · -- no
  have bF := hp.2 V
  apply k_
  have aB : Fr 49 [] [⟨2, [], pt j 0⟩, ⟨3, [], pt i 0⟩] az := x.reg
  refine wp_seq (rgS mixed J [(0, true), (2, true), (1, false), (3, false), (4, true), (5, true)] [] [1, 0] [.row j (e23F u0) 23, .row i (e23F u1) 23] ?_)
  intro bG aC cX W
  have q := Fz.le.refl Z
  refine cS aB 2 [0, 1] [] [(16, .agg (e23F u0).toArray), (18, .agg (e23F u1).toArray)] ?_; intro cY aD
  refine eS rfl ?_; intro bH aE
  obtain ⟨bI, bJ⟩ := bF
  refine ck aD 57 #[.agg (e23F u0).toArray] ?_
  refine (splaces_fun u0 bI _ _ W.fz).mono ?_; rintro _ bK ⟨a, c, bL, rfl, hm⟩; refine ⟨_, rfl, ?_⟩; intro cZ aF; have aG := W.callZ hm; have aH := hm.ext.le
  replace q := q.mono aH
  have L : Mem w.heap.size [] w Z [.own t6 3 a c (placesS u0), .row i (e23F u1) 23, .row j (e23F u0) 23] bL bK := aG
  refine nl (qnI (aE _ _ (L.cst q [2, 1]) ?_))
  refine eS rfl ?_; intro bM aI
  obtain ⟨bN, aJ⟩ := bJ
  refine ck aF 57 #[.agg (e23F u1).toArray] ?_
  refine (splaces_fun u1 bN _ _ L.fz).mono ?_; rintro _ bO ⟨d, f, bP, rfl, hm⟩; refine ⟨_, rfl, ?_⟩; intro c0 aK; have aL := L.callZ hm; have aM := hm.ext.le
  replace q := q.mono aM
  have M : Mem w.heap.size [] w Z [.own t6 3 d f (placesS u1), .own t6 3 a c (placesS u0), .row i (e23F u1) 23, .row j (e23F u0) 23] bP bO := aL
  refine nl (qnI (aI _ _ (M.cst q [3, 2]) ?_))
  refine cS aK 2 [] [] [(5, .slice a (placesS u0).length c), (6, .slice d (placesS u1).length f)] ?_; intro c1 aN
  refine nS (aC _ _ ?_)
  refine t_ (sqH ?_); intro bQ aO
  refine s1 aN 20 (.slice a (placesS u0).length c) ?_; intro c2 aP
  refine ck aP 61 #[.slice a (placesS u0).length c] ?_
  refine (isort_fun (placesS u0) a c _ _ _ _ _ _ (M.perm (pk 1 rfl)) M.fz).mono ?_; rintro _ bR ⟨bS, rfl, bT, bU, hm⟩; refine ⟨_, rfl, ?_⟩; intro bV aQ; have aR := hm
  have aS : Fr 49 [] [⟨2, [], pt j 0⟩, ⟨3, [], pt i 0⟩, ⟨5, [], .slice a (isortS (placesS u0)).length c⟩, ⟨6, [], .slice d (placesS u1).length f⟩, ⟨16, [], .agg (e23F u0).toArray⟩, ⟨17, [], .slice a (isortS (placesS u0)).length c⟩, ⟨18, [], .agg (e23F u1).toArray⟩, ⟨19, [], .slice d (placesS u1).length f⟩, ⟨20, [], .slice a (isortS (placesS u0)).length c⟩, ⟨21, [], .tuple #[]⟩] bV := by rw [bU]; exact aQ.region (by kernel_rfl) (by kernel_rfl)
  have N : Mem w.heap.size [] w Z [.own t6 3 a c (isortS (placesS u0)), .own t6 3 d f (placesS u1), .row i (e23F u1) 23, .row j (e23F u0) 23] bS bR := aR
  have aT := aJ (N.ownSmall 0 rfl)
  apply aO
  refine sqH ?_; intro bW aU
  refine s1 aS 22 (.slice d (placesS u1).length f) ?_; intro c3 aV
  refine ck aV 61 #[.slice d (placesS u1).length f] ?_
  refine (isort_fun (placesS u1) d f _ _ _ _ _ _ (N.perm (pk 1 rfl)) N.fz).mono ?_; rintro _ X ⟨bX, rfl, bY, bZ, hm⟩; refine ⟨_, rfl, ?_⟩; intro Y aW; have aX := hm
  have aY : Fr 49 [] [⟨2, [], pt j 0⟩, ⟨3, [], pt i 0⟩, ⟨5, [], .slice a (isortS (placesS u0)).length c⟩, ⟨6, [], .slice d (isortS (placesS u1)).length f⟩, ⟨16, [], .agg (e23F u0).toArray⟩, ⟨17, [], .slice a (isortS (placesS u0)).length c⟩, ⟨18, [], .agg (e23F u1).toArray⟩, ⟨19, [], .slice d (isortS (placesS u1)).length f⟩, ⟨20, [], .slice a (isortS (placesS u0)).length c⟩, ⟨21, [], .tuple #[]⟩, ⟨22, [], .slice d (isortS (placesS u1)).length f⟩, ⟨23, [], .tuple #[]⟩] Y := by rw [bZ]; exact aW.region (by kernel_rfl) (by kernel_rfl)
  have aZ : Mem w.heap.size [] w Z [.own t6 3 d f (isortS (placesS u1)), .own t6 3 a c (isortS (placesS u0)), .row i (e23F u1) 23, .row j (e23F u0) 23] bX X := aX
  have b0 := aT (aZ.ownSmall 0 rfl)
  apply aU
  refine s_ (b_ ?_)
  have a1 : Fr 49 [] [⟨5, [], .slice a (isortS (placesS u0)).length c⟩, ⟨6, [], .slice d (isortS (placesS u1)).length f⟩] Y := aY.reg
  obtain ⟨b1, b3, a2, O⟩ := aZ.freeze 1 rfl
  have b4 : Mem w.heap.size [] w Z [.own t6 3 d f (isortS (placesS u1)), .row i (e23F u1) 23, .row j (e23F u0) 23] b1 X := a2
  obtain ⟨aa, a4, a5, a6⟩ := b4.freeze 0 rfl
  replace O := O.mono a4
  have a7 : Mem w.heap.size [] w Z [.row i (e23F u1) 23, .row j (e23F u0) 23] aa X := a5
  have a9 : Fr 49 [] [⟨5, [], .slice a (isortS (placesS u0)).length c⟩, ⟨6, [], .slice d (isortS (placesS u1)).length f⟩] Y := a1.reg
  obtain ⟨b5, b6, b8, b9⟩ := b0
  refine lp (ι := (List Int) × (List Int) × (Option Addr) × Nat × (Option Addr) × Nat × Fz) (fun s => [⟨5, [], .slice s.2.2.1 s.1.length s.2.2.2.1⟩, ⟨6, [], .slice s.2.2.2.2.1 s.2.1.length s.2.2.2.2.2.1⟩]) (fun s => [.row i (e23F u1) 23, .row j (e23F u0) 23]) (fun s => s.2.2.2.2.2.2) (fun s => b5 s.1 s.2.1 ∧ SlR t6 s.2.2.2.2.2.2 s.2.2.1 s.2.2.2.1 s.1 ∧ SlR t6 s.2.2.2.2.2.2 s.2.2.2.2.1 s.2.2.2.2.2.1 s.2.1 ∧ Fz.le aa s.2.2.2.2.2.2) (fun s => b6 s.1 s.2.1) ⟨(isortS (placesS u0)), (isortS (placesS u1)), a, c, d, f, aa⟩ ⟨b8, O, a6, Fz.le.refl _⟩ (by exact a9.region (by kernel_rfl) (by kernel_rfl)) (by exact a7) ?_
  rintro ⟨l, n, y, z, A, B, ab⟩ ⟨ca, ac, ad, C⟩ cb cc ba bb
  have P := b9 l n ca
  refine s_ (sqB ba bb [] [] [(31, .bool ((decide ((l.length : Int) > 0)) && (decide ((n.length : Int) > 0))))] ?_); intro ce E
  refine cd E (t := (decide ((l.length : Int) > 0)) && (decide ((n.length : Int) > 0))) (by kernel_rfl) (fun ae => ?_) (fun ae => ?_)
  · -- yes
   have cf := P.1 ae
   refine k_ (b_ ?_)
   have bd : Fr 49 [] [⟨5, [], .slice y l.length z⟩, ⟨6, [], .slice A n.length B⟩] ce := E.reg
   refine sqQH mixed (by kernel_rfl) bb ?_; intro cg be
   refine q1 bd 32 (.slice y l.length z) ?_; intro c7 bf
   obtain ⟨ch, bg⟩ := cf
   refine qx_ bf ac (0 : Int) ch .i64 3 8 ?_; intro c8 c9 ci o da cl cm cn af
   have co := bg o cl
   obtain rfl : ci = ([i6 o] : List Value) := cn
   refine qz_ af cm 0 (i6 o) rfl ?_; intro db bh
   refine q1 bh 35 (.slice A n.length B) ?_; intro dc bi
   obtain ⟨cp, bk⟩ := co
   refine qx_ bi ad (0 : Int) cp .i64 3 8 ?_; intro dd de cq p df cr ct cu ag
   have Q := bk p cr
   obtain rfl : cq = ([i6 p] : List Value) := cu
   refine qz_ ag ct 0 (i6 p) rfl ?_; intro dg bl
   refine qcl bl (i6 (icmpS o p)) 62 #[i6 o, i6 p] (nog rfl _) rfl (by kernel_rfl) (fun _ => by kernel_rfl) (qfc fun w hC => icmp_fun o p _ _ hC.fz) ?_; intro dh bm
   refine q1 bm 7 (i6 (icmpS o p)) ?_; intro di bn
   refine qnl (be _ ?_); intro dj u
   refine b_ (sqB bn u [] [] [(41, .bool ((icmpS o p) == 0))] ?_); intro dk F
   refine cd F (t := (icmpS o p) == 0) (by kernel_rfl) (fun ah => ?_) (fun ah => ?_)
   · -- yes
    have cv := Q.1 ah
    refine sqB F u [] [] [(4, .bool true)] ?_; intro dl cw
    exact r_ (i_ (i_ (h_ (i_ (h_ (ra1 cw (.bool true) ⟨true, rfl, cv, u.below⟩))))))
   · -- no
    have R := Q.2 ah
    refine sqB F u [] [] [(44, .bool (decide ((icmpS o p) < 0)))] ?_; intro dm G
    refine cd G (t := decide ((icmpS o p) < 0)) (by kernel_rfl) (fun ai => ?_) (fun ai => ?_)
    · -- yes
     have cx := R.1 ai
     refine rgH ?_; intro cy bo
     refine s1 G 47 (.slice y l.length z) ?_; intro dn bp
     obtain ⟨cz, bq⟩ := cx
     refine slL bp (T := t6) (xs := l) ac (1 : Int) cz (k := .i64) (e := 3) (bytes := 8) (nog rfl _) rfl (by kernel_rfl) rfl (by kernel_rfl) (by kernel_rfl) (by kernel_rfl) ?_; intro br bs dp dq cA bt
     refine s1 bt 5 (.slice br (l.drop (1 : Int).toNat).length bs) ?_; intro dr cB
     apply bo
     exact j_ (j_ (d_ ⟨⟨l.drop (1 : Int).toNat, n, br, bs, A, B, ab⟩, ⟨bq.1, cA, ad, C⟩, bq.2, (cB.region (by kernel_rfl) (by kernel_rfl)).anyβ _ (by kernel_rfl), u.kp⟩))
    · -- no
     have cC := R.2 ai
     refine rgH ?_; intro cD bu
     refine s1 G 39 (.slice A n.length B) ?_; intro ds bv
     obtain ⟨cE, bw⟩ := cC
     refine slL bv (T := t6) (xs := n) ad (1 : Int) cE (k := .i64) (e := 3) (bytes := 8) (nog rfl _) rfl (by kernel_rfl) rfl (by kernel_rfl) (by kernel_rfl) (by kernel_rfl) ?_; intro bx bz dt du cF bA
     refine s1 bA 6 (.slice bx (n.drop (1 : Int).toNat).length bz) ?_; intro dv cG
     apply bu
     exact j_ (j_ (d_ ⟨⟨l, n.drop (1 : Int).toNat, y, z, bx, bz, ab⟩, ⟨bw.1, ac, cF, C⟩, bw.2, (cG.region (by kernel_rfl) (by kernel_rfl)).anyβ _ (by kernel_rfl), u.kp⟩))
  · -- no
   have cH := P.2 ae
   refine x_ (y_ (y_ (z_ (t_ (sqB E bb [] [] [(4, .bool false)] ?_))))); intro dw cI
   exact r_ (ra1 cI (.bool false) ⟨false, rfl, cH, bb.below⟩)

end Go.Proofs.YtdndfbamhnchfaaDoor
set_option linter.unusedVariables false
set_option linter.unusedSimpArgs false
set_option linter.defProp false
set_option maxRecDepth 100000
set_option maxHeartbeats 0
namespace Go.Proofs.YtdndfbamhnchfaaDoor
open Go.Sy Go.RowKit
abbrev e26G (X : Reading) : List Value := [str X.Name, i6 X.Num, i6 X.Den]
def sover_fun (u0 : Signal) (u1 : Signal)  (Z : Fz) (w : World)  (hZ : Z.on w) := f_ (sover_walk u0 u1  Z w  hZ (sover_ok u0 u1))
theorem speed_walk   (Z : Fz) (w : World)  (hZ : Z.on w) {K : Signal → Prop} (hp : speed_vc  K) : Calls Tryd.prog 38 #[] w fun e w' => ∃ r : Signal, e = .returned (.agg #[str r.Name, i6 r.Start, i6 r.Size, .bool r.Back, .bool r.Signed, i6 r.Mul, i6 r.Div, i6 r.Add, i6 r.Key]) ∧ K r ∧ Below w.heap.size w w' := by
 refine enter0 Tryd.func38 rfl rfl (by kernel_rfl) ?_; intro q d; have f := Mem.start w Z hZ
 refine sqH ?_; intro n g
 refine nw d f pb [str [], i6 0, i6 0, .bool false, .bool false, i6 0, i6 0, i6 0, i6 0] 23 ?_; intro a t u h i
 apply g
 refine sqH ?_; intro o j
 refine s1 h 1 (.agg #[str ([115, 112, 101, 101, 100] : List UInt8), i6 8, i6 16, .bool false, .bool false, i6 1, i6 10, i6 0, i6 (-1)]) ?_; intro x c
 refine sx c i 0 [str ([115, 112, 101, 101, 100] : List UInt8), i6 8, i6 16, .bool false, .bool false, i6 1, i6 10, i6 0, i6 (-1)] 0 ?_; intro p l
 have m : Mem w.heap.size [] w Z [.row a [str ([115, 112, 101, 101, 100] : List UInt8), i6 8, i6 16, .bool false, .bool false, i6 1, i6 10, i6 0, i6 (-1)] 23] Z p := l
 apply j
 refine r_ (rt (fn := Tryd.f38) (v := .agg #[str ([115, 112, 101, 101, 100] : List UInt8), i6 8, i6 16, .bool false, .bool false, i6 1, i6 10, i6 0, i6 (-1)]) c (re1c c (fn := Tryd.f38) rfl (ad := ⟨a, 0, none⟩) (by kernel_rfl) (loadVar_run m 0 (b := a) (k := 9) (vs := [str ([115, 112, 101, 101, 100] : List UInt8), i6 8, i6 16, .bool false, .bool false, i6 1, i6 10, i6 0, i6 (-1)]) (ty := 23) rfl (by kernel_rfl) (by kernel_rfl)) ) ?_)
 exact ⟨(⟨([115, 112, 101, 101, 100] : List UInt8), 8, 16, false, false, 1, 10, 0, -1⟩ : Signal), rfl, hp, m.below⟩
def speed_fun   (Z : Fz) (w : World)  (hZ : Z.on w) := f_ (speed_walk   Z w  hZ (speed_ok ))
theorem signalled_walk   (Z : Fz) (w : World)  (hZ : Z.on w) {K : Bool → Prop} (hp : signalled_vc  K) : Calls Tryd.prog 9 #[] w fun e w' => ∃ r : Bool, e = .returned (.bool r) ∧ K r ∧ Below w.heap.size w w' := by
 refine enter0 Tryd.func9 rfl rfl (by kernel_rfl) ?_; intro a0 V; have p := Mem.start w Z hZ
 refine sqB V p [] [] [] ?_; intro a2 W
 refine sqH ?_; intro aU X
 refine fc W p (speed_fun  _ _ p.fz) ?_; intro a5 bh Y aa
 refine nw Y aa (fun b => .slice (sm b) 3 3) [y8 0, y8 44, y8 1] 5 ?_; intro b9 bi ab ac ad
 have aV : Mem w.heap.size [] w Z [.own t8 5 (sm b9) 3 ([0, 44, 1] : List Int)] Z ab := ad.rowOwn (T := t8) (xs := ([0, 44, 1] : List Int)) 0 rfl (by decide) (by show 3 ≤ lim; decide) ((RepAll.one (T := t8) (x := 0) rfl).append ((RepAll.one (T := t8) (x := 44) rfl).append (RepAll.one (T := t8) (x := 1) rfl)))
 obtain ⟨A, aW, ae, f⟩ := aV.freeze 0 rfl
 have B : Mem w.heap.size [] w Z [] A ab := ae
 obtain ⟨aX, aY⟩ := hp
 refine fc ac B (sread_fun speed ([0, 44, 1] : List Int) aX (sm b9) 3 _ _ f B.fz) ?_; intro bk bl af C
 refine bt af C 4 [] [] [(10, i6 (sreadS speed ([0, 44, 1] : List Int)).1), (11, .agg (e26G ((sreadS speed ([0, 44, 1] : List Int)).2.1)).toArray), (12, i6 (sreadS speed ([0, 44, 1] : List Int)).2.2)] ?_; intro bm ag
 refine nw ag C pb [str [], i6 0, i6 0] 26 ?_; intro h bn bo ah ai
 refine s1 ah 1 (i6 (sreadS speed ([0, 44, 1] : List Int)).1) ?_; intro bp D
 refine sx D ai 0 (e26G ((sreadS speed ([0, 44, 1] : List Int)).2.1)) 0 ?_; intro aZ aj
 refine s1 D 3 (i6 (sreadS speed ([0, 44, 1] : List Int)).2.2) ?_; intro bq ak
 have E : Mem w.heap.size [] w Z [.row h (e26G ((sreadS speed ([0, 44, 1] : List Int)).2.1)) 26] A aZ := aj
 apply X
 refine sqH ?_; intro a1 al
 refine fc ak E (speed_fun  _ _ E.fz) ?_; intro br bs am an
 refine nw am an (fun b => .slice (sm b) 3 3) [y8 9, y8 0, y8 0] 5 ?_; intro F bu ao ap aq
 have a3 : Mem w.heap.size [] w Z [.own t8 5 (sm F) 3 ([9, 0, 0] : List Int), .row h (e26G ((sreadS speed ([0, 44, 1] : List Int)).2.1)) 26] A ao := aq.rowOwn (T := t8) (xs := ([9, 0, 0] : List Int)) 0 rfl (by decide) (by show 3 ≤ lim; decide) ((RepAll.one (T := t8) (x := 9) rfl).append ((RepAll.one (T := t8) (x := 0) rfl).append (RepAll.one (T := t8) (x := 0) rfl)))
 obtain ⟨a4, ar, au, i⟩ := a3.freeze 0 rfl
 have G : Mem w.heap.size [] w Z [.row h (e26G ((sreadS speed ([0, 44, 1] : List Int)).2.1)) 26] a4 ao := au
 obtain ⟨a6, av⟩ := aY
 refine ck ap 14 #[.agg #[str speed.Name, i6 speed.Start, i6 speed.Size, .bool speed.Back, .bool speed.Signed, i6 speed.Mul, i6 speed.Div, i6 speed.Add, i6 speed.Key], .slice (sm F) ([9, 0, 0] : List Int).length 3, i6 30, i6 1] ?_
 refine (swrite_fun speed ([9, 0, 0] : List Int) 30 1 a6 (sm F) 3 _ _ i G.fz).mono ?_; rintro _ a7 ⟨l, n, a8, rfl, hm⟩; refine ⟨_, rfl, ?_⟩; intro bv aw; have ax := G.callZ hm
 have j : Mem w.heap.size [] w Z [.own t8 5 l n (swriteS speed ([9, 0, 0] : List Int) 30 1).1, .row h (e26G ((sreadS speed ([0, 44, 1] : List Int)).2.1)) 26] a8 a7 := ax
 have q := av (j.ownSmall 0 rfl)
 refine bt aw j 5 [] [] [(4, .slice l (swriteS speed ([9, 0, 0] : List Int) 30 1).1.length n), (5, i6 (swriteS speed ([9, 0, 0] : List Int) 30 1).2)] ?_; intro bw ay
 apply al
 refine sqH ?_; intro az s
 refine s1 ay 19 (i6 (sreadS speed ([0, 44, 1] : List Int)).2.2) ?_; intro bx aA
 refine s1 aA 20 (.bool ((sreadS speed ([0, 44, 1] : List Int)).2.2 == 0)) ?_; intro bz aB
 refine s1 aB 21 (.bool ((sreadS speed ([0, 44, 1] : List Int)).2.2 == 0)) ?_; intro bA aC
 have aD := aC.atom (((sreadS speed ([0, 44, 1] : List Int)).2.2 == 0) == true) (by kernel_rfl)
 refine gp aD 22 0 [] ((sreadS speed ([0, 44, 1] : List Int)).2.2 == 0) (i6 (swriteS speed ([9, 0, 0] : List Int) 30 1).2) rfl rfl ?_; intro bB aE
 refine gp aE 23 0 [] ((sreadS speed ([0, 44, 1] : List Int)).2.2 == 0) (.bool ((swriteS speed ([9, 0, 0] : List Int) 30 1).2 == 0)) rfl rfl ?_; intro bC I
 refine u_ I (.bool (((sreadS speed ([0, 44, 1] : List Int)).2.2 == 0) && ((swriteS speed ([9, 0, 0] : List Int) 30 1).2 == 0))) (pk_and I (g := []) (m := 0) (b := (sreadS speed ([0, 44, 1] : List Int)).2.2 == 0) (v := (swriteS speed ([9, 0, 0] : List Int) 30 1).2 == 0) rfl (by kernel_rfl) (by kernel_rfl) (by kernel_rfl) rfl) ?_; intro bD aF
 refine s1 aF 25 (.bool (((sreadS speed ([0, 44, 1] : List Int)).2.2 == 0) && ((swriteS speed ([9, 0, 0] : List Int) 30 1).2 == 0))) ?_; intro bE aG
 have aH := aG.atom ((((sreadS speed ([0, 44, 1] : List Int)).2.2 == 0) && ((swriteS speed ([9, 0, 0] : List Int) 30 1).2 == 0)) == true) (by kernel_rfl)
 refine gp aH 26 1 [] (((sreadS speed ([0, 44, 1] : List Int)).2.2 == 0) && ((swriteS speed ([9, 0, 0] : List Int) 30 1).2 == 0)) (i6 (sreadS speed ([0, 44, 1] : List Int)).1) rfl rfl ?_; intro bF aI
 refine gp aI 27 1 [] (((sreadS speed ([0, 44, 1] : List Int)).2.2 == 0) && ((swriteS speed ([9, 0, 0] : List Int) 30 1).2 == 0)) (.bool ((sreadS speed ([0, 44, 1] : List Int)).1 == 300)) rfl rfl ?_; intro bG J
 refine u_ J (.bool ((((sreadS speed ([0, 44, 1] : List Int)).2.2 == 0) && ((swriteS speed ([9, 0, 0] : List Int) 30 1).2 == 0)) && ((sreadS speed ([0, 44, 1] : List Int)).1 == 300))) (pk_and J (g := []) (m := 1) (b := ((sreadS speed ([0, 44, 1] : List Int)).2.2 == 0) && ((swriteS speed ([9, 0, 0] : List Int) 30 1).2 == 0)) (v := (sreadS speed ([0, 44, 1] : List Int)).1 == 300) rfl (by kernel_rfl) (by kernel_rfl) (by kernel_rfl) rfl) ?_; intro bH aJ
 refine s1 aJ 29 (.bool ((((sreadS speed ([0, 44, 1] : List Int)).2.2 == 0) && ((swriteS speed ([9, 0, 0] : List Int) 30 1).2 == 0)) && ((sreadS speed ([0, 44, 1] : List Int)).1 == 300))) ?_; intro bI aK
 have L := aK.atom (((((sreadS speed ([0, 44, 1] : List Int)).2.2 == 0) && ((swriteS speed ([9, 0, 0] : List Int) 30 1).2 == 0)) && ((sreadS speed ([0, 44, 1] : List Int)).1 == 300)) == true) (by kernel_rfl)
 refine gd L (.agg (e26G ((sreadS speed ([0, 44, 1] : List Int)).2.1)).toArray) (m := 2) (cj := []) (bj := (((sreadS speed ([0, 44, 1] : List Int)).2.2 == 0) && ((swriteS speed ([9, 0, 0] : List Int) 30 1).2 == 0)) && ((sreadS speed ([0, 44, 1] : List Int)).1 == 300)) rfl rfl (by kernel_rfl) rfl (by kernel_rfl) (by kernel_rfl) (by kernel_rfl) (fun hg => lda L j 1 (g := [2]) (b := h) (off := 0) (k := 3) (cs := (e26G ((sreadS speed ([0, 44, 1] : List Int)).2.1))) (vs := (e26G ((sreadS speed ([0, 44, 1] : List Int)).2.1))) (ty := 26) rfl (by kernel_rfl) (by kernel_rfl) (by kernel_rfl) (by kernel_rfl) (by kernel_rfl) hg) ?_; intro bJ aL
 refine gp aL 31 2 [] ((((sreadS speed ([0, 44, 1] : List Int)).2.2 == 0) && ((swriteS speed ([9, 0, 0] : List Int) 30 1).2 == 0)) && ((sreadS speed ([0, 44, 1] : List Int)).1 == 300)) (.agg #[str ([115, 112, 101, 101, 100] : List UInt8), i6 30, i6 1]) rfl rfl ?_; intro bK M
 refine gd M (.bool (((sreadS speed ([0, 44, 1] : List Int)).2.1.Name == ([115, 112, 101, 101, 100] : List UInt8)) && (((sreadS speed ([0, 44, 1] : List Int)).2.1.Num == 30) && (((sreadS speed ([0, 44, 1] : List Int)).2.1.Den == 1) && true)))) (m := 2) (cj := []) (bj := (((sreadS speed ([0, 44, 1] : List Int)).2.2 == 0) && ((swriteS speed ([9, 0, 0] : List Int) 30 1).2 == 0)) && ((sreadS speed ([0, 44, 1] : List Int)).1 == 300)) rfl rfl (by kernel_rfl) rfl (by kernel_rfl) (by kernel_rfl) (by kernel_rfl) (fun hg => eqs_run M (g := [2]) (xs := (e26G ((sreadS speed ([0, 44, 1] : List Int)).2.1)).toArray) (ys := #[str ([115, 112, 101, 101, 100] : List UInt8), i6 30, i6 1]) (b := ((sreadS speed ([0, 44, 1] : List Int)).2.1.Name == ([115, 112, 101, 101, 100] : List UInt8)) && (((sreadS speed ([0, 44, 1] : List Int)).2.1.Num == 30) && (((sreadS speed ([0, 44, 1] : List Int)).2.1.Den == 1) && true))) rfl (by kernel_rfl) (by kernel_rfl) (by kernel_rfl) (by kernel_rfl) hg) ?_; intro bL N
 refine u_ N (.bool (((((sreadS speed ([0, 44, 1] : List Int)).2.2 == 0) && ((swriteS speed ([9, 0, 0] : List Int) 30 1).2 == 0)) && ((sreadS speed ([0, 44, 1] : List Int)).1 == 300)) && (((sreadS speed ([0, 44, 1] : List Int)).2.1.Name == ([115, 112, 101, 101, 100] : List UInt8)) && (((sreadS speed ([0, 44, 1] : List Int)).2.1.Num == 30) && (((sreadS speed ([0, 44, 1] : List Int)).2.1.Den == 1) && true))))) (pk_and N (g := []) (m := 2) (b := (((sreadS speed ([0, 44, 1] : List Int)).2.2 == 0) && ((swriteS speed ([9, 0, 0] : List Int) 30 1).2 == 0)) && ((sreadS speed ([0, 44, 1] : List Int)).1 == 300)) (v := ((sreadS speed ([0, 44, 1] : List Int)).2.1.Name == ([115, 112, 101, 101, 100] : List UInt8)) && (((sreadS speed ([0, 44, 1] : List Int)).2.1.Num == 30) && (((sreadS speed ([0, 44, 1] : List Int)).2.1.Den == 1) && true))) rfl (by kernel_rfl) (by kernel_rfl) (by kernel_rfl) rfl) ?_; intro bM aM
 refine s1 aM 34 (.bool (((((sreadS speed ([0, 44, 1] : List Int)).2.2 == 0) && ((swriteS speed ([9, 0, 0] : List Int) 30 1).2 == 0)) && ((sreadS speed ([0, 44, 1] : List Int)).1 == 300)) && (((sreadS speed ([0, 44, 1] : List Int)).2.1.Name == ([115, 112, 101, 101, 100] : List UInt8)) && (((sreadS speed ([0, 44, 1] : List Int)).2.1.Num == 30) && (((sreadS speed ([0, 44, 1] : List Int)).2.1.Den == 1) && true))))) ?_; intro bN t
 rcases Bool.eq_false_or_eq_true (((((sreadS speed ([0, 44, 1] : List Int)).2.2 == 0) && ((swriteS speed ([9, 0, 0] : List Int) 30 1).2 == 0)) && ((sreadS speed ([0, 44, 1] : List Int)).1 == 300)) && (((sreadS speed ([0, 44, 1] : List Int)).2.1.Name == ([115, 112, 101, 101, 100] : List UInt8)) && (((sreadS speed ([0, 44, 1] : List Int)).2.1.Num == 30) && (((sreadS speed ([0, 44, 1] : List Int)).2.1.Den == 1) && true)))) with o | o
 · -- true
  have a9 := q.1 o
  have u := t.reval (d := 34) (c := []) (v := .bool (((((sreadS speed ([0, 44, 1] : List Int)).2.2 == 0) && ((swriteS speed ([9, 0, 0] : List Int) 30 1).2 == 0)) && ((sreadS speed ([0, 44, 1] : List Int)).1 == 300)) && (((sreadS speed ([0, 44, 1] : List Int)).2.1.Name == ([115, 112, 101, 101, 100] : List UInt8)) && (((sreadS speed ([0, 44, 1] : List Int)).2.1.Num == 30) && (((sreadS speed ([0, 44, 1] : List Int)).2.1.Den == 1) && true))))) (by kernel_rfl) (.bool true) (by rw [o])
  refine g_ u true (.slice l (swriteS speed ([9, 0, 0] : List Int) 30 1).1.length n) ?_; intro bO O
  refine sn O j (fun b => .slice (sm b) 3 3) [y8 9, y8 44, y8 1] 5 (wK O true) rfl (by kernel_rfl) (by kernel_rfl) ?_; intro y bP P Q ba
  obtain ⟨aN, R, aO, S⟩ := ba.freeze 1 rfl
  have aP : Mem w.heap.size [] w Z [.row y [y8 9, y8 44, y8 1] 5, .row h (e26G ((sreadS speed ([0, 44, 1] : List Int)).2.1)) 26] aN P := aO
  have bb : Mem w.heap.size [] w Z [.own t8 5 (sm y) 3 ([9, 44, 1] : List Int), .row h (e26G ((sreadS speed ([0, 44, 1] : List Int)).2.1)) 26] aN P := aP.rowOwn (T := t8) (xs := ([9, 44, 1] : List Int)) 0 rfl (by decide) (by show 3 ≤ lim; decide) ((RepAll.one (T := t8) (x := 9) rfl).append ((RepAll.one (T := t8) (x := 44) rfl).append (RepAll.one (T := t8) (x := 1) rfl)))
  obtain ⟨bc, z, aQ, bd⟩ := bb.freeze 0 rfl
  replace S := S.mono z
  have U : Mem w.heap.size [] w Z [.row h (e26G ((sreadS speed ([0, 44, 1] : List Int)).2.1)) 26] bc P := aQ
  refine fcl Q U (.bool (beqS (swriteS speed ([9, 0, 0] : List Int) 30 1).1 ([9, 44, 1] : List Int))) 15 #[.slice l (swriteS speed ([9, 0, 0] : List Int) 30 1).1.length n, .slice (sm y) ([9, 44, 1] : List Int).length 3] (wK Q true) rfl (by kernel_rfl) (fun _ => by kernel_rfl) (beq_fun (swriteS speed ([9, 0, 0] : List Int) 30 1).1 ([9, 44, 1] : List Int) l n (sm y) 3 _ _ S bd U.fz) ?_; intro bQ bR aR aS
  refine bt aR aS 2 [] [38] [(0, .bool (beqS (swriteS speed ([9, 0, 0] : List Int) 30 1).1 ([9, 44, 1] : List Int)))] ?_; intro bS be
  apply s
  exact r_ (ra1 be (.bool (beqS (swriteS speed ([9, 0, 0] : List Int) 30 1).1 ([9, 44, 1] : List Int))) ⟨(beqS (swriteS speed ([9, 0, 0] : List Int) 30 1).1 ([9, 44, 1] : List Int)), rfl, a9, aS.below⟩)
 · -- false
  have bf := q.2 o
  have aT := t.reval (d := 34) (c := []) (v := .bool (((((sreadS speed ([0, 44, 1] : List Int)).2.2 == 0) && ((swriteS speed ([9, 0, 0] : List Int) 30 1).2 == 0)) && ((sreadS speed ([0, 44, 1] : List Int)).1 == 300)) && (((sreadS speed ([0, 44, 1] : List Int)).2.1.Name == ([115, 112, 101, 101, 100] : List UInt8)) && (((sreadS speed ([0, 44, 1] : List Int)).2.1.Num == 30) && (((sreadS speed ([0, 44, 1] : List Int)).2.1.Den == 1) && true))))) (by kernel_rfl) (.bool false) (by rw [o])
  refine bt aT j 5 [] [35, 36, 37, 38] [(0, .bool false)] ?_; intro bT bg
  apply s
  exact r_ (ra1 bg (.bool false) ⟨false, rfl, bf, j.below⟩)

end Go.Proofs.YtdndfbamhnchfaaDoor
namespace Go.Proofs
open Go.Shelf
def Tryd.lays160_ren : Go.Shelf.Ren := ⟨fun | 160 => 60 | 232 => 92 | 231 => 91 | 227 => 93 | 234 => 95 | 233 => 94 | 236 => 97 | 235 => 96 | 228 => 112 | 271 => 115 | 151 => 114 | 197 => 113 | 120 => 131 | 152 => 130 | 260 => 129 | 137 => 140 | 119 => 141 | 224 => 142 | 225 => 143 | 217 => 145 | 266 => 146 | n => n, fun | 9 => 9 | 4 => 4 | 3 => 3 | 5 => 5 | 117 => 115 | 116 => 114 | 0 => 0 | 124 => 118 | 21 => 21 | 105 => 133 | 46 => 84 | 119 => 159 | 139 => 162 | 138 => 161 | n => n, fun | 3 => 0 | 4 => 1 | n => n⟩
theorem Tryd.lays160 : Go.Proofs.Lays.n160 Tryd.prog Tryd.lays160_ren := {
  mixed := by kernel_rfl
  f119 := Tryd.func141.trans (congrArg some (by kernel_rfl))
  f120 := Tryd.func131.trans (congrArg some (by kernel_rfl))
  f137 := Tryd.func140.trans (congrArg some (by kernel_rfl))
  f151 := Tryd.func114.trans (congrArg some (by kernel_rfl))
  f152 := Tryd.func130.trans (congrArg some (by kernel_rfl))
  f160 := Tryd.func60.trans (congrArg some (by kernel_rfl))
  f197 := Tryd.func113.trans (congrArg some (by kernel_rfl))
  f217 := Tryd.func145.trans (congrArg some (by kernel_rfl))
  f224 := Tryd.func142.trans (congrArg some (by kernel_rfl))
  f225 := Tryd.func143.trans (congrArg some (by kernel_rfl))
  f227 := Tryd.func93.trans (congrArg some (by kernel_rfl))
  f228 := Tryd.func112.trans (congrArg some (by kernel_rfl))
  f231 := Tryd.func91.trans (congrArg some (by kernel_rfl))
  f232 := Tryd.func92.trans (congrArg some (by kernel_rfl))
  f233 := Tryd.func94.trans (congrArg some (by kernel_rfl))
  f234 := Tryd.func95.trans (congrArg some (by kernel_rfl))
  f235 := Tryd.func96.trans (congrArg some (by kernel_rfl))
  f236 := Tryd.func97.trans (congrArg some (by kernel_rfl))
  f260 := Tryd.func129.trans (congrArg some (by kernel_rfl))
  f266 := Tryd.func146.trans (congrArg some (by kernel_rfl))
  f271 := Tryd.func115.trans (congrArg some (by kernel_rfl))
  t0 := Tryd.underlying0
  a0 := Tryd.isAgg0
  z0 := Tryd.sizeOf0
  v0 := Tryd.zeroValue0
  t3 := Tryd.underlying3
  a3 := Tryd.isAgg3
  z3 := Tryd.sizeOf3
  v3 := Tryd.zeroValue3
  t4 := Tryd.underlying4
  a4 := Tryd.isAgg4
  z4 := Tryd.sizeOf4
  v4 := Tryd.zeroValue4
  t5 := Tryd.underlying5
  a5 := Tryd.isAgg5
  z5 := Tryd.sizeOf5
  v5 := Tryd.zeroValue5
  t9 := Tryd.underlying9
  a9 := Tryd.isAgg9
  z9 := Tryd.sizeOf9
  v9 := Tryd.zeroValue9
  t21 := Tryd.underlying21
  a21 := Tryd.isAgg21
  z21 := Tryd.sizeOf21
  v21 := Tryd.zeroValue21
  t46 := Tryd.underlying84
  a46 := Tryd.isAgg84
  z46 := Tryd.sizeOf84
  v46 := Tryd.zeroValue84
  t105 := Tryd.underlying133
  a105 := Tryd.isAgg133
  z105 := Tryd.sizeOf133
  v105 := Tryd.zeroValue133
  t116 := Tryd.underlying114
  a116 := Tryd.isAgg114
  z116 := Tryd.sizeOf114
  t117 := Tryd.underlying115
  a117 := Tryd.isAgg115
  z117 := Tryd.sizeOf115
  v117 := Tryd.zeroValue115
  t119 := Tryd.underlying159
  a119 := Tryd.isAgg159
  z119 := Tryd.sizeOf159
  t124 := Tryd.underlying118
  a124 := Tryd.isAgg118
  z124 := Tryd.sizeOf118
  v124 := Tryd.zeroValue118
  t138 := Tryd.underlying161
  a138 := Tryd.isAgg161
  z138 := Tryd.sizeOf161
  v138 := Tryd.zeroValue161
  t139 := Tryd.underlying162
  a139 := Tryd.isAgg162
  z139 := Tryd.sizeOf162
  v139 := Tryd.zeroValue162
  g3 := by kernel_rfl
  g4 := by kernel_rfl }
end Go.Proofs
set_option linter.unusedVariables false
set_option linter.unusedSimpArgs false
set_option linter.defProp false
set_option maxRecDepth 100000
set_option maxHeartbeats 0
namespace Go.Proofs.YtdndfbamhnchfaaDoor
open Go.Sy Go.RowKit
abbrev e23P (X : Signal) : List Value := [str X.Name, i6 X.Start, i6 X.Size, .bool X.Back, .bool X.Signed, i6 X.Mul, i6 X.Div, i6 X.Add, i6 X.Key]
theorem sindex_walk (u0 : List Int) (u1 : Int) (ao1 : Option Addr) (cap2 : Nat) (Z : Fz) (w : World) (hs3 : SlR t6 Z ao1 cap2 u0) (hZ : Z.on w) {K : Int → Prop} (hp : sindex_vc u0 u1 K) : Calls Tryd.prog 102 #[.slice ao1 u0.length cap2, i6 u1] w fun e w' => ∃ r : Int, e = .returned (i6 r) ∧ K r ∧ Below w.heap.size w w' := by
 refine enter0 Tryd.func102 rfl rfl (by kernel_rfl) ?_; intro a0 m; have g := Mem.start w Z hZ
 have G := hp (hs3.small)
 refine sqB m g [] [] [] ?_; intro a6 n
 refine s_ (sqB n g [] [] [(7, i6 (u0.length : Int)), (8, i6 0)] ?_); intro o p
 apply b_
 have q : Fr 19 [] [⟨0, [], .slice ao1 u0.length cap2⟩, ⟨1, [], i6 u1⟩, ⟨7, [], i6 (u0.length : Int)⟩, ⟨8, [], i6 0⟩] o := p.reg
 obtain ⟨H, I, J, L⟩ := G
 refine lp (ι := Int) (fun s => [⟨0, [], .slice ao1 u0.length cap2⟩, ⟨1, [], i6 u1⟩, ⟨7, [], i6 (u0.length : Int)⟩, ⟨8, [], i6 s⟩]) (fun s => []) (fun s => Z) (fun s => H s) (fun s => I s) 0 J (by exact q.region (by kernel_rfl) (by kernel_rfl)) (by exact g) ?_
 rintro a M N O v x
 have h := L a M
 refine sqB v x [] [] [(9, .bool (decide (a < (u0.length : Int))))] ?_; intro ae c
 apply s_
 refine cd c (t := decide (a < (u0.length : Int))) (by kernel_rfl) (fun j => ?_) (fun j => ?_)
 · -- yes
  have P := h.1 j
  refine k_ (s_ (b_ (sqB c x [] [] [(5, i6 a)] ?_))); intro af z
  refine sqH ?_; intro Q A
  refine bt z x 3 [] [] [(11, i6 u1), (12, .slice ao1 u0.length cap2), (13, i6 a)] ?_; intro ag B
  obtain ⟨R, C⟩ := P
  refine ix_ B hs3 a R .i64 3 8 ?_; intro ah ai S d aj U V W D
  have i := C d U
  obtain rfl : S = ([i6 d] : List Value) := W
  refine z1 D x 15 V 0 (i6 d) rfl ?_; intro ak E
  refine s1 E 16 (.bool (u1 == d)) ?_; intro al f
  apply A
  refine cd f (t := u1 == d) (by kernel_rfl) (fun l => ?_) (fun l => ?_)
  · -- yes
   have X := i.1 l
   refine sqB f x [] [] [(4, i6 a)] ?_; intro am Y
   exact r_ (i_ (h_ (h_ (i_ (h_ (ra1 Y (i6 a) ⟨a, rfl, X, x.below⟩))))))
  · -- no
   have F := i.2 l
   refine l_ (j_ (t_ (rgB f x [] [] [(8, i6 (w64 (a + 1)))] ?_))); intro an aa
   exact d_ ⟨w64 (a + 1), F.1, F.2, (aa.region (by kernel_rfl) (by kernel_rfl)).anyβ _ (by kernel_rfl), x.kp⟩
 · -- no
  have ab := h.2 j
  refine x_ (y_ (y_ (z_ (t_ (sqB c x [] [] [(4, i6 (-1))] ?_))))); intro ao ac
  exact r_ (ra1 ac (i6 (-1)) ⟨-1, rfl, ab, x.below⟩)

theorem scontains_walk (u0 : List Int) (u1 : Int) (ao1 : Option Addr) (cap2 : Nat) (Z : Fz) (w : World) (hs3 : SlR t6 Z ao1 cap2 u0) (hZ : Z.on w) {K : Bool → Prop} (hp : scontains_vc u0 u1 K) : Calls Tryd.prog 65 #[.slice ao1 u0.length cap2, i6 u1] w fun e w' => ∃ r : Bool, e = .returned (.bool r) ∧ K r ∧ Below w.heap.size w w' := by
 refine enter0 Tryd.func65 rfl rfl (by kernel_rfl) ?_; intro n c; have a := Mem.start w Z hZ
 have j := hp (hs3.small)
 refine sqB c a [] [] [] ?_; intro p d
 refine sqH ?_; intro k f
 refine bt d a 2 [] [] [(5, .slice ao1 u0.length cap2), (6, i6 u1)] ?_; intro q g
 refine ck g 102 #[.slice ao1 u0.length cap2, i6 u1] ?_
 refine (sindex_walk u0 u1 ao1 cap2 _ _ hs3 a.fz j).mono ?_; rintro _ s ⟨b, rfl, l, hb⟩; refine ⟨_, rfl, ?_⟩; intro t h; have i := a.call hb
 refine bt h i 2 [] [] [(4, .bool (decide (b ≥ 0)))] ?_; intro u m
 apply f
 exact r_ (ra1 m (.bool (decide (b ≥ 0))) ⟨decide (b ≥ 0), rfl, l, i.below⟩)

theorem iidxf_walk (u0 : List Int) (u1 : Int → Bool) (ao1 : Option Addr) (cap2 : Nat) (fid4 : Nat) (caps5 : Array Value) (Z : Fz) (w : World) (hs3 : SlR t6 Z ao1 cap2 u0) (hf6 : ∀ (Z1 : Fz) (w1 : World), Z.le Z1 → Z1.on w1 → ∀ (x0 : Int), Calls Tryd.prog fid4 (#[i6 x0] ++ caps5) w1 fun e w2 => e = .returned (.bool (u1 x0)) ∧ Below w1.heap.size w1 w2) (hg7 : ∀ x w, Sem.run Tryd.prog (callFunc fid4 x) w = .ok (.enter fid4 x) w) (hZ : Z.on w) {K : Int → Prop} (hp : iidxf_vc u0 u1 K) : Calls Tryd.prog 101 #[.slice ao1 u0.length cap2, .func (.func fid4) #[] caps5] w fun e w' => ∃ r : Int, e = .returned (i6 r) ∧ K r ∧ Below w.heap.size w w' := by
 refine enter0 Tryd.func101 rfl rfl (by kernel_rfl) ?_; intro a0 n; have g := Mem.start w Z hZ; have I := Fz.le.refl Z
 have J := hp (hs3.small)
 refine sqB n g [] [] [] ?_; intro ah o
 refine s_ (sqB o g [] [] [(7, i6 (u0.length : Int)), (8, i6 0)] ?_); intro p q
 apply b_
 have u : Fr 19 [] [⟨0, [], .slice ao1 u0.length cap2⟩, ⟨1, [], .func (.func fid4) #[] caps5⟩, ⟨7, [], i6 (u0.length : Int)⟩, ⟨8, [], i6 0⟩] p := q.reg
 obtain ⟨L, M, N, O⟩ := J
 refine lp (ι := Int) (fun s => [⟨0, [], .slice ao1 u0.length cap2⟩, ⟨1, [], .func (.func fid4) #[] caps5⟩, ⟨7, [], i6 (u0.length : Int)⟩, ⟨8, [], i6 s⟩]) (fun s => []) (fun s => Z) (fun s => L s) (fun s => M s) 0 N (by exact u.region (by kernel_rfl) (by kernel_rfl)) (by exact g) ?_
 rintro a P Q R y z
 have h := O a P
 refine sqB y z [] [] [(9, .bool (decide (a < (u0.length : Int))))] ?_; intro ai d
 apply s_
 refine cd d (t := decide (a < (u0.length : Int))) (by kernel_rfl) (fun l => ?_) (fun l => ?_)
 · -- yes
  have S := h.1 l
  refine k_ (s_ (b_ (sqB d z [] [] [(5, i6 a)] ?_))); intro aj B
  refine sqH ?_; intro U C
  refine bt B z 3 [] [] [(11, .func (.func fid4) #[] caps5), (12, .slice ao1 u0.length cap2), (13, i6 a)] ?_; intro ak D
  obtain ⟨V, E⟩ := S
  refine ix_ D hs3 a V .i64 3 8 ?_; intro al am W c an X Y aa F
  have i := E c X
  obtain rfl : W = ([i6 c] : List Value) := aa
  refine z1 F z 15 Y 0 (i6 c) rfl ?_; intro ao G
  have ab := hf6 _ _ I z.fz c
  refine fcl G z (.bool (u1 c)) fid4 (#[i6 c] ++ caps5) (nog rfl _) rfl (by kernel_rfl) ?h1 ?h2 ?_
  case h1 => exact fv_run rfl (by kernel_rfl) (by kernel_rfl) hg7
  case h2 => exact ab
  intro ap aq f j
  apply C
  refine cd f (t := (u1 c)) (by kernel_rfl) (fun m => ?_) (fun m => ?_)
  · -- yes
   have ac := i.1 m
   refine sqB f j [] [] [(4, i6 a)] ?_; intro ar ad
   exact r_ (i_ (h_ (h_ (i_ (h_ (ra1 ad (i6 a) ⟨a, rfl, ac, j.below⟩))))))
  · -- no
   have H := i.2 m
   refine l_ (j_ (t_ (rgB f j [] [] [(8, i6 (w64 (a + 1)))] ?_))); intro au ae
   exact d_ ⟨w64 (a + 1), H.1, H.2, (ae.region (by kernel_rfl) (by kernel_rfl)).anyβ _ (by kernel_rfl), j.kp⟩
 · -- no
  have af := h.2 l
  refine x_ (y_ (y_ (z_ (t_ (sqB d z [] [] [(4, i6 (-1))] ?_))))); intro av ag
  exact r_ (ra1 ag (i6 (-1)) ⟨-1, rfl, af, z.below⟩)

theorem icontf_walk (u0 : List Int) (u1 : Int → Bool) (ao1 : Option Addr) (cap2 : Nat) (fid4 : Nat) (caps5 : Array Value) (Z : Fz) (w : World) (hs3 : SlR t6 Z ao1 cap2 u0) (hf6 : ∀ (Z1 : Fz) (w1 : World), Z.le Z1 → Z1.on w1 → ∀ (x0 : Int), Calls Tryd.prog fid4 (#[i6 x0] ++ caps5) w1 fun e w2 => e = .returned (.bool (u1 x0)) ∧ Below w1.heap.size w1 w2) (hg7 : ∀ x w, Sem.run Tryd.prog (callFunc fid4 x) w = .ok (.enter fid4 x) w) (hZ : Z.on w) {K : Bool → Prop} (hp : icontf_vc u0 u1 K) : Calls Tryd.prog 63 #[.slice ao1 u0.length cap2, .func (.func fid4) #[] caps5] w fun e w' => ∃ r : Bool, e = .returned (.bool r) ∧ K r ∧ Below w.heap.size w w' := by
 refine enter0 Tryd.func63 rfl rfl (by kernel_rfl) ?_; intro o c; have a := Mem.start w Z hZ; have j := Fz.le.refl Z
 have k := hp (hs3.small)
 refine sqB c a [] [] [] ?_; intro p d
 refine sqH ?_; intro l f
 refine bt d a 2 [] [] [(5, .slice ao1 u0.length cap2), (6, .func (.func fid4) #[] caps5)] ?_; intro q g
 refine ck g 101 #[.slice ao1 u0.length cap2, .func (.func fid4) #[] caps5] ?_
 refine (iidxf_walk u0 u1 ao1 cap2 fid4 caps5 _ _ hs3 (fun Z1 w1 h1 h2 => hf6 Z1 w1 (j.trans h1) h2) hg7 a.fz k).mono ?_; rintro _ s ⟨b, rfl, m, hb⟩; refine ⟨_, rfl, ?_⟩; intro t h; have i := a.call hb
 refine bt h i 2 [] [] [(4, .bool (decide (b ≥ 0)))] ?_; intro u n
 apply f
 exact r_ (ra1 n (.bool (decide (b ≥ 0))) ⟨decide (b ≥ 0), rfl, m, i.below⟩)

theorem rplaces_walk (u0 : Signal)  (Z : Fz) (w : World)  (hZ : Z.on w) {K : (List Int) → Prop} (hp : rplaces_vc u0 K) : Calls Tryd.prog 25 #[.agg #[str u0.Name, i6 u0.Start, i6 u0.Size, .bool u0.Back, .bool u0.Signed, i6 u0.Mul, i6 u0.Div, i6 u0.Add, i6 u0.Key]] w fun e w' => ∃ (r : (List Int)) (ao1001 : Option Addr) (cap1002 : Nat) (Z' : Fz), e = .returned (.slice ao1001 r.length cap1002) ∧ K r ∧ Mem w.heap.size [] w Z [.own t6 3 ao1001 cap1002 r] Z' w' := by
 refine enter0 Tryd.func25 rfl rfl (by kernel_rfl) ?_; intro a0 C; have D := Mem.start w Z hZ
 refine sqH ?_; intro av E
 refine nw C D pb (e23P u0) 23 ?_; intro f a3 bc F x
 refine s1 F 2 (.slice none 0 0) ?_; intro a7 G
 apply E
 refine sqH ?_; intro aw H
 refine bt G x 2 [0] [] [(9, i6 u0.Size)] ?_; intro bd I
 obtain ⟨be, n⟩ := hp
 refine mks I x (T := t6) u0.Size u0.Size (k := .i64) (k' := .i64) (e := 3) (bytes := 8) (zs := [i6 0]) (z := 0) (by simp only [lim]; omega) (nog rfl _) rfl (by kernel_rfl) rfl (by kernel_rfl) (by kernel_rfl) (by kernel_rfl) (by kernel_rfl) rfl ?_; intro b bf ax J L
 have h : Mem w.heap.size [] w Z [.own t6 3 (sm b) u0.Size.toNat (List.replicate u0.Size.toNat (0 : Int)), .row f (e23P u0) 23] Z ax := L
 refine s1 J 3 (.slice (sm b) (List.replicate u0.Size.toNat (0 : Int)).length u0.Size.toNat) ?_; intro bg M
 apply H
 refine s_ (sqB M h [1] [] [(13, .bool (!u0.Back))] ?_); intro bh j
 refine cd j (t := !u0.Back) (by kernel_rfl) (fun y => ?_) (fun y => ?_)
 · -- yes
  have ay := n.1 y
  refine s_ (sqB j h [] [] [(15, i6 ((List.replicate u0.Size.toNat (0 : Int)).length : Int)), (16, i6 0)] ?_); intro N O
  apply b_
  have P : Fr 61 [] [⟨1, [], pt f 0⟩, ⟨3, [], .slice (sm b) (List.replicate u0.Size.toNat (0 : Int)).length u0.Size.toNat⟩, ⟨15, [], i6 ((List.replicate u0.Size.toNat (0 : Int)).length : Int)⟩, ⟨16, [], i6 0⟩] N := O.reg
  obtain ⟨az, aA, aB, aC⟩ := ay
  refine lp (ι := Int × (List Int)) (fun s => [⟨1, [], pt f 0⟩, ⟨3, [], .slice (sm b) s.2.length u0.Size.toNat⟩, ⟨15, [], i6 ((List.replicate u0.Size.toNat (0 : Int)).length : Int)⟩, ⟨16, [], i6 s.1⟩]) (fun s => [.own t6 3 (sm b) u0.Size.toNat s.2, .row f (e23P u0) 23]) (fun s => Z) (fun s => az s.1 s.2) (fun s => aA s.1 s.2) ⟨0, (List.replicate u0.Size.toNat (0 : Int))⟩ aB (by exact P.region (by kernel_rfl) (by kernel_rfl)) (by exact h) ?_
  rintro ⟨c, d⟩ aD aE aF R S
  have o := aC c d aD
  refine sqB R S [] [] [(17, .bool (decide (c < ((List.replicate u0.Size.toNat (0 : Int)).length : Int))))] ?_; intro bi l
  apply s_
  refine cd l (t := decide (c < ((List.replicate u0.Size.toNat (0 : Int)).length : Int))) (by kernel_rfl) (fun A => ?_) (fun A => ?_)
  · -- yes
   have aG := o.1 A
   refine k_ (s_ (b_ (sqB l S [] [] [(4, i6 c)] ?_))); intro bj V
   refine rgH ?_; intro aH W
   refine bt V S 6 [1] [] [(19, .slice (sm b) d.length u0.Size.toNat), (20, i6 c), (24, i6 (w64 (u0.Start + c)))] ?_; intro bk X
   obtain ⟨aI, Y⟩ := aG
   refine ixo X S 0 (T := t6) (xs := d) c aI (k := .i64) (e := 3) (bytes := 8) (nog rfl _) rfl (by kernel_rfl) rfl (by kernel_rfl) (by kernel_rfl) rfl (by kernel_rfl) ?_; intro aJ aK aL p
   obtain rfl : b = aJ := by simpa using aL
   refine so p S 0 (T := t6) (xs := d) c.toNat (w64 (u0.Start + c)) (u := i6 (w64 (u0.Start + c))) (nog rfl _) rfl rfl (by kernel_rfl) rfl (by kernel_rfl) rfl (by kernel_rfl) (by first | omega | (simp only [List.length_set] at *; omega)) rfl ?_; intro aM aa
   have ab : Fr 61 [] [⟨1, [], pt f 0⟩, ⟨3, [], .slice (sm b) (d.set c.toNat (w64 (u0.Start + c))).length u0.Size.toNat⟩, ⟨4, [], i6 c⟩, ⟨15, [], i6 ((List.replicate u0.Size.toNat (0 : Int)).length : Int)⟩, ⟨16, [], i6 c⟩, ⟨17, [], .bool (decide (c < ((List.replicate u0.Size.toNat (0 : Int)).length : Int)))⟩, ⟨19, [], .slice (sm b) (d.set c.toNat (w64 (u0.Start + c))).length u0.Size.toNat⟩, ⟨20, [], i6 c⟩, ⟨24, [], i6 (w64 (u0.Start + c))⟩, ⟨25, [], .pointer (some ⟨b, c.toNat * 1, none⟩)⟩] aK := by (try simp only [List.length_set] at p); (try simp only [List.length_set]); exact p.region (by kernel_rfl) (by kernel_rfl)
   have ac : Mem w.heap.size [] w Z [.own t6 3 (sm b) u0.Size.toNat (d.set c.toNat (w64 (u0.Start + c))), .row f (e23P u0) 23] Z aM := aa
   apply W
   refine j_ (t_ (rgB ab ac [] [] [(16, i6 (w64 (c + 1)))] ?_)); intro bl aN
   exact d_ ⟨⟨w64 (c + 1), d.set c.toNat (w64 (u0.Start + c))⟩, Y.1, Y.2, (aN.region (by kernel_rfl) (by kernel_rfl)).anyβ _ (by kernel_rfl), ac.kp⟩
  · -- no
   have aO := o.2 A
   refine x_ (y_ (y_ (z_ (t_ (sqB l S [] [] [(2, .slice (sm b) d.length u0.Size.toNat)] ?_))))); intro bm aP
   exact r_ (h_ (ra1 aP (.slice (sm b) d.length u0.Size.toNat) ⟨d, (sm b), u0.Size.toNat, Z, rfl, aO, S.kp⟩))
 · -- no
  have aQ := n.2 y
  refine k_ (sqB j h [1, 1] [] [(5, i6 (w64 ((w64 ((w64 ((w64 (u0.Start.tdiv 8)) * 8)) + 7)) - (u0.Start.tmod 8))))] ?_); intro bn ad
  refine s_ (sqB ad h [] [] [(38, i6 ((List.replicate u0.Size.toNat (0 : Int)).length : Int)), (39, i6 0)] ?_); intro ae af
  apply b_
  have ag : Fr 61 [] [⟨1, [], pt f 0⟩, ⟨3, [], .slice (sm b) (List.replicate u0.Size.toNat (0 : Int)).length u0.Size.toNat⟩, ⟨5, [], i6 (w64 ((w64 ((w64 ((w64 (u0.Start.tdiv 8)) * 8)) + 7)) - (u0.Start.tmod 8)))⟩, ⟨38, [], i6 ((List.replicate u0.Size.toNat (0 : Int)).length : Int)⟩, ⟨39, [], i6 0⟩] ae := af.reg
  obtain ⟨aR, aS, aT, aU⟩ := aQ
  refine lp (ι := Int × (List Int)) (fun s => [⟨1, [], pt f 0⟩, ⟨3, [], .slice (sm b) s.2.length u0.Size.toNat⟩, ⟨5, [], i6 (w64 ((w64 ((w64 ((w64 (u0.Start.tdiv 8)) * 8)) + 7)) - (u0.Start.tmod 8)))⟩, ⟨38, [], i6 ((List.replicate u0.Size.toNat (0 : Int)).length : Int)⟩, ⟨39, [], i6 s.1⟩]) (fun s => [.own t6 3 (sm b) u0.Size.toNat s.2, .row f (e23P u0) 23]) (fun s => Z) (fun s => aR s.1 s.2) (fun s => aS s.1 s.2) ⟨0, (List.replicate u0.Size.toNat (0 : Int))⟩ aT (by exact ag.region (by kernel_rfl) (by kernel_rfl)) (by exact h) ?_
  rintro ⟨a, d⟩ aV aW aX ai aj
  have q := aU a d aV
  refine sqB ai aj [] [] [(40, .bool (decide (a < ((List.replicate u0.Size.toNat (0 : Int)).length : Int))))] ?_; intro bo m
  apply s_
  refine cd m (t := decide (a < ((List.replicate u0.Size.toNat (0 : Int)).length : Int))) (by kernel_rfl) (fun B => ?_) (fun B => ?_)
  · -- yes
   have aY := q.1 B
   refine k_ (s_ (b_ (sqB m aj [] [] [(6, i6 a)] ?_))); intro bp al
   refine sqB al aj [1] [] [(7, i6 (w64 ((w64 ((w64 ((w64 ((w64 ((w64 ((w64 (u0.Start.tdiv 8)) * 8)) + 7)) - (u0.Start.tmod 8))) + u0.Size)) - 1)) - a)))] ?_; intro bq am
   refine rgH ?_; intro aZ an
   refine bt am aj 9 [] [] [(49, .slice (sm b) d.length u0.Size.toNat), (50, i6 a), (57, i6 (w64 ((w64 ((w64 ((w64 ((w64 ((w64 ((w64 ((w64 ((w64 ((w64 ((w64 (u0.Start.tdiv 8)) * 8)) + 7)) - (u0.Start.tmod 8))) + u0.Size)) - 1)) - a)).tdiv 8)) * 8)) + 7)) - ((w64 ((w64 ((w64 ((w64 ((w64 ((w64 ((w64 (u0.Start.tdiv 8)) * 8)) + 7)) - (u0.Start.tmod 8))) + u0.Size)) - 1)) - a)).tmod 8))))] ?_; intro br ao
   obtain ⟨a1, ap⟩ := aY
   refine ixo ao aj 0 (T := t6) (xs := d) a a1 (k := .i64) (e := 3) (bytes := 8) (nog rfl _) rfl (by kernel_rfl) rfl (by kernel_rfl) (by kernel_rfl) rfl (by kernel_rfl) ?_; intro a2 a4 a5 v
   obtain rfl : b = a2 := by simpa using a5
   refine so v aj 0 (T := t6) (xs := d) a.toNat (w64 ((w64 ((w64 ((w64 ((w64 ((w64 ((w64 ((w64 ((w64 ((w64 ((w64 (u0.Start.tdiv 8)) * 8)) + 7)) - (u0.Start.tmod 8))) + u0.Size)) - 1)) - a)).tdiv 8)) * 8)) + 7)) - ((w64 ((w64 ((w64 ((w64 ((w64 ((w64 ((w64 (u0.Start.tdiv 8)) * 8)) + 7)) - (u0.Start.tmod 8))) + u0.Size)) - 1)) - a)).tmod 8))) (u := i6 (w64 ((w64 ((w64 ((w64 ((w64 ((w64 ((w64 ((w64 ((w64 ((w64 ((w64 (u0.Start.tdiv 8)) * 8)) + 7)) - (u0.Start.tmod 8))) + u0.Size)) - 1)) - a)).tdiv 8)) * 8)) + 7)) - ((w64 ((w64 ((w64 ((w64 ((w64 ((w64 ((w64 (u0.Start.tdiv 8)) * 8)) + 7)) - (u0.Start.tmod 8))) + u0.Size)) - 1)) - a)).tmod 8)))) (nog rfl _) rfl rfl (by kernel_rfl) rfl (by kernel_rfl) rfl (by kernel_rfl) (by first | omega | (simp only [List.length_set] at *; omega)) rfl ?_; intro a6 aq
   have ar : Fr 61 [] [⟨1, [], pt f 0⟩, ⟨3, [], .slice (sm b) (d.set a.toNat (w64 ((w64 ((w64 ((w64 ((w64 ((w64 ((w64 ((w64 ((w64 ((w64 ((w64 (u0.Start.tdiv 8)) * 8)) + 7)) - (u0.Start.tmod 8))) + u0.Size)) - 1)) - a)).tdiv 8)) * 8)) + 7)) - ((w64 ((w64 ((w64 ((w64 ((w64 ((w64 ((w64 (u0.Start.tdiv 8)) * 8)) + 7)) - (u0.Start.tmod 8))) + u0.Size)) - 1)) - a)).tmod 8)))).length u0.Size.toNat⟩, ⟨5, [], i6 (w64 ((w64 ((w64 ((w64 (u0.Start.tdiv 8)) * 8)) + 7)) - (u0.Start.tmod 8)))⟩, ⟨6, [], i6 a⟩, ⟨7, [], i6 (w64 ((w64 ((w64 ((w64 ((w64 ((w64 ((w64 (u0.Start.tdiv 8)) * 8)) + 7)) - (u0.Start.tmod 8))) + u0.Size)) - 1)) - a))⟩, ⟨38, [], i6 ((List.replicate u0.Size.toNat (0 : Int)).length : Int)⟩, ⟨39, [], i6 a⟩, ⟨40, [], .bool (decide (a < ((List.replicate u0.Size.toNat (0 : Int)).length : Int)))⟩, ⟨49, [], .slice (sm b) (d.set a.toNat (w64 ((w64 ((w64 ((w64 ((w64 ((w64 ((w64 ((w64 ((w64 ((w64 ((w64 (u0.Start.tdiv 8)) * 8)) + 7)) - (u0.Start.tmod 8))) + u0.Size)) - 1)) - a)).tdiv 8)) * 8)) + 7)) - ((w64 ((w64 ((w64 ((w64 ((w64 ((w64 ((w64 (u0.Start.tdiv 8)) * 8)) + 7)) - (u0.Start.tmod 8))) + u0.Size)) - 1)) - a)).tmod 8)))).length u0.Size.toNat⟩, ⟨50, [], i6 a⟩, ⟨57, [], i6 (w64 ((w64 ((w64 ((w64 ((w64 ((w64 ((w64 ((w64 ((w64 ((w64 ((w64 (u0.Start.tdiv 8)) * 8)) + 7)) - (u0.Start.tmod 8))) + u0.Size)) - 1)) - a)).tdiv 8)) * 8)) + 7)) - ((w64 ((w64 ((w64 ((w64 ((w64 ((w64 ((w64 (u0.Start.tdiv 8)) * 8)) + 7)) - (u0.Start.tmod 8))) + u0.Size)) - 1)) - a)).tmod 8)))⟩, ⟨58, [], .pointer (some ⟨b, a.toNat * 1, none⟩)⟩] a4 := by (try simp only [List.length_set] at v); (try simp only [List.length_set]); exact v.region (by kernel_rfl) (by kernel_rfl)
   have au : Mem w.heap.size [] w Z [.own t6 3 (sm b) u0.Size.toNat (d.set a.toNat (w64 ((w64 ((w64 ((w64 ((w64 ((w64 ((w64 ((w64 ((w64 ((w64 ((w64 (u0.Start.tdiv 8)) * 8)) + 7)) - (u0.Start.tmod 8))) + u0.Size)) - 1)) - a)).tdiv 8)) * 8)) + 7)) - ((w64 ((w64 ((w64 ((w64 ((w64 ((w64 ((w64 (u0.Start.tdiv 8)) * 8)) + 7)) - (u0.Start.tmod 8))) + u0.Size)) - 1)) - a)).tmod 8)))), .row f (e23P u0) 23] Z a6 := aq
   apply an
   refine j_ (t_ (rgB ar au [] [] [(39, i6 (w64 (a + 1)))] ?_)); intro bs a8
   exact d_ ⟨⟨w64 (a + 1), d.set a.toNat (w64 ((w64 ((w64 ((w64 ((w64 ((w64 ((w64 ((w64 ((w64 ((w64 ((w64 (u0.Start.tdiv 8)) * 8)) + 7)) - (u0.Start.tmod 8))) + u0.Size)) - 1)) - a)).tdiv 8)) * 8)) + 7)) - ((w64 ((w64 ((w64 ((w64 ((w64 ((w64 ((w64 (u0.Start.tdiv 8)) * 8)) + 7)) - (u0.Start.tmod 8))) + u0.Size)) - 1)) - a)).tmod 8)))⟩, ap.1, ap.2, (a8.region (by kernel_rfl) (by kernel_rfl)).anyβ _ (by kernel_rfl), au.kp⟩
  · -- no
   have a9 := q.2 B
   refine x_ (y_ (y_ (z_ (t_ (sqB m aj [] [] [(2, .slice (sm b) d.length u0.Size.toNat)] ?_))))); intro bu ba
   exact r_ (ra1 ba (.slice (sm b) d.length u0.Size.toNat) ⟨d, (sm b), u0.Size.toNat, Z, rfl, a9, aj.kp⟩)

theorem rin_walk (u0 : Int) (u1 : Int) (u2 : Int)  (Z : Fz) (w : World)  (hZ : Z.on w) {K : Bool → Prop} (hp : rin_vc u0 u1 u2 K) : Calls Tryd.prog 37 #[i6 u0, i6 u1, i6 u2] w fun e w' => ∃ r : Bool, e = .returned (.bool r) ∧ K r ∧ Below w.heap.size w w' := by
 refine enter0 Tryd.func37 rfl rfl (by kernel_rfl) ?_; intro f b; have a := Mem.start w Z hZ
 refine sqB b a [] [] [] ?_; intro h c
 refine sqB c a [] [] [(6, .bool ((decide (u0 ≥ u1)) && (decide (u0 ≤ u2))))] ?_; intro i d
 exact r_ (ra1 d (.bool ((decide (u0 ≥ u1)) && (decide (u0 ≤ u2)))) ⟨(decide (u0 ≥ u1)) && (decide (u0 ≤ u2)), rfl, hp, a.below⟩)
def rin_fun (u0 : Int) (u1 : Int) (u2 : Int)  (Z : Fz) (w : World)  (hZ : Z.on w) := f_ (rin_walk u0 u1 u2  Z w  hZ (rin_ok u0 u1 u2))
theorem trim_fun (u0 : List UInt8) (u1 : List UInt8) (hpre : u0.length ≤ 9223372036854775807 ∧ u1.length < 4294967281 ∧ u1.all (fun b => decide (b.toNat < 128)) = true) (Z : Fz) (w : World) (hZ : Z.on w) : Calls Tryd.prog 60 #[str u0, str u1] w fun e w' => e = .returned (str (trimS u0 u1)) ∧ Below w.heap.size w w' := by
  have h := Any.strings_Trim_laid Tryd.lays160 (by kernel_rfl) ⟨⟨u0⟩⟩ ⟨⟨u1⟩⟩ w (by show u0.length ≤ _; exact hpre.1) (by show u1.length < _; exact hpre.2.1) (ascii_of_all hpre.2.2)
  exact h

end Go.Proofs.YtdndfbamhnchfaaDoor
