/- Texts put together (pure ones, or walks made by program). -/
import Derived.Test.YtdndfbamhnchfaaDoorKs0
import Derived.Test.YtdndfbamhnchfaaDoorKs1
import Derived.Test.YtdndfbamhnchfaaDoorRows
set_option linter.unusedVariables false
set_option linter.unusedSimpArgs false
set_option maxRecDepth 100000
set_option maxHeartbeats 0
namespace Go.Proofs.YtdndfbamhnchfaaDoor
open Go.Sy Go.RowKit
abbrev e23Z (X : Signal) : List Value := [str X.Name, i6 X.Start, i6 X.Size, .bool X.Back, .bool X.Signed, i6 X.Mul, i6 X.Div, i6 X.Add, i6 X.Key]
theorem mixed : Tryd.prog.follows .mixedOrders = true := by kernel_rfl
theorem rdSignal : Rd Tryd.prog 23 tySignal okSignal := by
  refine ⟨fun enc w fuel cs x h hw => ?_⟩
  have hu : Tryd.prog.underlying 23 = some (.struct _) := Tryd.underlying23
  have hl := rd_len hu h (m := 9) (by kernel_rfl)
  obtain ⟨j, n, o⟩ := rd_field hu h hw 0 rfl (rd_str (P := Tryd.prog) (t := 9) (by kernel_rfl)) (m := 1) (by kernel_rfl) (off := 0) rfl
  have p : (cs.drop 0).take 1 = [str j] := n
  obtain ⟨i, q, r⟩ := rd_field hu h hw 1 rfl (rd_int (P := Tryd.prog) (t := 3) (k := .i64) (by kernel_rfl)) (m := 1) (by kernel_rfl) (off := 1) rfl
  have s : (cs.drop 1).take 1 = [i6 i] := q
  obtain ⟨g, u, v⟩ := rd_field hu h hw 2 rfl (rd_int (P := Tryd.prog) (t := 3) (k := .i64) (by kernel_rfl)) (m := 1) (by kernel_rfl) (off := 2) rfl
  have y : (cs.drop 2).take 1 = [i6 g] := u
  obtain ⟨f, A, B⟩ := rd_field hu h hw 3 rfl (rd_bool (P := Tryd.prog) (t := 4) (by kernel_rfl)) (m := 1) (by kernel_rfl) (off := 3) rfl
  have C : (cs.drop 3).take 1 = [.bool f] := A
  obtain ⟨e, D, E⟩ := rd_field hu h hw 4 rfl (rd_bool (P := Tryd.prog) (t := 4) (by kernel_rfl)) (m := 1) (by kernel_rfl) (off := 4) rfl
  have F : (cs.drop 4).take 1 = [.bool e] := D
  obtain ⟨d, G, H⟩ := rd_field hu h hw 5 rfl (rd_int (P := Tryd.prog) (t := 3) (k := .i64) (by kernel_rfl)) (m := 1) (by kernel_rfl) (off := 5) rfl
  have I : (cs.drop 5).take 1 = [i6 d] := G
  obtain ⟨c, J, K⟩ := rd_field hu h hw 6 rfl (rd_int (P := Tryd.prog) (t := 3) (k := .i64) (by kernel_rfl)) (m := 1) (by kernel_rfl) (off := 6) rfl
  have L : (cs.drop 6).take 1 = [i6 c] := J
  obtain ⟨b, M, N⟩ := rd_field hu h hw 7 rfl (rd_int (P := Tryd.prog) (t := 3) (k := .i64) (by kernel_rfl)) (m := 1) (by kernel_rfl) (off := 7) rfl
  have O : (cs.drop 7).take 1 = [i6 b] := M
  obtain ⟨a, Q, R⟩ := rd_field hu h hw 8 rfl (rd_int (P := Tryd.prog) (t := 3) (k := .i64) (by kernel_rfl)) (m := 1) (by kernel_rfl) (off := 8) rfl
  have S : (cs.drop 8).take 1 = [i6 a] := Q
  have z : cs.drop 9 = [] := List.drop_eq_nil_of_le (by omega)
  have T : cs.drop 8 = [i6 a] := by rw [show cs.drop 8 = (cs.drop 8).take 1 ++ cs.drop 9 from cut_at cs 8 1, S, z]; rfl
  have U : cs.drop 7 = [i6 b, i6 a] := by rw [show cs.drop 7 = (cs.drop 7).take 1 ++ cs.drop 8 from cut_at cs 7 1, O, T]; rfl
  have V : cs.drop 6 = [i6 c, i6 b, i6 a] := by rw [show cs.drop 6 = (cs.drop 6).take 1 ++ cs.drop 7 from cut_at cs 6 1, L, U]; rfl
  have W : cs.drop 5 = [i6 d, i6 c, i6 b, i6 a] := by rw [show cs.drop 5 = (cs.drop 5).take 1 ++ cs.drop 6 from cut_at cs 5 1, I, V]; rfl
  have X : cs.drop 4 = [.bool e, i6 d, i6 c, i6 b, i6 a] := by rw [show cs.drop 4 = (cs.drop 4).take 1 ++ cs.drop 5 from cut_at cs 4 1, F, W]; rfl
  have Y : cs.drop 3 = [.bool f, .bool e, i6 d, i6 c, i6 b, i6 a] := by rw [show cs.drop 3 = (cs.drop 3).take 1 ++ cs.drop 4 from cut_at cs 3 1, C, X]; rfl
  have Z : cs.drop 2 = [i6 g, .bool f, .bool e, i6 d, i6 c, i6 b, i6 a] := by rw [show cs.drop 2 = (cs.drop 2).take 1 ++ cs.drop 3 from cut_at cs 2 1, y, Y]; rfl
  have g1 : cs.drop 1 = [i6 i, i6 g, .bool f, .bool e, i6 d, i6 c, i6 b, i6 a] := by rw [show cs.drop 1 = (cs.drop 1).take 1 ++ cs.drop 2 from cut_at cs 1 1, s, Z]; rfl
  have l : cs.drop 0 = [str j, i6 i, i6 g, .bool f, .bool e, i6 d, i6 c, i6 b, i6 a] := by rw [show cs.drop 0 = (cs.drop 0).take 1 ++ cs.drop 1 from cut_at cs 0 1, p, g1]; rfl
  refine ⟨⟨j, i, g, f, e, d, c, b, a⟩, ?_, o, r, v, B, E, H, K, N, R⟩
  rw [List.drop_zero] at l
  exact l

theorem rdReading : Rd Tryd.prog 26 tyReading okReading := by
  refine ⟨fun enc w fuel cs x h hw => ?_⟩
  have hu : Tryd.prog.underlying 26 = some (.struct _) := Tryd.underlying26
  have hl := rd_len hu h (m := 3) (by kernel_rfl)
  obtain ⟨c, e, f⟩ := rd_field hu h hw 0 rfl (rd_str (P := Tryd.prog) (t := 9) (by kernel_rfl)) (m := 1) (by kernel_rfl) (off := 0) rfl
  have g : (cs.drop 0).take 1 = [str c] := e
  obtain ⟨b, i, j⟩ := rd_field hu h hw 1 rfl (rd_int (P := Tryd.prog) (t := 3) (k := .i64) (by kernel_rfl)) (m := 1) (by kernel_rfl) (off := 1) rfl
  have l : (cs.drop 1).take 1 = [i6 b] := i
  obtain ⟨a, n, o⟩ := rd_field hu h hw 2 rfl (rd_int (P := Tryd.prog) (t := 3) (k := .i64) (by kernel_rfl)) (m := 1) (by kernel_rfl) (off := 2) rfl
  have p : (cs.drop 2).take 1 = [i6 a] := n
  have z : cs.drop 3 = [] := List.drop_eq_nil_of_le (by omega)
  have q : cs.drop 2 = [i6 a] := by rw [show cs.drop 2 = (cs.drop 2).take 1 ++ cs.drop 3 from cut_at cs 2 1, p, z]; rfl
  have r : cs.drop 1 = [i6 b, i6 a] := by rw [show cs.drop 1 = (cs.drop 1).take 1 ++ cs.drop 2 from cut_at cs 1 1, l, q]; rfl
  have d : cs.drop 0 = [str c, i6 b, i6 a] := by rw [show cs.drop 0 = (cs.drop 0).take 1 ++ cs.drop 1 from cut_at cs 0 1, g, r]; rfl
  refine ⟨⟨c, b, a⟩, ?_, f, j, o⟩
  rw [List.drop_zero] at d
  exact d

theorem sname_walk (u0 : List UInt8)  (Z : Fz) (w : World)  (hZ : Z.on w) {K : Bool → Prop} (hp : sname_vc u0 K) : Calls Tryd.prog 20 #[str u0] w fun e w' => ∃ r : Bool, e = .returned (.bool r) ∧ K r ∧ Below w.heap.size w w' := by
 refine enter0 Tryd.func20 rfl rfl (by kernel_rfl) ?_; intro a0 n; have d := Mem.start w Z hZ; have ae := Fz.le.refl Z
 refine sqB n d [] [] [] ?_; intro a2 o; clear n
 refine wp_seq ?_
 refine sqB o d [] [57] [(12, .bool ((u0 == ([] : List UInt8)) || (decide ((u0.length : Int) > 16))))] ?_; intro af f; clear o
 refine cd f (t := (u0 == ([] : List UInt8)) || (decide ((u0.length : Int) > 16))) (by kernel_rfl) (fun k => ?_) (fun k => ?_)
 ·
  have J := hp.1 k; clear hp
  refine sqB f d [] [] [(2, .bool false)] ?_; intro ag L; clear f
  refine wp_ret ?_
  refine thr ?_
  refine ra1 L (.bool false) ?_
  exact ⟨false, rfl, J, d.below⟩
 have M := hp.2 k; clear hp
 refine wp_skip ?_
 refine thn ?_
 refine wp_seq ?_
 refine sqB f d [] [] [(14, i6 (u0.length : Int)), (15, i6 0)] ?_; intro p u; clear f
 refine wp_block ?_
 have v : Fr 50 [] [⟨0, [], str u0⟩, ⟨14, [], i6 (u0.length : Int)⟩, ⟨15, [], i6 0⟩] p := u.reg; clear u
 have x : Fr 50 [] [⟨0, [], str u0⟩, ⟨14, [], i6 (u0.length : Int)⟩, ⟨15, [], i6 0⟩] p := v.reg; clear v
 obtain ⟨N, O, P, Q⟩ := M
 refine lp (ι := Int) (fun s => [⟨0, [], str u0⟩, ⟨14, [], i6 (u0.length : Int)⟩, ⟨15, [], i6 s⟩]) (fun s => []) (fun s => Z) (fun s => N s) (fun s => O s) 0 P (by exact x.reg) (by exact d) ?_
 rintro b R S T y z
 have A : Fr 50 [] [⟨0, [], str u0⟩, ⟨14, [], i6 (u0.length : Int)⟩, ⟨15, [], i6 b⟩] S := y; clear y x
 have c : Mem w.heap.size [] w Z [] Z T := z; clear z d
 have i := Q b R
 refine sqB A c [] [] [(16, .bool (decide (b < (u0.length : Int))))] ?_; intro ah g; clear A
 refine wp_seq ?_
 refine cd g (t := decide (b < (u0.length : Int))) (by kernel_rfl) (fun l => ?_) (fun l => ?_)
 ·
  have U := i.1 l; clear i
  refine wp_skip ?_
  refine thn ?_
  refine wp_seq ?_
  refine wp_block ?_
  refine sqB g c [] [] [(3, i6 b)] ?_; intro ai B; clear g
  refine sqH ?_; intro V C
  refine bt B c 2 [] [] [(18, str u0), (19, i6 b)] ?_; intro aj D; clear B
  obtain ⟨W, X⟩ := U
  obtain ⟨a, E⟩ : ∃ q, u0[b.toNat]? = some q := ⟨_, List.getElem?_eq_getElem (by omega)⟩; have j := X a E
  refine si D .i64 W.1 E ?_; intro ak F; clear D
  refine s1 F 4 (y8 (a.toNat : Int)) ?_; intro al G; clear F
  refine nlH (C _ _ ?_); clear C V
  refine sqB G c [] [] [(5, .bool (((decide ((a.toNat : Int) ≥ 97)) && (decide ((a.toNat : Int) ≤ 122))) || ((decide ((a.toNat : Int) ≥ 65)) && (decide ((a.toNat : Int) ≤ 90)))))] ?_; intro am H; clear G
  refine sqB H c [] [] [(48, .bool ((!(((decide ((a.toNat : Int) ≥ 97)) && (decide ((a.toNat : Int) ≤ 122))) || ((decide ((a.toNat : Int) ≥ 65)) && (decide ((a.toNat : Int) ≤ 90))))) && (((b == 0) || (decide ((a.toNat : Int) < 48))) || (decide ((a.toNat : Int) > 57)))))] ?_; intro an h; clear H
  refine cd h (t := (!(((decide ((a.toNat : Int) ≥ 97)) && (decide ((a.toNat : Int) ≤ 122))) || ((decide ((a.toNat : Int) ≥ 65)) && (decide ((a.toNat : Int) ≤ 90))))) && (((b == 0) || (decide ((a.toNat : Int) < 48))) || (decide ((a.toNat : Int) > 57)))) (by kernel_rfl) (fun m => ?_) (fun m => ?_)
  ·
   have Y := j.1 m; clear j
   refine sqB h c [] [] [(2, .bool false)] ?_; intro ao aa; clear h
   refine wp_ret ?_
   refine ibr ?_
   refine thr ?_
   refine thr ?_
   refine ibr ?_
   refine thr ?_
   refine ra1 aa (.bool false) ?_
   exact ⟨false, rfl, Y, c.below⟩
  have I := j.2 m; clear j
  refine wp_skip ?_
  refine ibn ?_
  refine thn ?_
  refine rgB h c [] [] [(15, i6 (w64 (b + 1)))] ?_; intro ap ab; clear h
  refine rd ?_
  exact ⟨w64 (b + 1), I.1, I.2, (ab.reg).anyβ _ (by kernel_rfl), c.keep (List.Sublist.slnil)⟩
 have ac := i.2 l; clear i
 refine wp_exit ?_
 refine thx ?_
 refine thx ?_
 refine ibx ?_
 refine thn ?_
 refine sqB g c [] [] [(2, .bool true)] ?_; intro aq ad; clear g
 refine wp_ret ?_
 refine ra1 ad (.bool true) ?_
 exact ⟨true, rfl, ac, c.below⟩

theorem sgcd_walk (u0 : Int) (u1 : Int)  (Z : Fz) (w : World)  (hZ : Z.on w) {K : Int → Prop} (hp : sgcd_vc u0 u1 K) : Calls Tryd.prog 45 #[i6 u0, i6 u1] w fun e w' => ∃ r : Int, e = .returned (i6 r) ∧ K r ∧ Below w.heap.size w w' := by
 refine enter0 Tryd.func45 rfl rfl (by kernel_rfl) ?_; intro T k; have h := Mem.start w Z hZ; have U := Fz.le.refl Z
 refine sqB k h [] [] [] ?_; intro l m; clear k
 refine wp_seq ?_
 refine wp_block ?_
 have n : Fr 15 [] [⟨0, [], i6 u0⟩, ⟨1, [], i6 u1⟩] l := m.reg; clear m
 have o : Fr 15 [] [⟨0, [], i6 u0⟩, ⟨1, [], i6 u1⟩] l := n.reg; clear n
 obtain ⟨D, E, F, G⟩ := hp
 refine lp (ι := Int × Int) (fun s => [⟨0, [], i6 s.1⟩, ⟨1, [], i6 s.2⟩]) (fun s => []) (fun s => Z) (fun s => D s.1 s.2) (fun s => E s.1 s.2) ⟨u0, u1⟩ F (by exact o.reg) (by exact h) ?_
 rintro ⟨a, b⟩ H I J p q
 have u : Fr 15 [] [⟨0, [], i6 a⟩, ⟨1, [], i6 b⟩] I := p; clear p o
 have c : Mem w.heap.size [] w Z [] Z J := q; clear q h
 have f := G a b H
 refine wp_seq ?_
 refine sqB u c [] [] [(6, .bool (b != 0))] ?_; intro L d; clear u
 refine cd d (t := b != 0) (by kernel_rfl) (fun i => ?_) (fun i => ?_)
 ·
  have M := f.1 i; clear f
  refine wp_skip ?_
  refine thn ?_
  refine wp_block ?_
  have v : Fr 15 [] [⟨0, [], i6 a⟩, ⟨1, [], i6 b⟩] L := d.reg; clear d
  refine qrgH mixed (by kernel_rfl) c ?_; intro N x
  refine q1 v 7 (i6 b) ?_; intro V y; clear v
  refine q1 y 8 (i6 a) ?_; intro W z; clear y
  refine q1 z 9 (i6 b) ?_; intro X j; clear z
  obtain ⟨O, A⟩ := M
  refine qst j (i6 (a.tmod b)) (nog rfl _) rfl (by kernel_rfl) (fun v36 hC => rem_run j (g := []) rfl (by kernel_rfl) (by kernel_rfl) O rfl) ?_; intro Y B; clear j
  refine q1 B 0 (i6 b) ?_; intro aa C; clear B
  refine q1 C 1 (i6 (a.tmod b)) ?_; intro ab P; clear C
  refine qnl (x _ ?_); clear x N; intro ac Q; clear c
  refine ibn ?_
  refine rd ?_
  exact ⟨⟨b, a.tmod b⟩, A.1, A.2, (P.reg).anyβ _ (by kernel_rfl), Q.keep (List.Sublist.slnil)⟩
 have R := f.2 i; clear f
 refine wp_exit ?_
 refine thx ?_
 refine thx ?_
 refine ibx ?_
 refine thn ?_
 refine sqB d c [] [] [(4, i6 (max a (w64 (0 - a))))] ?_; intro ad S; clear d
 refine wp_ret ?_
 refine ra1 S (i6 (max a (w64 (0 - a)))) ?_
 exact ⟨max a (w64 (0 - a)), rfl, R, c.below⟩

theorem imax_walk (u0 : List Int) (ao1 : Option Addr) (cap2 : Nat) (Z : Fz) (w : World) (hs3 : SlR t6 Z ao1 cap2 u0) (hZ : Z.on w) {K : Int → Prop} (hp : imax_vc u0 K) : Calls Tryd.prog 58 #[.slice ao1 u0.length cap2] w fun e w' => ∃ r : Int, e = .returned (i6 r) ∧ K r ∧ Below w.heap.size w w' := by
 refine enter0 Tryd.func58 rfl rfl (by kernel_rfl) ?_; intro a0 o; have f := Mem.start w Z hZ; have ar := Fz.le.refl Z
 have i := hp (hs3.small); clear hp
 refine sqB o f [] [] [] ?_; intro a6 p; clear o
 refine wp_seq ?_
 refine sqB p f [] [] [(7, .bool (decide ((u0.length : Int) < 1)))] ?_; intro au l; clear p
 refine cd l (t := decide ((u0.length : Int) < 1)) (by kernel_rfl) (fun m => ?_) (fun m => ?_)
 ·
  have P := i.1 m; clear i
  exact False.elim P
 have Q := i.2 m; clear i
 refine wp_skip ?_
 refine thn ?_
 refine sqH ?_; intro R q
 refine s1 l 9 (.slice ao1 u0.length cap2) ?_; intro av u; clear l
 obtain ⟨S, v⟩ := Q
 refine ix u (T := t6) (xs := u0) hs3 (0 : Int) S (k := .i64) (e := 3) (bytes := 8) (nog rfl _) rfl (by kernel_rfl) rfl (by kernel_rfl) (by kernel_rfl) (by kernel_rfl) ?_; intro aw ax U d ay V W X x; clear u
 have Y := v d V; clear v
 obtain rfl : U = ([i6 d] : List Value) := X
 refine z1 x f 11 W 0 (i6 d) rfl ?_; intro az y; clear x
 refine s1 y 3 (i6 d) ?_; intro aA z; clear y
 refine nlH (q _ _ ?_); clear q R
 refine wp_seq ?_
 refine sqB z f [] [] [(4, i6 1)] ?_; intro A B; clear z
 refine wp_block ?_
 have C : Fr 25 [] [⟨0, [], .slice ao1 u0.length cap2⟩, ⟨3, [], i6 d⟩, ⟨4, [], i6 1⟩] A := B.reg; clear B
 have D : Fr 25 [] [⟨0, [], .slice ao1 u0.length cap2⟩, ⟨3, [], i6 d⟩, ⟨4, [], i6 1⟩] A := C.reg; clear C
 obtain ⟨aa, ab, ac, ad⟩ := Y
 refine lp (ι := Int × Int) (fun s => [⟨0, [], .slice ao1 u0.length cap2⟩, ⟨3, [], i6 s.1⟩, ⟨4, [], i6 s.2⟩]) (fun s => []) (fun s => Z) (fun s => aa s.1 s.2) (fun s => ab s.1 s.2) ⟨d, 1⟩ ac (by exact D.reg) (by exact f) ?_
 rintro ⟨a, b⟩ ae af ag E F
 have G : Fr 25 [] [⟨0, [], .slice ao1 u0.length cap2⟩, ⟨3, [], i6 a⟩, ⟨4, [], i6 b⟩] af := E; clear E D
 have c : Mem w.heap.size [] w Z [] Z ag := F; clear F f
 have j := ad a b ae
 refine wp_seq ?_
 refine sqB G c [] [] [(15, .bool (decide (b < (u0.length : Int))))] ?_; intro aB g; clear G
 refine cd g (t := decide (b < (u0.length : Int))) (by kernel_rfl) (fun n => ?_) (fun n => ?_)
 ·
  have ah := j.1 n; clear j
  refine wp_skip ?_
  refine thn ?_
  refine wp_seq ?_
  refine wp_block ?_
  refine rgH ?_; intro ai H
  refine bt g c 3 [] [] [(18, i6 a), (19, .slice ao1 u0.length cap2), (20, i6 b)] ?_; intro aC I; clear g
  obtain ⟨aj, J⟩ := ah
  refine ix I (T := t6) (xs := u0) hs3 b aj (k := .i64) (e := 3) (bytes := 8) (nog rfl _) rfl (by kernel_rfl) rfl (by kernel_rfl) (by kernel_rfl) (by kernel_rfl) ?_; intro aD aE ak h aF al am an L; clear I
  have M := J h al; clear J
  obtain rfl : ak = ([i6 h] : List Value) := an
  refine z1 L c 22 am 0 (i6 h) rfl ?_; intro aG N; clear L
  refine bt N c 2 [] [] [(3, i6 (max a h))] ?_; intro aH O; clear N
  refine nlH (H _ _ ?_); clear H ai
  refine ibn ?_
  refine thn ?_
  refine rgB O c [] [] [(4, i6 (w64 (b + 1)))] ?_; intro aI ao; clear O
  refine rd ?_
  exact ⟨⟨max a h, w64 (b + 1)⟩, M.1, M.2, (ao.reg).anyβ _ (by kernel_rfl), c.keep (List.Sublist.slnil)⟩
 have ap := j.2 n; clear j
 refine wp_exit ?_
 refine thx ?_
 refine thx ?_
 refine ibx ?_
 refine thn ?_
 refine sqB g c [] [] [(2, i6 a)] ?_; intro aJ aq; clear g
 refine wp_ret ?_
 refine ra1 aq (i6 a) ?_
 exact ⟨a, rfl, ap, c.below⟩

theorem imin_walk (u0 : List Int) (ao1 : Option Addr) (cap2 : Nat) (Z : Fz) (w : World) (hs3 : SlR t6 Z ao1 cap2 u0) (hZ : Z.on w) {K : Int → Prop} (hp : imin_vc u0 K) : Calls Tryd.prog 59 #[.slice ao1 u0.length cap2] w fun e w' => ∃ r : Int, e = .returned (i6 r) ∧ K r ∧ Below w.heap.size w w' := by
 refine enter0 Tryd.func59 rfl rfl (by kernel_rfl) ?_; intro a0 o; have f := Mem.start w Z hZ; have ar := Fz.le.refl Z
 have i := hp (hs3.small); clear hp
 refine sqB o f [] [] [] ?_; intro a6 p; clear o
 refine wp_seq ?_
 refine sqB p f [] [] [(7, .bool (decide ((u0.length : Int) < 1)))] ?_; intro au l; clear p
 refine cd l (t := decide ((u0.length : Int) < 1)) (by kernel_rfl) (fun m => ?_) (fun m => ?_)
 ·
  have P := i.1 m; clear i
  exact False.elim P
 have Q := i.2 m; clear i
 refine wp_skip ?_
 refine thn ?_
 refine sqH ?_; intro R q
 refine s1 l 9 (.slice ao1 u0.length cap2) ?_; intro av u; clear l
 obtain ⟨S, v⟩ := Q
 refine ix u (T := t6) (xs := u0) hs3 (0 : Int) S (k := .i64) (e := 3) (bytes := 8) (nog rfl _) rfl (by kernel_rfl) rfl (by kernel_rfl) (by kernel_rfl) (by kernel_rfl) ?_; intro aw ax U d ay V W X x; clear u
 have Y := v d V; clear v
 obtain rfl : U = ([i6 d] : List Value) := X
 refine z1 x f 11 W 0 (i6 d) rfl ?_; intro az y; clear x
 refine s1 y 3 (i6 d) ?_; intro aA z; clear y
 refine nlH (q _ _ ?_); clear q R
 refine wp_seq ?_
 refine sqB z f [] [] [(4, i6 1)] ?_; intro A B; clear z
 refine wp_block ?_
 have C : Fr 25 [] [⟨0, [], .slice ao1 u0.length cap2⟩, ⟨3, [], i6 d⟩, ⟨4, [], i6 1⟩] A := B.reg; clear B
 have D : Fr 25 [] [⟨0, [], .slice ao1 u0.length cap2⟩, ⟨3, [], i6 d⟩, ⟨4, [], i6 1⟩] A := C.reg; clear C
 obtain ⟨aa, ab, ac, ad⟩ := Y
 refine lp (ι := Int × Int) (fun s => [⟨0, [], .slice ao1 u0.length cap2⟩, ⟨3, [], i6 s.1⟩, ⟨4, [], i6 s.2⟩]) (fun s => []) (fun s => Z) (fun s => aa s.1 s.2) (fun s => ab s.1 s.2) ⟨d, 1⟩ ac (by exact D.reg) (by exact f) ?_
 rintro ⟨a, b⟩ ae af ag E F
 have G : Fr 25 [] [⟨0, [], .slice ao1 u0.length cap2⟩, ⟨3, [], i6 a⟩, ⟨4, [], i6 b⟩] af := E; clear E D
 have c : Mem w.heap.size [] w Z [] Z ag := F; clear F f
 have j := ad a b ae
 refine wp_seq ?_
 refine sqB G c [] [] [(15, .bool (decide (b < (u0.length : Int))))] ?_; intro aB g; clear G
 refine cd g (t := decide (b < (u0.length : Int))) (by kernel_rfl) (fun n => ?_) (fun n => ?_)
 ·
  have ah := j.1 n; clear j
  refine wp_skip ?_
  refine thn ?_
  refine wp_seq ?_
  refine wp_block ?_
  refine rgH ?_; intro ai H
  refine bt g c 3 [] [] [(18, i6 a), (19, .slice ao1 u0.length cap2), (20, i6 b)] ?_; intro aC I; clear g
  obtain ⟨aj, J⟩ := ah
  refine ix I (T := t6) (xs := u0) hs3 b aj (k := .i64) (e := 3) (bytes := 8) (nog rfl _) rfl (by kernel_rfl) rfl (by kernel_rfl) (by kernel_rfl) (by kernel_rfl) ?_; intro aD aE ak h aF al am an L; clear I
  have M := J h al; clear J
  obtain rfl : ak = ([i6 h] : List Value) := an
  refine z1 L c 22 am 0 (i6 h) rfl ?_; intro aG N; clear L
  refine bt N c 2 [] [] [(3, i6 (min a h))] ?_; intro aH O; clear N
  refine nlH (H _ _ ?_); clear H ai
  refine ibn ?_
  refine thn ?_
  refine rgB O c [] [] [(4, i6 (w64 (b + 1)))] ?_; intro aI ao; clear O
  refine rd ?_
  exact ⟨⟨min a h, w64 (b + 1)⟩, M.1, M.2, (ao.reg).anyβ _ (by kernel_rfl), c.keep (List.Sublist.slnil)⟩
 have ap := j.2 n; clear j
 refine wp_exit ?_
 refine thx ?_
 refine thx ?_
 refine ibx ?_
 refine thn ?_
 refine sqB g c [] [] [(2, i6 a)] ?_; intro aJ aq; clear g
 refine wp_ret ?_
 refine ra1 aq (i6 a) ?_
 exact ⟨a, rfl, ap, c.below⟩

theorem bclone_walk (u0 : List Int) (ao1 : Option Addr) (cap2 : Nat) (Z : Fz) (w : World) (hs3 : SlR t8 Z ao1 cap2 u0) (hZ : Z.on w) {K : (List Int) → Prop} (hp : bclone_vc u0 K) : Calls Tryd.prog 12 #[.slice ao1 u0.length cap2] w fun e w' => ∃ (r : (List Int)) (ao1001 : Option Addr) (cap1002 : Nat) (Z' : Fz), e = .returned (.slice ao1001 r.length cap1002) ∧ K r ∧ Mem w.heap.size [] w Z [.own t8 5 ao1001 cap1002 r] Z' w' := by
 refine enter0 Tryd.func12 rfl rfl (by kernel_rfl) ?_; intro N l; have a := Mem.start w Z hZ; have O := Fz.le.refl Z
 have m := hp (hs3.small); clear hp
 refine sqB l a [] [] [] ?_; intro P n; clear l
 refine wp_seq ?_
 refine sqH ?_; intro A o
 refine s1 n 3 (.slice ao1 u0.length cap2) ?_; intro Q h; clear n
 obtain ⟨i, p⟩ : ∃ b, ao1.isNone = b := ⟨_, rfl⟩; have d := m i (by rw [← p]; exact hs3.isNone); clear m
 refine st h (.bool i) (nog rfl _) rfl (by kernel_rfl) (re_ (r := .ok (.value (.bool ao1.isNone)) w) (by cases ao1 <;> exact p0 h (by kernel_rfl)) (by rw [p])) ?_; intro R c; clear h
 refine nlH (o _ _ ?_); clear o A
 refine cd c (t := i) (by kernel_rfl) (fun j => ?_) (fun j => ?_)
 ·
  have B := d.1 j; clear d
  refine sqB c a [] [] [(2, .slice none 0 0)] ?_; intro S C; clear c
  refine wp_ret ?_
  refine thr ?_
  have D : Mem w.heap.size [] w Z [.own t8 5 none 0 ([] : List Int)] Z w := a.addNil t8 5 (by decide); clear a
  refine ra1 C (.slice none ([] : List Int).length 0) ?_
  exact ⟨([] : List Int), none, 0, Z, rfl, B, D.keep (List.Sublist.cons_cons _ (List.Sublist.slnil))⟩
 have E := d.2 j; clear d
 refine wp_skip ?_
 refine thn ?_
 refine sqH ?_; intro F q
 refine nw c a (fun b => .slice (sm b) 0 0) [] 5 ?_; intro s U G u v; clear c a
 refine s1 u 6 (.slice ao1 u0.length cap2) ?_; intro V x; clear u
 have k : Mem w.heap.size [] w Z [.own t8 5 (sm s) 0 ([] : List Int)] Z G := v.rowOwn (T := t8) (xs := ([] : List Int)) 0 rfl (by decide) (by show 0 ≤ lim; decide) (RepAll.nil _ _); clear v
 obtain ⟨H, I⟩ := E
 refine ap x k 0 (T := t8) (xs := ([] : List Int)) (ys := u0) (ao := (sm s)) (cap := 0) (ao2 := ao1) (cap2 := cap2) (t := 24) (e := 5) (bytes := 1) (nog rfl _) rfl (by kernel_rfl) rfl (by kernel_rfl) (by kernel_rfl) (by kernel_rfl) rfl (Src.fz (by decide) k.fz hs3) H ?_; intro f g W J X y z; clear x k
 have L : Mem w.heap.size [] w Z [.own t8 5 f g (([] : List Int) ++ u0)] Z J := z; clear z
 refine s1 y 2 (.slice f (([] : List Int) ++ u0).length g) ?_; intro Y M; clear y
 refine nlH (q _ _ ?_); clear q F
 refine wp_ret ?_
 refine ra1 M (.slice f (([] : List Int) ++ u0).length g) ?_
 exact ⟨([] : List Int) ++ u0, f, g, Z, rfl, I, L.keep (List.Sublist.cons_cons _ (List.Sublist.slnil))⟩

theorem beq_walk (u0 : List Int) (u1 : List Int) (ao1 : Option Addr) (cap2 : Nat) (ao4 : Option Addr) (cap5 : Nat) (Z : Fz) (w : World) (hs3 : SlR t8 Z ao1 cap2 u0) (hs6 : SlR t8 Z ao4 cap5 u1) (hZ : Z.on w) {K : Bool → Prop} (hp : beq_vc u0 u1 K) : Calls Tryd.prog 15 #[.slice ao1 u0.length cap2, .slice ao4 u1.length cap5] w fun e w' => ∃ r : Bool, e = .returned (.bool r) ∧ K r ∧ Below w.heap.size w w' := by
 refine enter0 Tryd.func15 rfl rfl (by kernel_rfl) ?_; intro a0 y; have b := Mem.start w Z hZ; have aC := Fz.le.refl Z
 have z := hp (hs3.small); clear hp
 have l := z (hs6.small); clear z
 refine sqB y b [] [] [] ?_; intro aD A; clear y
 refine wp_seq ?_
 refine sqB A b [] [] [(10, .bool ((u0.length : Int) != (u1.length : Int)))] ?_; intro aE d; clear A
 refine cd d (t := (u0.length : Int) != (u1.length : Int)) (by kernel_rfl) (fun p => ?_) (fun p => ?_)
 ·
  have W := l.1 p; clear l
  refine sqB d b [] [] [(4, .bool false)] ?_; intro aF X; clear d
  refine wp_ret ?_
  refine thr ?_
  refine ra1 X (.bool false) ?_
  exact ⟨false, rfl, W, b.below⟩
 have Y := l.2 p; clear l
 refine wp_skip ?_
 refine thn ?_
 refine wp_seq ?_
 refine sqB d b [] [] [(12, i6 (u0.length : Int)), (13, i6 0)] ?_; intro B C; clear d
 refine wp_block ?_
 have D : Fr 26 [] [⟨0, [], .slice ao1 u0.length cap2⟩, ⟨1, [], .slice ao4 u1.length cap5⟩, ⟨12, [], i6 (u0.length : Int)⟩, ⟨13, [], i6 0⟩] B := C.reg; clear C
 have E : Fr 26 [] [⟨0, [], .slice ao1 u0.length cap2⟩, ⟨1, [], .slice ao4 u1.length cap5⟩, ⟨12, [], i6 (u0.length : Int)⟩, ⟨13, [], i6 0⟩] B := D.reg; clear D
 obtain ⟨aa, ab, ac, ad⟩ := Y
 refine lp (ι := Int) (fun s => [⟨0, [], .slice ao1 u0.length cap2⟩, ⟨1, [], .slice ao4 u1.length cap5⟩, ⟨12, [], i6 (u0.length : Int)⟩, ⟨13, [], i6 s⟩]) (fun s => []) (fun s => Z) (fun s => aa s) (fun s => ab s) 0 ac (by exact E.reg) (by exact b) ?_
 rintro a ae af ag F G
 have H : Fr 26 [] [⟨0, [], .slice ao1 u0.length cap2⟩, ⟨1, [], .slice ao4 u1.length cap5⟩, ⟨12, [], i6 (u0.length : Int)⟩, ⟨13, [], i6 a⟩] af := F; clear F E
 have c : Mem w.heap.size [] w Z [] Z ag := G; clear G b
 have m := ad a ae
 refine sqB H c [] [] [(14, .bool (decide (a < (u0.length : Int))))] ?_; intro aG f; clear H
 refine wp_seq ?_
 refine cd f (t := decide (a < (u0.length : Int))) (by kernel_rfl) (fun q => ?_) (fun q => ?_)
 ·
  have ah := m.1 q; clear m
  refine wp_skip ?_
  refine thn ?_
  refine wp_seq ?_
  refine wp_block ?_
  refine sqB f c [] [] [(5, i6 a)] ?_; intro ai I; clear f
  have J : Fr 26 [] [⟨0, [], .slice ao1 u0.length cap2⟩, ⟨1, [], .slice ao4 u1.length cap5⟩, ⟨5, [], i6 a⟩, ⟨12, [], i6 (u0.length : Int)⟩, ⟨13, [], i6 a⟩] ai := I.reg; clear I
  refine sqQH mixed (by kernel_rfl) c ?_; intro aj L
  refine q1 J 16 (.slice ao1 u0.length cap2) ?_; intro aH M; clear J
  refine q1 M 17 (i6 a) ?_; intro aI N; clear M
  obtain ⟨ak, O⟩ := ah
  refine qix N (T := t8) (xs := u0) hs3 a ak (k := .i64) (e := 5) (bytes := 1) (nog rfl _) rfl (by kernel_rfl) rfl (by kernel_rfl) (by kernel_rfl) (by kernel_rfl) ?_; intro aJ aK al h aL am an ao u; clear N
  have ap := O h am; clear O
  obtain rfl : al = ([y8 h] : List Value) := ao
  refine qst u (y8 h) (nog rfl _) rfl (by kernel_rfl) (fun v81 hC => lz u hC.fz an 0 (g := []) rfl (by kernel_rfl) (by kernel_rfl) (by kernel_rfl) rfl) ?_; intro aM P; clear u
  refine q1 P 20 (.slice ao4 u1.length cap5) ?_; intro aN Q; clear P
  refine q1 Q 21 (i6 a) ?_; intro aO R; clear Q
  obtain ⟨aq, S⟩ := ap
  refine qix R (T := t8) (xs := u1) hs6 a aq (k := .i64) (e := 5) (bytes := 1) (nog rfl _) rfl (by kernel_rfl) rfl (by kernel_rfl) (by kernel_rfl) (by kernel_rfl) ?_; intro aP aQ ar i aR au av aw v; clear R
  have n := S i au; clear S
  obtain rfl : ar = ([y8 i] : List Value) := aw
  refine qst v (y8 i) (nog rfl _) rfl (by kernel_rfl) (fun v103 hC => lz v hC.fz av 0 (g := []) rfl (by kernel_rfl) (by kernel_rfl) (by kernel_rfl) rfl) ?_; intro aS U; clear v
  refine q1 U 24 (.bool (h != i)) ?_; intro aT j; clear U
  refine qnl (L _ ?_); clear L aj; intro aU o; clear c
  refine cd j (t := h != i) (by kernel_rfl) (fun x => ?_) (fun x => ?_)
  ·
   have ax := n.1 x; clear n
   refine sqB j o [] [] [(4, .bool false)] ?_; intro aV ay; clear j
   refine wp_ret ?_
   refine ibr ?_
   refine thr ?_
   refine thr ?_
   refine ibr ?_
   refine thr ?_
   refine ra1 ay (.bool false) ?_
   exact ⟨false, rfl, ax, o.below⟩
  have V := n.2 x; clear n
  refine wp_skip ?_
  refine ibn ?_
  refine thn ?_
  refine rgB j o [] [] [(13, i6 (w64 (a + 1)))] ?_; intro aW az; clear j
  refine rd ?_
  exact ⟨w64 (a + 1), V.1, V.2, (az.reg).anyβ _ (by kernel_rfl), o.keep (List.Sublist.slnil)⟩
 have aA := m.2 q; clear m
 refine wp_exit ?_
 refine thx ?_
 refine thx ?_
 refine ibx ?_
 refine thn ?_
 refine sqB f c [] [] [(4, .bool true)] ?_; intro aX aB; clear f
 refine wp_ret ?_
 refine ra1 aB (.bool true) ?_
 exact ⟨true, rfl, aA, c.below⟩

theorem sbounds_walk (u0 : Signal)  (Z : Fz) (w : World)  (hZ : Z.on w) {K : (Int × Int) → Prop} (hp : sbounds_vc u0 K) : Calls Tryd.prog 46 #[.agg #[str u0.Name, i6 u0.Start, i6 u0.Size, .bool u0.Back, .bool u0.Signed, i6 u0.Mul, i6 u0.Div, i6 u0.Add, i6 u0.Key]] w fun e w' => ∃ r : Int × Int, e = .returned (.tuple #[i6 r.1, i6 r.2]) ∧ K r ∧ Below w.heap.size w w' := by
 refine enter0 Tryd.func46 rfl rfl (by kernel_rfl) ?_; intro a0 n; have o := Mem.start w Z hZ; have aa := Fz.le.refl Z
 refine sqH ?_; intro J p
 refine nw n o pb (e23Z u0) 23 ?_; intro a a3 ab q c; clear n o
 refine bt q c 2 [] [] [] ?_; intro a9 s; clear q
 refine nlH (p _ _ ?_); clear p J
 refine wp_seq ?_
 refine sqB s c [0] [] [(5, .bool u0.Signed)] ?_; intro u d; clear s
 refine cd d (t := u0.Signed) (by kernel_rfl) (fun f => ?_) (fun f => ?_)
 ·
  have L := hp.1 f; clear hp
  have v : Fr 19 [] [⟨1, [], pt a 0⟩] u := d.reg; clear d
  refine sqQH mixed (by kernel_rfl) c ?_; intro M x
  refine q1 v 6 (pt a 2) ?_; intro ac h; clear v
  refine qst h (i6 u0.Size) (nog rfl _) rfl (by kernel_rfl) (fun v23 hC => ld h hC 0 (g := []) (b := a) (off := 2) (cs := (e23Z u0)) (ty := 23) rfl (by kernel_rfl) (by kernel_rfl) (by kernel_rfl) (by kernel_rfl) rfl) ?_; intro ad y; clear h
  refine q1 y 8 (i6 (w64 (u0.Size - 1))) ?_; intro ae i; clear y
  obtain ⟨N, O⟩ := L
  refine qst i (i6 (bShl .i64 (-1) (w64 (u0.Size - 1)))) (nog rfl _) rfl (by kernel_rfl) (fun v29 hC => shl_run i (g := []) (k' := .i64) rfl (by kernel_rfl) (by kernel_rfl) N rfl) ?_; intro af z; clear i
  refine q1 z 10 (pt a 2) ?_; intro ag j; clear z
  refine qst j (i6 u0.Size) (nog rfl _) rfl (by kernel_rfl) (fun v37 hC => ld j hC 0 (g := []) (b := a) (off := 2) (cs := (e23Z u0)) (ty := 23) rfl (by kernel_rfl) (by kernel_rfl) (by kernel_rfl) (by kernel_rfl) rfl) ?_; intro ah A; clear j
  refine q1 A 12 (i6 (w64 (u0.Size - 1))) ?_; intro ai k; clear A
  obtain ⟨P, Q⟩ := O
  refine qst k (i6 (bShl .i64 1 (w64 (u0.Size - 1)))) (nog rfl _) rfl (by kernel_rfl) (fun v43 hC => shl_run k (g := []) (k' := .i64) rfl (by kernel_rfl) (by kernel_rfl) P rfl) ?_; intro aj B; clear k
  refine q1 B 14 (i6 (w64 ((bShl .i64 1 (w64 (u0.Size - 1))) - 1))) ?_; intro ak C; clear B
  refine q1 C 2 (i6 (bShl .i64 (-1) (w64 (u0.Size - 1)))) ?_; intro al D; clear C
  refine q1 D 3 (i6 (w64 ((bShl .i64 1 (w64 (u0.Size - 1))) - 1))) ?_; intro am R; clear D
  refine qnl (x _ ?_); clear x M; intro an S; clear c
  refine wp_ret ?_
  refine thr ?_
  refine ra2 R (.tuple #[i6 (bShl .i64 (-1) (w64 (u0.Size - 1))), i6 (w64 ((bShl .i64 1 (w64 (u0.Size - 1))) - 1))]) ?_
  exact ⟨(bShl .i64 (-1) (w64 (u0.Size - 1)), w64 ((bShl .i64 1 (w64 (u0.Size - 1))) - 1)), rfl, Q, S.below⟩
 have T := hp.2 f; clear hp
 refine wp_skip ?_
 refine thn ?_
 have E : Fr 19 [] [⟨1, [], pt a 0⟩] u := d.reg; clear d
 refine sqQH mixed (by kernel_rfl) c ?_; intro U F
 refine q1 E 15 (pt a 2) ?_; intro ao l; clear E
 refine qst l (i6 u0.Size) (nog rfl _) rfl (by kernel_rfl) (fun v65 hC => ld l hC 0 (g := []) (b := a) (off := 2) (cs := (e23Z u0)) (ty := 23) rfl (by kernel_rfl) (by kernel_rfl) (by kernel_rfl) (by kernel_rfl) rfl) ?_; intro ap m; clear l
 obtain ⟨V, W⟩ := T
 refine qst m (i6 (bShl .i64 1 u0.Size)) (nog rfl _) rfl (by kernel_rfl) (fun v68 hC => shl_run m (g := []) (k' := .i64) rfl (by kernel_rfl) (by kernel_rfl) V rfl) ?_; intro aq G; clear m
 refine q1 G 18 (i6 (w64 ((bShl .i64 1 u0.Size) - 1))) ?_; intro ar H; clear G
 refine q1 H 2 (i6 0) ?_; intro au I; clear H
 refine q1 I 3 (i6 (w64 ((bShl .i64 1 u0.Size) - 1))) ?_; intro av X; clear I
 refine qnl (F _ ?_); clear F U; intro aw Y; clear c
 refine wp_ret ?_
 refine ra2 X (.tuple #[i6 0, i6 (w64 ((bShl .i64 1 u0.Size) - 1))]) ?_
 exact ⟨(0, w64 ((bShl .i64 1 u0.Size) - 1)), rfl, W, Y.below⟩

theorem irev_walk (u0 : List Int) (ao1 : Option Addr) (cap2 : Nat) (B : Nat) (w0 : World) (Z0 : Fz) (Rr : List Res) (Z : Fz) (w : World) (hM0 : Mem B [] w0 Z0 ((.own t6 3 ao1 cap2 u0) :: Rr) Z w) (hZ : Z.on w) {K : (List Int) → Prop} (hp : irev_vc u0 K) : Calls Tryd.prog 90 #[.slice ao1 u0.length cap2] w fun e w' => ∃ (r : (List Int)) (Z' : Fz), e = .returned (.tuple #[]) ∧ K r ∧ Fz.le Z Z' ∧ (r.length = u0.length) ∧ Mem B [] w0 Z0 ((.own t6 3 ao1 cap2 r) :: Rr) Z' w' := by
 refine enter0 Tryd.func90 rfl rfl (by kernel_rfl) ?_; intro a0 aO; have m := Fz.le.refl Z
 have be := hp (hM0.ownSmall 0 rfl); clear hp
 refine sqB aO hM0 [] [] [(2, i6 0), (3, i6 (w64 ((u0.length : Int) - 1)))] ?_; intro aP aQ; clear aO
 refine wp_block ?_
 have aR : Fr 28 [] [⟨0, [], .slice ao1 u0.length cap2⟩, ⟨2, [], i6 0⟩, ⟨3, [], i6 (w64 ((u0.length : Int) - 1))⟩] aP := aQ.reg; clear aQ
 have aS : Fr 28 [] [⟨0, [], .slice ao1 u0.length cap2⟩, ⟨2, [], i6 0⟩, ⟨3, [], i6 (w64 ((u0.length : Int) - 1))⟩] aP := aR.reg; clear aR
 obtain ⟨bf, bg, bh, bi⟩ := be
 refine lp (ι := Int × Int × (List Int)) (fun s => [⟨0, [], .slice ao1 s.2.2.length cap2⟩, ⟨2, [], i6 s.1⟩, ⟨3, [], i6 s.2.1⟩]) (fun s => ((.own t6 3 ao1 cap2 s.2.2) :: Rr)) (fun s => Z) (fun s => bf s.1 s.2.1 s.2.2) (fun s => bg s.1 s.2.1 s.2.2) ⟨0, w64 ((u0.length : Int) - 1), u0⟩ bh (by exact aS.reg) (by exact hM0) ?_
 rintro ⟨c, d, b⟩ bj bk bl aT aU
 have aV : Fr 28 [] [⟨0, [], .slice ao1 b.length cap2⟩, ⟨2, [], i6 c⟩, ⟨3, [], i6 d⟩] bk := aT; clear aT aS
 have aJ : Mem B [] w0 Z0 ((.own t6 3 ao1 cap2 b) :: Rr) Z bl := aU; clear aU hM0
 have aI := bi c d b bj
 refine wp_seq ?_
 refine sqB aV aJ [] [] [(9, .bool (decide (c < d)))] ?_; intro ad aG; clear aV
 refine cd aG (t := decide (c < d)) (by kernel_rfl) (fun aK => ?_) (fun aK => ?_)
 ·
  have bm := aI.1 aK; clear aI
  refine wp_skip ?_
  refine thn ?_
  refine wp_seq ?_
  refine wp_block ?_
  have bn : Fr 28 [] [⟨0, [], .slice ao1 b.length cap2⟩, ⟨2, [], i6 c⟩, ⟨3, [], i6 d⟩] ad := aG.reg; clear aG
  obtain ⟨bo, aW⟩ := bm
  obtain ⟨l, bp, bq⟩ := gxq aW (by omega); clear aW
  obtain ⟨br, aX⟩ := bq
  obtain ⟨E, bs, bt⟩ := gxq aX (by omega); clear aX
  obtain ⟨bu, bv⟩ := bt
  obtain ⟨bw, aY⟩ := bv
  refine any_invE mixed [[], [], [], [], [], [], [4, 5], [6], [], [], [8, 9], [10], [0, 1, 4, 5, 6, 7, 11], [0, 1, 4, 5, 6, 7, 11, 12], [0, 1, 2, 3, 4, 5, 6, 7, 8, 9, 10, 11, 12, 13], [0, 1, 2, 3, 4, 5, 6, 7, 8, 9, 10, 11, 12, 13, 14]] 16 (fun S a w1 => ∃ (y : Nat) (z : Nat) (D : Nat) (F : Nat) (ae : Value) (af : Value) (L : Value) (M : Value) (av : Value) (aw : Value) (ap : Value) (ag : Value) (ax : Value) (ay : Value) (aq : Value) (ah : Value) (aa : Value) (H : Value) (aB : Res), Fz.le Z Z ∧ Fr 28 [] [⟨0, [], .slice ao1 b.length cap2⟩, ⟨2, [], i6 c⟩, ⟨3, [], i6 d⟩, ⟨14, [], ae⟩, ⟨15, [], af⟩, ⟨16, [], L⟩, ⟨17, [], M⟩, ⟨18, [], av⟩, ⟨19, [], aw⟩, ⟨20, [], ap⟩, ⟨21, [], ag⟩, ⟨22, [], ax⟩, ⟨23, [], ay⟩, ⟨24, [], aq⟩, ⟨25, [], ah⟩, ⟨26, [], aa⟩, ⟨27, [], H⟩] a ∧ Mem B [] w0 Z0 (aB :: Rr) Z w1 ∧ (S 0 = true → ae = .slice ao1 b.length cap2) ∧ (S 1 = true → af = i6 c) ∧ (S 2 = true → L = .slice ao1 b.length cap2) ∧ (S 3 = true → M = i6 d) ∧ (S 4 = true → av = .slice ao1 b.length cap2) ∧ (S 5 = true → aw = i6 d) ∧ (S 6 = true → ap = .pointer (some ⟨y, d.toNat * 1, none⟩)) ∧ (S 7 = true → ag = i6 l) ∧ (S 8 = true → ax = .slice ao1 b.length cap2) ∧ (S 9 = true → ay = i6 c) ∧ (S 10 = true → aq = .pointer (some ⟨z, c.toNat * 1, none⟩)) ∧ (S 11 = true → ah = i6 E) ∧ (S 12 = true → aa = .pointer (some ⟨D, c.toNat * 1, none⟩)) ∧ (S 14 = true → H = .pointer (some ⟨F, d.toNat * 1, none⟩)) ∧ (S 13 = false → aB = .own t6 3 ao1 cap2 b) ∧ (S 13 = true → S 15 = false → aB = .own t6 3 ao1 cap2 (b.set c.toNat l)) ∧ (S 15 = true → aB = .own t6 3 ao1 cap2 ((b.set c.toNat l).set d.toNat E)) ∧ (S 6 = true → ao1 = some ⟨y, 0, none⟩) ∧ (S 10 = true → ao1 = some ⟨z, 0, none⟩) ∧ (S 12 = true → ao1 = some ⟨D, 0, none⟩) ∧ (S 14 = true → ao1 = some ⟨F, 0, none⟩)) ?h0 ?hs ?hE
  case h0 =>
   have bx := bn.any 14
   have bz := bx.any 15
   have bA := bz.any 16
   have bB := bA.any 17
   have bC := bB.any 18
   have bD := bC.any 19
   have bE := bD.any 20
   have bF := bE.any 21
   have bG := bF.any 22
   have bH := bG.any 23
   have bI := bH.any 24
   have bJ := bI.any 25
   have bK := bJ.any 26
   have bL := bK.any 27
   have bM := (aJ.perm lpr).drew
   exact ⟨0, 0, 0, 0, ad.tmps.getD 14 undef, ad.tmps.getD 15 undef, ad.tmps.getD 16 undef, ad.tmps.getD 17 undef, ad.tmps.getD 18 undef, ad.tmps.getD 19 undef, ad.tmps.getD 20 undef, ad.tmps.getD 21 undef, ad.tmps.getD 22 undef, ad.tmps.getD 23 undef, ad.tmps.getD 24 undef, ad.tmps.getD 25 undef, ad.tmps.getD 26 undef, ad.tmps.getD 27 undef, .own t6 3 ao1 cap2 b, Fz.le.refl _, bL.reg, bM, ff, ff, ff, ff, ff, ff, ff, ff, ff, ff, ff, ff, ff, ff, kf, ff, ff, ff, ff, ff, ff⟩
  case hs =>
   intro S hcl i o hil hi hSi hpre a w1 hI; refine Go.Sy.hid ?_; intro G hG; obtain ⟨y, z, D, F, ae, af, L, M, av, aw, ap, ag, ax, ay, aq, ah, aa, H, aB, n, hFx, hMx, N, O, P, hI⟩ := hI; obtain ⟨Q, R, U, ai, ar, V, W, aj, au, aC, aL, ak, aH, aZ, al, am, aD, hI⟩ := hI; have aM := hI; clear hI
   have hcase : i = 0 ∨ i = 1 ∨ i = 2 ∨ i = 3 ∨ i = 4 ∨ i = 5 ∨ i = 6 ∨ i = 7 ∨ i = 8 ∨ i = 9 ∨ i = 10 ∨ i = 11 ∨ i = 12 ∨ i = 13 ∨ i = 14 ∨ i = 15 := by clear hi; omega
   rcases hcase with rfl | rfl | rfl | rfl | rfl | rfl | rfl | rfl | rfl | rfl | rfl | rfl | rfl | rfl | rfl | rfl
   ·
    obtain rfl := oj hi
    have az := hSi
    have g := ngF hcl 12 0 az
    have j := ngF hcl 13 0 az
    have f := ngF hcl 14 0 az
    have p := ngF hcl 15 0 az
    obtain rfl := ak j
    refine hG (any_step ?_); clear hG G; intro A J hJ
    have m := Fz.le.trans m n
    refine s1 hFx 14 (.slice ao1 b.length cap2) ?_; intro cs bN; clear hFx
    refine nl (qnI (hJ _ _ ?_)); clear hJ J
    exact ⟨y, z, D, F, .slice ao1 b.length cap2, af, L, M, av, aw, ap, ag, ax, ay, aq, ah, aa, H, .own t6 3 ao1 cap2 b, n, bN.reg, hMx.perm lpr, kf, O, P, Q, R, U, ai, ar, V, W, aj, au, (nt g), (nt f), kf, (fun h _ => nt j h), (nt p), al, am, (nt g), (nt f)⟩
   ·
    obtain rfl := oj hi
    have aA := hSi
    have g := ngF hcl 12 1 aA
    have j := ngF hcl 13 1 aA
    have f := ngF hcl 14 1 aA
    have p := ngF hcl 15 1 aA
    obtain rfl := ak j
    refine hG (any_step ?_); clear hG G; intro A J hJ
    have m := Fz.le.trans m n
    refine s1 hFx 15 (i6 c) ?_; intro ct bO; clear hFx
    refine nl (qnI (hJ _ _ ?_)); clear hJ J
    exact ⟨y, z, D, F, ae, i6 c, L, M, av, aw, ap, ag, ax, ay, aq, ah, aa, H, .own t6 3 ao1 cap2 b, n, bO.reg, hMx.perm lpr, N, kf, P, Q, R, U, ai, ar, V, W, aj, au, (nt g), (nt f), kf, (fun h _ => nt j h), (nt p), al, am, (nt g), (nt f)⟩
   ·
    obtain rfl := oj hi
    have aE := hSi
    have f := ngF hcl 14 2 aE
    have p := ngF hcl 15 2 aE
    refine hG (any_step ?_); clear hG G; intro A J hJ
    have m := Fz.le.trans m n
    refine s1 hFx 16 (.slice ao1 b.length cap2) ?_; intro cu bP; clear hFx
    refine nl (qnI (hJ _ _ ?_)); clear hJ J
    exact ⟨y, z, D, F, ae, af, .slice ao1 b.length cap2, M, av, aw, ap, ag, ax, ay, aq, ah, aa, H, aB, n, bP.reg, hMx.perm lpr, N, O, kf, Q, R, U, ai, ar, V, W, aj, au, aC, (nt f), ak, aH, (nt p), al, am, aD, (nt f)⟩
   ·
    obtain rfl := oj hi
    have aF := hSi
    have f := ngF hcl 14 3 aF
    have p := ngF hcl 15 3 aF
    refine hG (any_step ?_); clear hG G; intro A J hJ
    have m := Fz.le.trans m n
    refine s1 hFx 17 (i6 d) ?_; intro cv bQ; clear hFx
    refine nl (qnI (hJ _ _ ?_)); clear hJ J
    exact ⟨y, z, D, F, ae, af, L, i6 d, av, aw, ap, ag, ax, ay, aq, ah, aa, H, aB, n, bQ.reg, hMx.perm lpr, N, O, P, kf, R, U, ai, ar, V, W, aj, au, aC, (nt f), ak, aH, (nt p), al, am, aD, (nt f)⟩
   ·
    obtain rfl := oj hi
    have X := hSi
    have x := ngF hcl 6 4 X
    have I := ngF hcl 7 6 x
    have g := ngF hcl 12 4 X
    have j := ngF hcl 13 4 X
    have f := ngF hcl 14 4 X
    have p := ngF hcl 15 4 X
    obtain rfl := ak j
    refine hG (any_step ?_); clear hG G; intro A J hJ
    have m := Fz.le.trans m n
    refine s1 hFx 18 (.slice ao1 b.length cap2) ?_; intro cw bR; clear hFx
    refine nl (qnI (hJ _ _ ?_)); clear hJ J
    exact ⟨y, z, D, F, ae, af, L, M, .slice ao1 b.length cap2, aw, ap, ag, ax, ay, aq, ah, aa, H, .own t6 3 ao1 cap2 b, n, bR.reg, hMx.perm lpr, N, O, P, Q, kf, U, (nt x), (nt I), V, W, aj, au, (nt g), (nt f), kf, (fun h _ => nt j h), (nt p), (nt x), am, (nt g), (nt f)⟩
   ·
    obtain rfl := oj hi
    have Y := hSi
    have x := ngF hcl 6 5 Y
    have I := ngF hcl 7 6 x
    have g := ngF hcl 12 5 Y
    have j := ngF hcl 13 5 Y
    have f := ngF hcl 14 5 Y
    have p := ngF hcl 15 5 Y
    obtain rfl := ak j
    refine hG (any_step ?_); clear hG G; intro A J hJ
    have m := Fz.le.trans m n
    refine s1 hFx 19 (i6 d) ?_; intro cx bS; clear hFx
    refine nl (qnI (hJ _ _ ?_)); clear hJ J
    exact ⟨y, z, D, F, ae, af, L, M, av, i6 d, ap, ag, ax, ay, aq, ah, aa, H, .own t6 3 ao1 cap2 b, n, bS.reg, hMx.perm lpr, N, O, P, Q, R, kf, (nt x), (nt I), V, W, aj, au, (nt g), (nt f), kf, (fun h _ => nt j h), (nt p), (nt x), am, (nt g), (nt f)⟩
   ·
    obtain rfl := oj hi
    have Y := hpre 5 (by kernel_rfl)
    have X := hpre 4 (by kernel_rfl)
    have x := hSi
    have I := ngF hcl 7 6 x
    have g := ngF hcl 12 6 x
    have j := ngF hcl 13 6 x
    have f := ngF hcl 14 6 x
    have p := ngF hcl 15 6 x
    obtain rfl := R X
    obtain rfl := U Y
    obtain rfl := ak j
    refine hG (any_step ?_); clear hG G; intro A J hJ
    have m := Fz.le.trans m n
    refine ixo hFx hMx 0 (T := t6) (xs := b) d (by simpa only [List.length_set] using bo) (k := .i64) (e := 3) (bytes := 8) (nog rfl _) rfl (by kernel_rfl) rfl (by kernel_rfl) (by kernel_rfl) rfl (by kernel_rfl) ?_; intro a1 cy bT bU; clear hFx
    refine nl (qnI (hJ _ _ ?_)); clear hJ J
    exact ⟨a1, z, D, F, ae, af, L, M, .slice ao1 b.length cap2, i6 d, .pointer (some ⟨a1, d.toNat * 1, none⟩), ag, ax, ay, aq, ah, aa, H, .own t6 3 ao1 cap2 b, n, bU.reg, hMx.perm lpr, N, O, P, Q, kf, kf, kf, (nt I), V, W, aj, au, (nt g), (nt f), kf, (fun h _ => nt j h), (nt p), (fun _ => bT), am, (nt g), (nt f)⟩
   ·
    obtain rfl := oj hi
    have x := hpre 6 (by kernel_rfl)
    have Y := hcl 6 5 (by kernel_rfl) x
    have X := hcl 6 4 (by kernel_rfl) x
    have I := hSi
    have g := ngF hcl 12 7 I
    have j := ngF hcl 13 7 I
    have f := ngF hcl 14 7 I
    have p := ngF hcl 15 7 I
    obtain rfl := R X
    obtain rfl := U Y
    obtain rfl := ai x
    obtain rfl := ak j
    refine hG (any_step ?_); clear hG G; intro A J hJ
    have m := Fz.le.trans m n
    have a2 := al x
    obtain ⟨bV, bW, bX⟩ := own_elx hMx 0 (T := t6) (xs := b) rfl a2 d.toNat bp
    obtain rfl : bV = ([i6 l] : List Value) := bW
    refine lc1 hFx 21 (i6 l) (bX 0 _ rfl) rfl ?_; intro cz bY; clear hFx
    refine nl (qnI (hJ _ _ ?_)); clear hJ J
    exact ⟨y, z, D, F, ae, af, L, M, .slice ao1 b.length cap2, i6 d, .pointer (some ⟨y, d.toNat * 1, none⟩), i6 l, ax, ay, aq, ah, aa, H, .own t6 3 ao1 cap2 b, n, bY.reg, hMx.perm lpr, N, O, P, Q, kf, kf, kf, kf, V, W, aj, au, (nt g), (nt f), kf, (fun h _ => nt j h), (nt p), (fun _ => a2), am, (nt g), (nt f)⟩
   ·
    obtain rfl := oj hi
    have an := hSi
    have q := ngF hcl 10 8 an
    have C := ngF hcl 11 10 q
    have g := ngF hcl 12 11 C
    have j := ngF hcl 13 11 C
    have f := ngF hcl 14 8 an
    have p := ngF hcl 15 8 an
    obtain rfl := ak j
    refine hG (any_step ?_); clear hG G; intro A J hJ
    have m := Fz.le.trans m n
    refine s1 hFx 22 (.slice ao1 b.length cap2) ?_; intro cA bZ; clear hFx
    refine nl (qnI (hJ _ _ ?_)); clear hJ J
    exact ⟨y, z, D, F, ae, af, L, M, av, aw, ap, ag, .slice ao1 b.length cap2, ay, aq, ah, aa, H, .own t6 3 ao1 cap2 b, n, bZ.reg, hMx.perm lpr, N, O, P, Q, R, U, ai, ar, kf, W, (nt q), (nt C), (nt g), (nt f), kf, (fun h _ => nt j h), (nt p), al, (nt q), (nt g), (nt f)⟩
   ·
    obtain rfl := oj hi
    have ao := hSi
    have q := ngF hcl 10 9 ao
    have C := ngF hcl 11 10 q
    have g := ngF hcl 12 11 C
    have j := ngF hcl 13 11 C
    have f := ngF hcl 14 9 ao
    have p := ngF hcl 15 9 ao
    obtain rfl := ak j
    refine hG (any_step ?_); clear hG G; intro A J hJ
    have m := Fz.le.trans m n
    refine s1 hFx 23 (i6 c) ?_; intro cB b0; clear hFx
    refine nl (qnI (hJ _ _ ?_)); clear hJ J
    exact ⟨y, z, D, F, ae, af, L, M, av, aw, ap, ag, ax, i6 c, aq, ah, aa, H, .own t6 3 ao1 cap2 b, n, b0.reg, hMx.perm lpr, N, O, P, Q, R, U, ai, ar, V, kf, (nt q), (nt C), (nt g), (nt f), kf, (fun h _ => nt j h), (nt p), al, (nt q), (nt g), (nt f)⟩
   ·
    obtain rfl := oj hi
    have ao := hpre 9 (by kernel_rfl)
    have an := hpre 8 (by kernel_rfl)
    have q := hSi
    have C := ngF hcl 11 10 q
    have g := ngF hcl 12 11 C
    have j := ngF hcl 13 11 C
    have f := ngF hcl 14 10 q
    have p := ngF hcl 15 10 q
    obtain rfl := V an
    obtain rfl := W ao
    obtain rfl := ak j
    refine hG (any_step ?_); clear hG G; intro A J hJ
    have m := Fz.le.trans m n
    refine ixo hFx hMx 0 (T := t6) (xs := b) c (by simpa only [List.length_set] using br) (k := .i64) (e := 3) (bytes := 8) (nog rfl _) rfl (by kernel_rfl) rfl (by kernel_rfl) (by kernel_rfl) rfl (by kernel_rfl) ?_; intro a3 cC b1 b2; clear hFx
    refine nl (qnI (hJ _ _ ?_)); clear hJ J
    exact ⟨y, a3, D, F, ae, af, L, M, av, aw, ap, ag, .slice ao1 b.length cap2, i6 c, .pointer (some ⟨a3, c.toNat * 1, none⟩), ah, aa, H, .own t6 3 ao1 cap2 b, n, b2.reg, hMx.perm lpr, N, O, P, Q, R, U, ai, ar, kf, kf, kf, (nt C), (nt g), (nt f), kf, (fun h _ => nt j h), (nt p), al, (fun _ => b1), (nt g), (nt f)⟩
   ·
    obtain rfl := oj hi
    have q := hpre 10 (by kernel_rfl)
    have ao := hcl 10 9 (by kernel_rfl) q
    have an := hcl 10 8 (by kernel_rfl) q
    have C := hSi
    have g := ngF hcl 12 11 C
    have j := ngF hcl 13 11 C
    have f := ngF hcl 14 11 C
    have p := ngF hcl 15 11 C
    obtain rfl := V an
    obtain rfl := W ao
    obtain rfl := aj q
    obtain rfl := ak j
    refine hG (any_step ?_); clear hG G; intro A J hJ
    have m := Fz.le.trans m n
    have a4 := am q
    obtain ⟨b3, b4, b5⟩ := own_elx hMx 0 (T := t6) (xs := b) rfl a4 c.toNat bs
    obtain rfl : b3 = ([i6 E] : List Value) := b4
    refine lc1 hFx 25 (i6 E) (b5 0 _ rfl) rfl ?_; intro cD b6; clear hFx
    refine nl (qnI (hJ _ _ ?_)); clear hJ J
    exact ⟨y, z, D, F, ae, af, L, M, av, aw, ap, ag, .slice ao1 b.length cap2, i6 c, .pointer (some ⟨z, c.toNat * 1, none⟩), i6 E, aa, H, .own t6 3 ao1 cap2 b, n, b6.reg, hMx.perm lpr, N, O, P, Q, R, U, ai, ar, kf, kf, kf, kf, (nt g), (nt f), kf, (fun h _ => nt j h), (nt p), al, (fun _ => a4), (nt g), (nt f)⟩
   ·
    obtain rfl := oj hi
    have C := hpre 11 (by kernel_rfl)
    have I := hpre 7 (by kernel_rfl)
    have x := hpre 6 (by kernel_rfl)
    have Y := hpre 5 (by kernel_rfl)
    have X := hpre 4 (by kernel_rfl)
    have aA := hpre 1 (by kernel_rfl)
    have az := hpre 0 (by kernel_rfl)
    have q := hcl 11 10 (by kernel_rfl) C
    have ao := hcl 10 9 (by kernel_rfl) q
    have an := hcl 10 8 (by kernel_rfl) q
    have g := hSi
    have j := ngF hcl 13 12 g
    have f := ngF hcl 14 12 g
    have p := ngF hcl 15 12 g
    obtain rfl := N az
    obtain rfl := O aA
    obtain rfl := R X
    obtain rfl := U Y
    obtain rfl := ai x
    obtain rfl := ar I
    obtain rfl := V an
    obtain rfl := W ao
    obtain rfl := aj q
    obtain rfl := au C
    obtain rfl := ak j
    refine hG (any_step ?_); clear hG G; intro A J hJ
    have m := Fz.le.trans m n
    have b7 := al x
    have b8 := am q
    refine ixo hFx hMx 0 (T := t6) (xs := b) c (by simpa only [List.length_set] using bu) (k := .i64) (e := 3) (bytes := 8) (nog rfl _) rfl (by kernel_rfl) rfl (by kernel_rfl) (by kernel_rfl) rfl (by kernel_rfl) ?_; intro a5 cE b9 ca; clear hFx
    refine nl (qnI (hJ _ _ ?_)); clear hJ J
    exact ⟨y, z, a5, F, .slice ao1 b.length cap2, i6 c, L, M, .slice ao1 b.length cap2, i6 d, .pointer (some ⟨y, d.toNat * 1, none⟩), i6 l, .slice ao1 b.length cap2, i6 c, .pointer (some ⟨z, c.toNat * 1, none⟩), i6 E, .pointer (some ⟨a5, c.toNat * 1, none⟩), H, .own t6 3 ao1 cap2 b, n, ca.reg, hMx.perm lpr, kf, kf, P, Q, kf, kf, kf, kf, kf, kf, kf, kf, kf, (nt f), kf, (fun h _ => nt j h), (nt p), (fun _ => b7), (fun _ => b8), (fun _ => b9), (nt f)⟩
   ·
    obtain rfl := oj hi
    have g := hpre 12 (by kernel_rfl)
    have C := hpre 11 (by kernel_rfl)
    have I := hpre 7 (by kernel_rfl)
    have x := hpre 6 (by kernel_rfl)
    have Y := hpre 5 (by kernel_rfl)
    have X := hpre 4 (by kernel_rfl)
    have aA := hpre 1 (by kernel_rfl)
    have az := hpre 0 (by kernel_rfl)
    have q := hcl 11 10 (by kernel_rfl) C
    have ao := hcl 10 9 (by kernel_rfl) q
    have an := hcl 10 8 (by kernel_rfl) q
    have j := hSi
    have f := ngF hcl 14 13 j
    have p := ngF hcl 15 13 j
    obtain rfl := N az
    obtain rfl := O aA
    obtain rfl := R X
    obtain rfl := U Y
    obtain rfl := ai x
    obtain rfl := ar I
    obtain rfl := V an
    obtain rfl := W ao
    obtain rfl := aj q
    obtain rfl := au C
    obtain rfl := aC g
    obtain rfl := ak j
    refine hG (any_step ?_); clear hG G; intro A J hJ
    have m := Fz.le.trans m n
    have cb := al x
    have cc := am q
    have a6 := aD g
    refine sox hFx hMx 0 a6 (T := t6) (xs := b) c.toNat l (u := i6 l) (nog rfl _) rfl rfl (by kernel_rfl) rfl (by kernel_rfl) rfl (by kernel_rfl) (by first | omega | (simp only [List.length_set] at *; omega)) rfl ?_; intro cF ce; clear hMx
    refine nl (qnI (hJ _ _ ?_)); clear hJ J
    exact ⟨y, z, D, F, .slice ao1 b.length cap2, i6 c, L, M, .slice ao1 b.length cap2, i6 d, .pointer (some ⟨y, d.toNat * 1, none⟩), i6 l, .slice ao1 b.length cap2, i6 c, .pointer (some ⟨z, c.toNat * 1, none⟩), i6 E, .pointer (some ⟨D, c.toNat * 1, none⟩), H, .own t6 3 ao1 cap2 (b.set c.toNat l), n, hFx.reg, ce.perm lpr, kf, kf, P, Q, kf, kf, kf, kf, kf, kf, kf, kf, kf, (nt f), nu, kf2, (nt p), (fun _ => cb), (fun _ => cc), (fun _ => a6), (nt f)⟩
   ·
    obtain rfl := oj hi
    have j := hpre 13 (by kernel_rfl)
    have g := hpre 12 (by kernel_rfl)
    have C := hpre 11 (by kernel_rfl)
    have q := hpre 10 (by kernel_rfl)
    have ao := hpre 9 (by kernel_rfl)
    have an := hpre 8 (by kernel_rfl)
    have I := hpre 7 (by kernel_rfl)
    have x := hpre 6 (by kernel_rfl)
    have Y := hpre 5 (by kernel_rfl)
    have X := hpre 4 (by kernel_rfl)
    have aF := hpre 3 (by kernel_rfl)
    have aE := hpre 2 (by kernel_rfl)
    have aA := hpre 1 (by kernel_rfl)
    have az := hpre 0 (by kernel_rfl)
    have f := hSi
    have p := ngF hcl 15 14 f
    obtain rfl := N az
    obtain rfl := O aA
    obtain rfl := P aE
    obtain rfl := Q aF
    obtain rfl := R X
    obtain rfl := U Y
    obtain rfl := ai x
    obtain rfl := ar I
    obtain rfl := V an
    obtain rfl := W ao
    obtain rfl := aj q
    obtain rfl := au C
    obtain rfl := aC g
    obtain rfl := aH j p
    refine hG (any_step ?_); clear hG G; intro A J hJ
    have m := Fz.le.trans m n
    have cf := al x
    have cg := am q
    have ch := aD g
    have ab : (b.set c.toNat l).length = b.length := by first | assumption | omega | (dsimp only at *; omega) | (simp; try omega)
    have a7 : Fr 28 [] [⟨0, [], .slice ao1 (b.set c.toNat l).length cap2⟩, ⟨2, [], i6 c⟩, ⟨3, [], i6 d⟩, ⟨14, [], .slice ao1 (b.set c.toNat l).length cap2⟩, ⟨15, [], i6 c⟩, ⟨16, [], .slice ao1 (b.set c.toNat l).length cap2⟩, ⟨17, [], i6 d⟩, ⟨18, [], .slice ao1 (b.set c.toNat l).length cap2⟩, ⟨19, [], i6 d⟩, ⟨20, [], .pointer (some ⟨y, d.toNat * 1, none⟩)⟩, ⟨21, [], i6 l⟩, ⟨22, [], .slice ao1 (b.set c.toNat l).length cap2⟩, ⟨23, [], i6 c⟩, ⟨24, [], .pointer (some ⟨z, c.toNat * 1, none⟩)⟩, ⟨25, [], i6 E⟩, ⟨26, [], .pointer (some ⟨D, c.toNat * 1, none⟩)⟩, ⟨27, [], H⟩] a := by rw [ab]; exact hFx.reg
    clear hFx
    refine ixo a7 hMx 0 (T := t6) (xs := b.set c.toNat l) d (by simpa only [List.length_set] using bw) (k := .i64) (e := 3) (bytes := 8) (nog rfl _) rfl (by kernel_rfl) rfl (by kernel_rfl) (by kernel_rfl) rfl (by kernel_rfl) ?_; intro a8 cG ci a9; clear a7
    refine nl (qnI (hJ _ _ ?_)); clear hJ J
    rw [ab] at a9
    exact ⟨y, z, D, a8, .slice ao1 b.length cap2, i6 c, .slice ao1 b.length cap2, i6 d, .slice ao1 b.length cap2, i6 d, .pointer (some ⟨y, d.toNat * 1, none⟩), i6 l, .slice ao1 b.length cap2, i6 c, .pointer (some ⟨z, c.toNat * 1, none⟩), i6 E, .pointer (some ⟨D, c.toNat * 1, none⟩), .pointer (some ⟨a8, d.toNat * 1, none⟩), .own t6 3 ao1 cap2 (b.set c.toNat l), n, a9.reg, hMx.perm lpr, (fun _ => by first | rfl | rw [ab]), (fun _ => by first | rfl | rw [ab]), (fun _ => by first | rfl | rw [ab]), (fun _ => by first | rfl | rw [ab]), (fun _ => by first | rfl | rw [ab]), (fun _ => by first | rfl | rw [ab]), (fun _ => by first | rfl | rw [ab]), (fun _ => by first | rfl | rw [ab]), (fun _ => by first | rfl | rw [ab]), (fun _ => by first | rfl | rw [ab]), (fun _ => by first | rfl | rw [ab]), (fun _ => by first | rfl | rw [ab]), (fun _ => by first | rfl | rw [ab]), (fun _ => by first | rfl | rw [ab]), (tn j), kf2, (nt p), (fun _ => cf), (fun _ => cg), (fun _ => ch), (fun _ => ci)⟩
   obtain rfl := oj hi
   have f := hpre 14 (by kernel_rfl)
   have j := hpre 13 (by kernel_rfl)
   have g := hpre 12 (by kernel_rfl)
   have C := hpre 11 (by kernel_rfl)
   have q := hpre 10 (by kernel_rfl)
   have ao := hpre 9 (by kernel_rfl)
   have an := hpre 8 (by kernel_rfl)
   have I := hpre 7 (by kernel_rfl)
   have x := hpre 6 (by kernel_rfl)
   have Y := hpre 5 (by kernel_rfl)
   have X := hpre 4 (by kernel_rfl)
   have aF := hpre 3 (by kernel_rfl)
   have aE := hpre 2 (by kernel_rfl)
   have aA := hpre 1 (by kernel_rfl)
   have az := hpre 0 (by kernel_rfl)
   have p := hSi
   obtain rfl := N az
   obtain rfl := O aA
   obtain rfl := P aE
   obtain rfl := Q aF
   obtain rfl := R X
   obtain rfl := U Y
   obtain rfl := ai x
   obtain rfl := ar I
   obtain rfl := V an
   obtain rfl := W ao
   obtain rfl := aj q
   obtain rfl := au C
   obtain rfl := aC g
   obtain rfl := aL f
   obtain rfl := aH j p
   refine hG (any_step ?_); clear hG G; intro A J hJ
   have m := Fz.le.trans m n
   have cj := al x
   have ck := am q
   have cl := aD g
   have ba := aM f
   have ac : (b.set c.toNat l).length = b.length := by first | assumption | omega | (dsimp only at *; omega) | (simp; try omega)
   have aN : Fr 28 [] [⟨0, [], .slice ao1 (b.set c.toNat l).length cap2⟩, ⟨2, [], i6 c⟩, ⟨3, [], i6 d⟩, ⟨14, [], .slice ao1 (b.set c.toNat l).length cap2⟩, ⟨15, [], i6 c⟩, ⟨16, [], .slice ao1 (b.set c.toNat l).length cap2⟩, ⟨17, [], i6 d⟩, ⟨18, [], .slice ao1 (b.set c.toNat l).length cap2⟩, ⟨19, [], i6 d⟩, ⟨20, [], .pointer (some ⟨y, d.toNat * 1, none⟩)⟩, ⟨21, [], i6 l⟩, ⟨22, [], .slice ao1 (b.set c.toNat l).length cap2⟩, ⟨23, [], i6 c⟩, ⟨24, [], .pointer (some ⟨z, c.toNat * 1, none⟩)⟩, ⟨25, [], i6 E⟩, ⟨26, [], .pointer (some ⟨D, c.toNat * 1, none⟩)⟩, ⟨27, [], .pointer (some ⟨F, d.toNat * 1, none⟩)⟩] a := by rw [ac]; exact hFx.reg
   clear hFx
   refine sox aN hMx 0 ba (T := t6) (xs := b.set c.toNat l) d.toNat E (u := i6 E) (nog rfl _) rfl rfl (by kernel_rfl) rfl (by kernel_rfl) rfl (by kernel_rfl) (by first | omega | (simp only [List.length_set] at *; omega)) rfl ?_; intro cH cm; clear hMx
   refine nl (qnI (hJ _ _ ?_)); clear hJ J
   rw [ac] at aN
   exact ⟨y, z, D, F, .slice ao1 b.length cap2, i6 c, .slice ao1 b.length cap2, i6 d, .slice ao1 b.length cap2, i6 d, .pointer (some ⟨y, d.toNat * 1, none⟩), i6 l, .slice ao1 b.length cap2, i6 c, .pointer (some ⟨z, c.toNat * 1, none⟩), i6 E, .pointer (some ⟨D, c.toNat * 1, none⟩), .pointer (some ⟨F, d.toNat * 1, none⟩), .own t6 3 ao1 cap2 ((b.set c.toNat l).set d.toNat E), n, aN.reg, cm.perm lpr, (fun _ => by first | rfl | rw [ac]), (fun _ => by first | rfl | rw [ac]), (fun _ => by first | rfl | rw [ac]), (fun _ => by first | rfl | rw [ac]), (fun _ => by first | rfl | rw [ac]), (fun _ => by first | rfl | rw [ac]), (fun _ => by first | rfl | rw [ac]), (fun _ => by first | rfl | rw [ac]), (fun _ => by first | rfl | rw [ac]), (fun _ => by first | rfl | rw [ac]), (fun _ => by first | rfl | rw [ac]), (fun _ => by first | rfl | rw [ac]), (fun _ => by first | rfl | rw [ac]), (fun _ => by first | rfl | rw [ac]), (tn j), (fun _ => nu), kf, (fun _ => cj), (fun _ => ck), (fun _ => cl), (fun _ => ba)⟩
  case hE =>
   intro S hS bb cI hI; refine Go.Sy.hid ?_; intro G hG; obtain ⟨y, z, D, F, ae, af, L, M, av, aw, ap, ag, ax, ay, aq, ah, aa, H, aB, n, hFx, hMx, N, O, P, hI⟩ := hI; obtain ⟨Q, R, U, ai, ar, V, W, aj, au, aC, aL, ak, aH, aZ, al, am, aD, hI⟩ := hI; have aM := hI; clear hI; refine hG ?_; clear hG G
   obtain rfl := N (hS 0 (by decide))
   obtain rfl := O (hS 1 (by decide))
   obtain rfl := P (hS 2 (by decide))
   obtain rfl := Q (hS 3 (by decide))
   obtain rfl := R (hS 4 (by decide))
   obtain rfl := U (hS 5 (by decide))
   obtain rfl := ai (hS 6 (by decide))
   obtain rfl := ar (hS 7 (by decide))
   obtain rfl := V (hS 8 (by decide))
   obtain rfl := W (hS 9 (by decide))
   obtain rfl := aj (hS 10 (by decide))
   obtain rfl := au (hS 11 (by decide))
   obtain rfl := aC (hS 12 (by decide))
   obtain rfl := aL (hS 14 (by decide))
   obtain rfl := aZ (hS 15 (by decide))
   have m := Fz.le.trans m n
   have cJ := al (hS 6 (by decide))
   have cK := am (hS 10 (by decide))
   have cL := aD (hS 12 (by decide))
   have cM := aM (hS 14 (by decide))
   have cn : ((b.set c.toNat l).set d.toNat E).length = b.length := by first | assumption | omega | (dsimp only at *; omega) | (simp; try omega)
   have bc : Fr 28 [] [⟨0, [], .slice ao1 ((b.set c.toNat l).set d.toNat E).length cap2⟩, ⟨2, [], i6 c⟩, ⟨3, [], i6 d⟩, ⟨14, [], .slice ao1 ((b.set c.toNat l).set d.toNat E).length cap2⟩, ⟨15, [], i6 c⟩, ⟨16, [], .slice ao1 ((b.set c.toNat l).set d.toNat E).length cap2⟩, ⟨17, [], i6 d⟩, ⟨18, [], .slice ao1 ((b.set c.toNat l).set d.toNat E).length cap2⟩, ⟨19, [], i6 d⟩, ⟨20, [], .pointer (some ⟨y, d.toNat * 1, none⟩)⟩, ⟨21, [], i6 l⟩, ⟨22, [], .slice ao1 ((b.set c.toNat l).set d.toNat E).length cap2⟩, ⟨23, [], i6 c⟩, ⟨24, [], .pointer (some ⟨z, c.toNat * 1, none⟩)⟩, ⟨25, [], i6 E⟩, ⟨26, [], .pointer (some ⟨D, c.toNat * 1, none⟩)⟩, ⟨27, [], .pointer (some ⟨F, d.toNat * 1, none⟩)⟩] bb := by rw [cn]; exact hFx.reg
   clear hFx
   refine ibn ?_
   refine thn ?_
   have bd : Fr 28 [] [⟨0, [], .slice ao1 ((b.set c.toNat l).set d.toNat E).length cap2⟩, ⟨2, [], i6 c⟩, ⟨3, [], i6 d⟩] bb := bc.reg; clear bc
   refine rgB bd hMx [] [] [(2, i6 (w64 (c + 1))), (3, i6 (w64 (d - 1)))] ?_; intro cN co; clear bd
   refine rd ?_
   exact ⟨⟨w64 (c + 1), w64 (d - 1), (b.set c.toNat l).set d.toNat E⟩, aY.1, aY.2, (co.reg).anyβ _ (by kernel_rfl), hMx.keep (List.Sublist.cons_cons _ (List.Sublist.refl _))⟩
 have cp := aI.2 aK; clear aI
 refine wp_exit ?_
 refine thx ?_
 refine thx ?_
 refine ibx ?_
 obtain ⟨cq, cr⟩ := cp
 refine rN (fn := Tryd.f90) (v := .tuple #[]) aG (re0 aG (fn := Tryd.f90) rfl) ?_
 exact ⟨b, Z, rfl, cr, m, cq, aJ.keep (List.Sublist.cons_cons _ (List.Sublist.refl _))⟩

end Go.Proofs.YtdndfbamhnchfaaDoor
set_option linter.unusedVariables false
set_option linter.unusedSimpArgs false
set_option maxRecDepth 100000
set_option maxHeartbeats 0
namespace Go.Proofs.YtdndfbamhnchfaaDoor
open Go.Sy Go.RowKit
abbrev e23A (X : Signal) : List Value := [str X.Name, i6 X.Start, i6 X.Size, .bool X.Back, .bool X.Signed, i6 X.Mul, i6 X.Div, i6 X.Add, i6 X.Key]
theorem irev_fun (u0 : List Int) (ao1 : Option Addr) (cap2 : Nat) (B : Nat) (w0 : World) (Z0 : Fz) (Rr : List Res) (Z : Fz) (w : World) (hM0 : Mem B [] w0 Z0 ((.own t6 3 ao1 cap2 u0) :: Rr) Z w) (hZ : Z.on w) : Calls Tryd.prog 90 #[.slice ao1 u0.length cap2] w fun e w' => ∃ (Z' : Fz), e = .returned (.tuple #[]) ∧ Fz.le Z Z' ∧ ((irevS u0).length = u0.length) ∧ Mem B [] w0 Z0 ((.own t6 3 ao1 cap2 (irevS u0)) :: Rr) Z' w' :=
  (irev_walk u0 ao1 cap2 B w0 Z0 Rr Z w hM0 hZ (irev_ok u0)).mono fun _ _ ⟨r, h0, he, hk, f0, f1, hm⟩ => by subst hk; exact ⟨h0, he, f0, f1, hm⟩

theorem sgcd_fun (u0 : Int) (u1 : Int) (hpre : (-4611686018427387904 ≤ u0 ∧ u0 ≤ 4611686018427387904) ∧ -4611686018427387904 ≤ u1 ∧ u1 ≤ 4611686018427387904)  (Z : Fz) (w : World)  (hZ : Z.on w) : Calls Tryd.prog 45 #[i6 u0, i6 u1] w fun e w' => e = .returned (i6 (ngcd u0 u1)) ∧ Below w.heap.size w w' :=
  (sgcd_walk u0 u1  Z w  hZ (sgcd_ok u0 u1 hpre)).mono fun _ _ ⟨r, he, hk, hb⟩ => ⟨by subst hk; exact he, hb⟩

theorem sbounds_fun (u0 : Signal) (hpre : 1 ≤ u0.Size ∧ u0.Size ≤ 40)  (Z : Fz) (w : World)  (hZ : Z.on w) : Calls Tryd.prog 46 #[.agg #[str u0.Name, i6 u0.Start, i6 u0.Size, .bool u0.Back, .bool u0.Signed, i6 u0.Mul, i6 u0.Div, i6 u0.Add, i6 u0.Key]] w fun e w' => e = .returned (.tuple #[i6 (boundsS u0).1, i6 (boundsS u0).2]) ∧ Below w.heap.size w w' :=
  (sbounds_walk u0  Z w  hZ (sbounds_ok u0 hpre)).mono fun _ _ ⟨r, he, hk, hb⟩ => ⟨by subst hk; exact he, hb⟩

theorem sname_fun (u0 : List UInt8)  (Z : Fz) (w : World)  (hZ : Z.on w) : Calls Tryd.prog 20 #[str u0] w fun e w' => e = .returned (.bool (nameS u0)) ∧ Below w.heap.size w w' :=
  (sname_walk u0  Z w  hZ (sname_ok u0)).mono fun _ _ ⟨r, he, hk, hb⟩ => ⟨by subst hk; exact he, hb⟩

theorem imax_fun (u0 : List Int) (hpre : 0 < u0.length) (ao1 : Option Addr) (cap2 : Nat) (Z : Fz) (w : World) (hs3 : SlR t6 Z ao1 cap2 u0) (hZ : Z.on w) : Calls Tryd.prog 58 #[.slice ao1 u0.length cap2] w fun e w' => e = .returned (i6 (maxL u0)) ∧ Below w.heap.size w w' :=
  (imax_walk u0 ao1 cap2 Z w hs3 hZ (imax_ok u0 hpre)).mono fun _ _ ⟨r, he, hk, hb⟩ => ⟨by subst hk; exact he, hb⟩

theorem imin_fun (u0 : List Int) (hpre : 0 < u0.length) (ao1 : Option Addr) (cap2 : Nat) (Z : Fz) (w : World) (hs3 : SlR t6 Z ao1 cap2 u0) (hZ : Z.on w) : Calls Tryd.prog 59 #[.slice ao1 u0.length cap2] w fun e w' => e = .returned (i6 (minL u0)) ∧ Below w.heap.size w w' :=
  (imin_walk u0 ao1 cap2 Z w hs3 hZ (imin_ok u0 hpre)).mono fun _ _ ⟨r, he, hk, hb⟩ => ⟨by subst hk; exact he, hb⟩

theorem bclone_fun (u0 : List Int) (hpre : u0.length ≤ 140737488355328) (ao1 : Option Addr) (cap2 : Nat) (Z : Fz) (w : World) (hs3 : SlR t8 Z ao1 cap2 u0) (hZ : Z.on w) : Calls Tryd.prog 12 #[.slice ao1 u0.length cap2] w fun e w' => ∃ (ao1001 : Option Addr) (cap1002 : Nat) (Z' : Fz), e = .returned (.slice ao1001 (bcloneS u0).length cap1002) ∧ Mem w.heap.size [] w Z [.own t8 5 ao1001 cap1002 (bcloneS u0)] Z' w' :=
  (bclone_walk u0 ao1 cap2 Z w hs3 hZ (bclone_ok u0 hpre)).mono fun _ _ ⟨r, h0, h1, h2, he, hk, hm⟩ => by subst hk; exact ⟨h0, h1, h2, he, hm⟩

theorem beq_fun (u0 : List Int) (u1 : List Int) (ao1 : Option Addr) (cap2 : Nat) (ao4 : Option Addr) (cap5 : Nat) (Z : Fz) (w : World) (hs3 : SlR t8 Z ao1 cap2 u0) (hs6 : SlR t8 Z ao4 cap5 u1) (hZ : Z.on w) : Calls Tryd.prog 15 #[.slice ao1 u0.length cap2, .slice ao4 u1.length cap5] w fun e w' => e = .returned (.bool (beqS u0 u1)) ∧ Below w.heap.size w w' :=
  (beq_walk u0 u1 ao1 cap2 ao4 cap5 Z w hs3 hs6 hZ (beq_ok u0 u1)).mono fun _ _ ⟨r, he, hk, hb⟩ => ⟨by subst hk; exact he, hb⟩

theorem splaces_walk (u0 : Signal)  (Z : Fz) (w : World)  (hZ : Z.on w) {K : (List Int) → Prop} (hp : splaces_vc u0 K) : Calls Tryd.prog 57 #[.agg #[str u0.Name, i6 u0.Start, i6 u0.Size, .bool u0.Back, .bool u0.Signed, i6 u0.Mul, i6 u0.Div, i6 u0.Add, i6 u0.Key]] w fun e w' => ∃ (r : (List Int)) (ao1001 : Option Addr) (cap1002 : Nat) (Z' : Fz), e = .returned (.slice ao1001 r.length cap1002) ∧ K r ∧ Mem w.heap.size [] w Z [.own t6 3 ao1001 cap1002 r] Z' w' := by
 refine enter0 Tryd.func57 rfl rfl (by kernel_rfl) ?_; intro a0 G; have H := Mem.start w Z hZ; have I := Fz.le.refl Z
 refine sqH ?_; intro ax J
 refine nw G H pb (e23A u0) 23 ?_; intro i a3 ay L k; clear G H
 refine s1 L 2 (.slice none 0 0) ?_; intro a7 M; clear L
 refine nlH (J _ _ ?_); clear J ax
 refine sqB M k [] [] [(3, .slice none 0 0)] ?_; intro aW N; clear M
 refine sqB N k [0] [] [(4, i6 u0.Start)] ?_; intro aX O; clear N
 refine wp_seq ?_
 refine sqB O k [0] [] [(8, i6 u0.Size), (9, i6 0)] ?_; intro P Q; clear O
 refine wp_block ?_
 have R : Fr 35 [] [⟨1, [], pt i 0⟩, ⟨3, [], .slice none 0 0⟩, ⟨4, [], i6 u0.Start⟩, ⟨8, [], i6 u0.Size⟩, ⟨9, [], i6 0⟩] P := Q.region (by kernel_rfl) (by kernel_rfl); clear Q
 have S : Mem w.heap.size [] w Z [.own t6 3 none 0 ([] : List Int), .row i (e23A u0) 23] Z ay := k.addNil t6 3 (by decide); clear k
 have U : Fr 35 [] [⟨1, [], pt i 0⟩, ⟨3, [], .slice none ([] : List Int).length 0⟩, ⟨4, [], i6 u0.Start⟩, ⟨8, [], i6 u0.Size⟩, ⟨9, [], i6 0⟩] P := R.region (by kernel_rfl) (by kernel_rfl); clear R
 obtain ⟨az, aA, aB, aC⟩ := hp
 refine lp (ι := (List Int) × Int × Int × (Option Addr) × Nat) (fun s => [⟨1, [], pt i 0⟩, ⟨3, [], .slice s.2.2.2.1 s.1.length s.2.2.2.2⟩, ⟨4, [], i6 s.2.1⟩, ⟨8, [], i6 u0.Size⟩, ⟨9, [], i6 s.2.2.1⟩]) (fun s => [.own t6 3 s.2.2.2.1 s.2.2.2.2 s.1, .row i (e23A u0) 23]) (fun s => Z) (fun s => az s.1 s.2.1 s.2.2.1) (fun s => aA s.1 s.2.1 s.2.2.1) ⟨([] : List Int), u0.Start, 0, none, 0⟩ aB (by exact U.region (by kernel_rfl) (by kernel_rfl)) (by exact S) ?_
 rintro ⟨a, c, g, d, f⟩ aD aE aF V W
 have X : Fr 35 [] [⟨1, [], pt i 0⟩, ⟨3, [], .slice d a.length f⟩, ⟨4, [], i6 c⟩, ⟨8, [], i6 u0.Size⟩, ⟨9, [], i6 g⟩] aE := V; clear V U
 have j : Mem w.heap.size [] w Z [.own t6 3 d f a, .row i (e23A u0) 23] Z aF := W; clear W S
 have u := aC a c g aD
 refine sqB X j [] [] [(10, .bool (decide (g < u0.Size)))] ?_; intro aY l; clear X
 refine wp_seq ?_
 refine cd l (t := decide (g < u0.Size)) (by kernel_rfl) (fun A => ?_) (fun A => ?_)
 · -- yes
  have aG := u.1 A; clear u
  refine wp_skip ?_
  refine thn ?_
  refine wp_seq ?_
  refine wp_block ?_
  refine sqH ?_; intro aH Y
  refine bt l j 2 [] [] [(11, .slice d a.length f), (12, i6 c)] ?_; intro aZ aa; clear l
  refine nw aa j (fun b => .slice (sm b) 1 1) [i6 c] 3 ?_; intro ab a1 a2 ac B; clear aa j
  obtain ⟨aI, v⟩ := aG
  refine ap ac B 1 (T := t6) (xs := a) (ys := [c]) (ao := d) (cap := f) (ao2 := (sm ab)) (cap2 := 1) (t := 43) (e := 3) (bytes := 8) (nog rfl _) rfl (by kernel_rfl) rfl (by kernel_rfl) (by kernel_rfl) (by kernel_rfl) rfl (Src.row B 0 rfl (RepAll.one (T := t6) (x := c) rfl)) aI ?_; intro m n a4 aJ a5 ad ae; clear ac B
  have h : Mem w.heap.size [] w Z [.row ab [i6 c] 3, .own t6 3 m n (a ++ [c]), .row i (e23A u0) 23] Z aJ := ae; clear ae
  refine s1 ad 3 (.slice m (a ++ [c]).length n) ?_; intro a6 af; clear ad
  refine nlH (Y _ _ ?_); clear Y aH
  refine wp_block ?_
  refine sqB af h [2] [] [(17, .bool (!u0.Back))] ?_; intro a8 o; clear af
  refine cd o (t := !u0.Back) (by kernel_rfl) (fun C => ?_) (fun C => ?_)
  · -- yes
   have ag := v.1 C; clear v
   refine rgB o h [] [] [(4, i6 (w64 (c + 1)))] ?_; intro a9 ah; clear o
   refine ibn ?_
   refine ibn ?_
   refine thn ?_
   refine rgB ah h [] [] [(9, i6 (w64 (g + 1)))] ?_; intro ba aK; clear ah
   refine rd ?_
   exact ⟨⟨a ++ [c], w64 (c + 1), w64 (g + 1), m, n⟩, ag.1, ag.2, (aK.region (by kernel_rfl) (by kernel_rfl)).anyβ _ (by kernel_rfl), h.keep (List.Sublist.cons _ (List.Sublist.cons_cons _ (List.Sublist.cons_cons _ (List.Sublist.slnil))))⟩
  · -- no
   have y := v.2 C; clear v
   refine sqB o h [] [] [(23, .bool ((c.tmod 8) == 0))] ?_; intro bb p; clear o
   refine cd p (t := (c.tmod 8) == 0) (by kernel_rfl) (fun D => ?_) (fun D => ?_)
   · -- yes
    have ai := y.1 D; clear y
    refine rgB p h [] [] [(4, i6 (w64 (c + 15)))] ?_; intro bc aj; clear p
    refine ibn ?_
    refine ibn ?_
    refine thn ?_
    refine rgB aj h [] [] [(9, i6 (w64 (g + 1)))] ?_; intro bd aL; clear aj
    refine rd ?_
    exact ⟨⟨a ++ [c], w64 (c + 15), w64 (g + 1), m, n⟩, ai.1, ai.2, (aL.region (by kernel_rfl) (by kernel_rfl)).anyβ _ (by kernel_rfl), h.keep (List.Sublist.cons _ (List.Sublist.cons_cons _ (List.Sublist.cons_cons _ (List.Sublist.slnil))))⟩
   · -- no
    have ak := y.2 D; clear y
    refine rgB p h [] [] [(4, i6 (w64 (c - 1)))] ?_; intro be al; clear p
    refine ibn ?_
    refine ibn ?_
    refine thn ?_
    refine rgB al h [] [] [(9, i6 (w64 (g + 1)))] ?_; intro bf aM; clear al
    refine rd ?_
    exact ⟨⟨a ++ [c], w64 (c - 1), w64 (g + 1), m, n⟩, ak.1, ak.2, (aM.region (by kernel_rfl) (by kernel_rfl)).anyβ _ (by kernel_rfl), h.keep (List.Sublist.cons _ (List.Sublist.cons_cons _ (List.Sublist.cons_cons _ (List.Sublist.slnil))))⟩
 · -- no
  have z := u.2 A; clear u
  refine wp_exit ?_
  refine thx ?_
  refine thx ?_
  refine ibx ?_
  refine thn ?_
  refine wp_seq ?_
  refine sqB l j [1] [] [(31, .bool u0.Back)] ?_; intro bg q; clear l
  refine cd q (t := u0.Back) (by kernel_rfl) (fun E => ?_) (fun E => ?_)
  · -- yes
   have am := z.1 E; clear z
   refine rgH ?_; intro aN an
   refine s1 q 32 (.slice d a.length f) ?_; intro bh aq; clear q
   refine ck aq 90 #[.slice d a.length f] ?_
   refine (irev_fun a d f _ _ _ _ _ _ j j.fz).mono ?_; rintro _ aO ⟨ar, rfl, aP, aQ, hm⟩; refine ⟨_, rfl, ?_⟩; intro aR au; have av := hm; clear hm j aq
   replace I := Fz.le.trans I aP
   have aw : Fr 35 [] [⟨1, [], pt i 0⟩, ⟨3, [], .slice d (irevS a).length f⟩, ⟨4, [], i6 c⟩, ⟨8, [], i6 u0.Size⟩, ⟨9, [], i6 g⟩, ⟨10, [], .bool (decide (g < u0.Size))⟩, ⟨31, [], .bool u0.Back⟩, ⟨32, [], .slice d (irevS a).length f⟩, ⟨33, [], .tuple #[]⟩] aR := by rw [aQ]; exact au.region (by kernel_rfl) (by kernel_rfl)
   clear au
   have F : Mem w.heap.size [] w Z [.own t6 3 d f (irevS a), .row i (e23A u0) 23] ar aO := av; clear av
   have aS := am (F.ownSmall 0 rfl); clear am
   refine nlH (an _ _ ?_); clear an aN
   refine thn ?_
   refine sqB aw F [] [] [(2, .slice d (irevS a).length f)] ?_; intro bi aT; clear aw
   refine wp_ret ?_
   refine ra1 aT (.slice d (irevS a).length f) ?_
   exact ⟨(irevS a), d, f, ar, rfl, aS, F.keep (List.Sublist.cons_cons _ (List.Sublist.cons _ (List.Sublist.slnil)))⟩
  · -- no
   have aU := z.2 E; clear z
   refine wp_skip ?_
   refine thn ?_
   refine sqB q j [] [] [(2, .slice d a.length f)] ?_; intro bj aV; clear q
   refine wp_ret ?_
   refine ra1 aV (.slice d a.length f) ?_
   exact ⟨a, d, f, Z, rfl, aU, j.keep (List.Sublist.cons_cons _ (List.Sublist.cons _ (List.Sublist.slnil)))⟩

theorem smean_walk (u0 : Signal) (u1 : Int)  (Z : Fz) (w : World)  (hZ : Z.on w) {K : Reading → Prop} (hp : smean_vc u0 u1 K) : Calls Tryd.prog 36 #[.agg #[str u0.Name, i6 u0.Start, i6 u0.Size, .bool u0.Back, .bool u0.Signed, i6 u0.Mul, i6 u0.Div, i6 u0.Add, i6 u0.Key], i6 u1] w fun e w' => ∃ r : Reading, e = .returned (.agg #[str r.Name, i6 r.Num, i6 r.Den]) ∧ K r ∧ Below w.heap.size w w' := by
 refine enter0 Tryd.func36 rfl rfl (by kernel_rfl) ?_; intro a0 o; have p := Mem.start w Z hZ; have an := Fz.le.refl Z
 refine sqH ?_; intro X q
 refine nw o p pb (e23A u0) 23 ?_; intro a a3 ao s t; clear o p
 refine nw s t pb [str [], i6 0, i6 0] 26 ?_; intro c Y ap u x; clear s t
 refine nlH (q _ _ ?_); clear q X
 have y : Fr 32 [] [⟨1, [], i6 u1⟩, ⟨2, [], pt a 0⟩, ⟨4, [], pt c 0⟩] Y := u.region (by kernel_rfl) (by kernel_rfl); clear u
 refine sqQH mixed (by kernel_rfl) x ?_; intro aa z
 refine q1 y 8 (i6 u1) ?_; intro aq A; clear y
 refine q1 A 9 (pt a 5) ?_; intro ar f; clear A
 refine qst f (i6 u0.Mul) (nog rfl _) rfl (by kernel_rfl) (fun v20 hC => ld f hC 1 (g := []) (b := a) (off := 5) (cs := (e23A u0)) (ty := 23) rfl (by kernel_rfl) (by kernel_rfl) (by kernel_rfl) (by kernel_rfl) rfl) ?_; intro au B; clear f
 refine q1 B 11 (i6 (w64 (u1 * u0.Mul))) ?_; intro av C; clear B
 refine q1 C 12 (pt a 7) ?_; intro aw h; clear C
 refine qst h (i6 u0.Add) (nog rfl _) rfl (by kernel_rfl) (fun v29 hC => ld h hC 1 (g := []) (b := a) (off := 7) (cs := (e23A u0)) (ty := 23) rfl (by kernel_rfl) (by kernel_rfl) (by kernel_rfl) (by kernel_rfl) rfl) ?_; intro ax D; clear h
 refine q1 D 14 (pt a 6) ?_; intro ay i; clear D
 refine qst i (i6 u0.Div) (nog rfl _) rfl (by kernel_rfl) (fun v35 hC => ld i hC 1 (g := []) (b := a) (off := 6) (cs := (e23A u0)) (ty := 23) rfl (by kernel_rfl) (by kernel_rfl) (by kernel_rfl) (by kernel_rfl) rfl) ?_; intro az E; clear i
 refine q1 E 16 (i6 (w64 (u0.Add * u0.Div))) ?_; intro aA F; clear E
 refine q1 F 17 (i6 (w64 ((w64 (u1 * u0.Mul)) + (w64 (u0.Add * u0.Div))))) ?_; intro aB G; clear F
 refine q1 G 18 (pt a 6) ?_; intro aC j; clear G
 refine qst j (i6 u0.Div) (nog rfl _) rfl (by kernel_rfl) (fun v47 hC => ld j hC 1 (g := []) (b := a) (off := 6) (cs := (e23A u0)) (ty := 23) rfl (by kernel_rfl) (by kernel_rfl) (by kernel_rfl) (by kernel_rfl) rfl) ?_; intro aD H; clear j
 refine q1 H 5 (i6 (w64 ((w64 (u1 * u0.Mul)) + (w64 (u0.Add * u0.Div))))) ?_; intro aE I; clear H
 refine q1 I 6 (i6 u0.Div) ?_; intro aF J; clear I
 refine qnl (z _ ?_); clear z aa; intro aG d; clear x
 refine sqH ?_; intro ab L
 refine bt J d 2 [] [] [(20, i6 (w64 ((w64 (u1 * u0.Mul)) + (w64 (u0.Add * u0.Div))))), (21, i6 u0.Div)] ?_; intro aH M; clear J
 obtain ⟨ac, ae⟩ := hp
 refine fc M d (sgcd_fun (w64 ((w64 (u1 * u0.Mul)) + (w64 (u0.Add * u0.Div)))) u0.Div ac _ _ d.fz) ?_; intro aI aJ N O; clear M d
 refine s1 N 7 (i6 (ngcd (w64 ((w64 (u1 * u0.Mul)) + (w64 (u0.Add * u0.Div)))) u0.Div)) ?_; intro af P; clear N
 refine nlH (L _ _ ?_); clear L ab
 have Q : Fr 32 [] [⟨2, [], pt a 0⟩, ⟨4, [], pt c 0⟩, ⟨5, [], i6 (w64 ((w64 (u1 * u0.Mul)) + (w64 (u0.Add * u0.Div))))⟩, ⟨6, [], i6 u0.Div⟩, ⟨7, [], i6 (ngcd (w64 ((w64 (u1 * u0.Mul)) + (w64 (u0.Add * u0.Div)))) u0.Div)⟩] af := P.region (by kernel_rfl) (by kernel_rfl); clear P
 refine wp_seq (rgS mixed O [(0, true), (1, true), (2, true), (3, true), (5, true), (6, true), (4, true), (7, true), (8, true), (9, false)] [9] [1] [.row a (e23A u0) 23] ?_)
 intro ag R aK S; clear O
 have aL := Fz.le.refl Z
 refine cS Q 6 [0] [] [(24, str u0.Name), (25, i6 (w64 ((w64 (u1 * u0.Mul)) + (w64 (u0.Add * u0.Div))))), (26, i6 (ngcd (w64 ((w64 (u1 * u0.Mul)) + (w64 (u0.Add * u0.Div)))) u0.Div)), (28, i6 u0.Div), (29, i6 (ngcd (w64 ((w64 (u1 * u0.Mul)) + (w64 (u0.Add * u0.Div)))) u0.Div))] ?_; intro aM l; clear Q
 obtain ⟨ah, ai⟩ := ae
 refine cst rfl l (i6 (w64 ((w64 ((w64 (u1 * u0.Mul)) + (w64 (u0.Add * u0.Div)))).tdiv (ngcd (w64 ((w64 (u1 * u0.Mul)) + (w64 (u0.Add * u0.Div)))) u0.Div)))) (nog rfl _) rfl (by kernel_rfl) (fun v88 hC => quo_run l (g := []) rfl (by kernel_rfl) (by kernel_rfl) ah rfl) ?_; intro aN m; clear l
 obtain ⟨aj, ak⟩ := ai
 refine cst rfl m (i6 (w64 (u0.Div.tdiv (ngcd (w64 ((w64 (u1 * u0.Mul)) + (w64 (u0.Add * u0.Div)))) u0.Div)))) (nog rfl _) rfl (by kernel_rfl) (fun v93 hC => quo_run m (g := []) rfl (by kernel_rfl) (by kernel_rfl) aj rfl) ?_; intro aO T; clear m
 refine cS T 1 [] [] [(31, .agg #[str u0.Name, i6 (w64 ((w64 ((w64 (u1 * u0.Mul)) + (w64 (u0.Add * u0.Div)))).tdiv (ngcd (w64 ((w64 (u1 * u0.Mul)) + (w64 (u0.Add * u0.Div)))) u0.Div))), i6 (w64 (u0.Div.tdiv (ngcd (w64 ((w64 (u1 * u0.Mul)) + (w64 (u0.Add * u0.Div)))) u0.Div)))])] ?_; intro aP n; clear T
 refine eL rfl ?_; intro al U
 refine sx n S 0 [str u0.Name, i6 (w64 ((w64 ((w64 (u1 * u0.Mul)) + (w64 (u0.Add * u0.Div)))).tdiv (ngcd (w64 ((w64 (u1 * u0.Mul)) + (w64 (u0.Add * u0.Div)))) u0.Div))), i6 (w64 (u0.Div.tdiv (ngcd (w64 ((w64 (u1 * u0.Mul)) + (w64 (u0.Add * u0.Div)))) u0.Div)))] 0 ?_; intro am V; clear S
 have W : Mem w.heap.size [] w Z [.row c [str u0.Name, i6 (w64 ((w64 ((w64 (u1 * u0.Mul)) + (w64 (u0.Add * u0.Div)))).tdiv (ngcd (w64 ((w64 (u1 * u0.Mul)) + (w64 (u0.Add * u0.Div)))) u0.Div))), i6 (w64 (u0.Div.tdiv (ngcd (w64 ((w64 (u1 * u0.Mul)) + (w64 (u0.Add * u0.Div)))) u0.Div)))] 26, .row a (e23A u0) 23] Z am := V; clear V
 refine nl (qnI (U _ _ ?_)); clear U al
 refine nS (R _ _ ?_); clear R ag
 refine thn ?_
 refine wp_ret ?_
 refine rt (fn := Tryd.f36) (v := .agg #[str u0.Name, i6 (w64 ((w64 ((w64 (u1 * u0.Mul)) + (w64 (u0.Add * u0.Div)))).tdiv (ngcd (w64 ((w64 (u1 * u0.Mul)) + (w64 (u0.Add * u0.Div)))) u0.Div))), i6 (w64 (u0.Div.tdiv (ngcd (w64 ((w64 (u1 * u0.Mul)) + (w64 (u0.Add * u0.Div)))) u0.Div)))]) n (re1c n (fn := Tryd.f36) rfl (ad := ⟨c, 0, none⟩) (by kernel_rfl) (loadVar_run W 0 (b := c) (k := 3) (vs := [str u0.Name, i6 (w64 ((w64 ((w64 (u1 * u0.Mul)) + (w64 (u0.Add * u0.Div)))).tdiv (ngcd (w64 ((w64 (u1 * u0.Mul)) + (w64 (u0.Add * u0.Div)))) u0.Div))), i6 (w64 (u0.Div.tdiv (ngcd (w64 ((w64 (u1 * u0.Mul)) + (w64 (u0.Add * u0.Div)))) u0.Div)))]) (ty := 26) rfl (by kernel_rfl) (by kernel_rfl)) ) ?_
 exact ⟨(⟨u0.Name, w64 ((w64 ((w64 (u1 * u0.Mul)) + (w64 (u0.Add * u0.Div)))).tdiv (ngcd (w64 ((w64 (u1 * u0.Mul)) + (w64 (u0.Add * u0.Div)))) u0.Div)), w64 (u0.Div.tdiv (ngcd (w64 ((w64 (u1 * u0.Mul)) + (w64 (u0.Add * u0.Div)))) u0.Div))⟩ : Reading), rfl, ak, W.below⟩

end Go.Proofs.YtdndfbamhnchfaaDoor
set_option linter.unusedVariables false
set_option linter.unusedSimpArgs false
set_option maxRecDepth 100000
set_option maxHeartbeats 0
namespace Go.Proofs.YtdndfbamhnchfaaDoor
open Go.Sy Go.RowKit
abbrev e23B (X : Signal) : List Value := [str X.Name, i6 X.Start, i6 X.Size, .bool X.Back, .bool X.Signed, i6 X.Mul, i6 X.Div, i6 X.Add, i6 X.Key]
theorem splaces_fun (u0 : Signal) (hpre : (0 ≤ u0.Start ∧ u0.Start ≤ 512) ∧ 1 ≤ u0.Size ∧ u0.Size ≤ 40)  (Z : Fz) (w : World)  (hZ : Z.on w) : Calls Tryd.prog 57 #[.agg #[str u0.Name, i6 u0.Start, i6 u0.Size, .bool u0.Back, .bool u0.Signed, i6 u0.Mul, i6 u0.Div, i6 u0.Add, i6 u0.Key]] w fun e w' => ∃ (ao1001 : Option Addr) (cap1002 : Nat) (Z' : Fz), e = .returned (.slice ao1001 (placesS u0).length cap1002) ∧ Mem w.heap.size [] w Z [.own t6 3 ao1001 cap1002 (placesS u0)] Z' w' :=
  (splaces_walk u0  Z w  hZ (splaces_ok u0 hpre)).mono fun _ _ ⟨r, h0, h1, h2, he, hk, hm⟩ => by subst hk; exact ⟨h0, h1, h2, he, hm⟩

theorem smean_fun (u0 : Signal) (u1 : Int) (hpre : factS u0 ∧ -1099511627776 ≤ u1 ∧ u1 ≤ 1099511627776)  (Z : Fz) (w : World)  (hZ : Z.on w) : Calls Tryd.prog 36 #[.agg #[str u0.Name, i6 u0.Start, i6 u0.Size, .bool u0.Back, .bool u0.Signed, i6 u0.Mul, i6 u0.Div, i6 u0.Add, i6 u0.Key], i6 u1] w fun e w' => e = .returned (.agg #[str (meanS u0 u1).Name, i6 (meanS u0 u1).Num, i6 (meanS u0 u1).Den]) ∧ Below w.heap.size w w' :=
  (smean_walk u0 u1  Z w  hZ (smean_ok u0 u1 hpre)).mono fun _ _ ⟨r, he, hk, hb⟩ => ⟨by subst hk; exact he, hb⟩

theorem scheck_walk (u0 : Signal) (u1 : Int)  (Z : Fz) (w : World)  (hZ : Z.on w) {K : Int → Prop} (hp : scheck_vc u0 u1 K) : Calls Tryd.prog 19 #[.agg #[str u0.Name, i6 u0.Start, i6 u0.Size, .bool u0.Back, .bool u0.Signed, i6 u0.Mul, i6 u0.Div, i6 u0.Add, i6 u0.Key], i6 u1] w fun e w' => ∃ r : Int, e = .returned (i6 r) ∧ K r ∧ Below w.heap.size w w' := by
 refine enter0 Tryd.func19 rfl rfl (by kernel_rfl) ?_; intro a0 P; have Q := Mem.start w Z hZ; have q := Fz.le.refl Z
 refine sqH ?_; intro ao R
 refine nw P Q pb (e23B u0) 23 ?_; intro S a3 aT T s; clear P Q
 refine s1 T 4 (i6 0) ?_; intro a7 U; clear T
 refine nlH (R _ _ ?_); clear R ao
 refine wp_seq ?_
 refine wp_block ?_
 refine sqH ?_; intro ap V
 refine bt U s 2 [0] [] [(8, str u0.Name)] ?_; intro aU W; clear U
 refine fc W s (sname_fun u0.Name _ _ s.fz) ?_; intro aV aW X a; clear W s
 refine bt X a 2 [] [] [(6, .bool (!(nameS u0.Name)))] ?_; intro aX i; clear X
 refine nlH (V _ _ ?_); clear V ap
 refine cd i (t := !(nameS u0.Name)) (by kernel_rfl) (fun F => ?_) (fun F => ?_)
 ·
  have aq := hp.1 F; clear hp
  refine sqB i a [] [] [(4, i6 1)] ?_; intro aY ar; clear i
  refine wp_ret ?_
  refine ibr ?_
  refine thr ?_
  refine ra1 ar (i6 1) ?_
  exact ⟨1, rfl, aq, a.below⟩
 have u := hp.2 F; clear hp
 refine sqB i a [0, 0] [] [(11, .bool ((((decide (u1 < 0)) || (decide (u1 > 64))) || (decide (u0.Size < 1))) || (decide (u0.Size > 40))))] ?_; intro aZ j; clear i
 refine cd j (t := (((decide (u1 < 0)) || (decide (u1 > 64))) || (decide (u0.Size < 1))) || (decide (u0.Size > 40))) (by kernel_rfl) (fun G => ?_) (fun G => ?_)
 ·
  have au := u.1 G; clear u
  refine sqB j a [] [] [(4, i6 3)] ?_; intro a1 av; clear j
  refine wp_ret ?_
  refine ibr ?_
  refine thr ?_
  refine ra1 av (i6 3) ?_
  exact ⟨3, rfl, au, a.below⟩
 have x := u.2 G; clear u
 refine sqB j a [0, 0, 0, 0, 0, 0, 0, 0] [] [(28, .bool (((((((u0.Mul == 0) || (decide ((max u0.Mul (w64 (0 - u0.Mul))) > 1000000))) || (decide (u0.Mul < (-1000000)))) || (decide (u0.Div < 1))) || (decide (u0.Div > 1000000))) || (decide (u0.Add > 1000000))) || (decide (u0.Add < (-1000000)))))] ?_; intro a2 k; clear j
 refine cd k (t := ((((((u0.Mul == 0) || (decide ((max u0.Mul (w64 (0 - u0.Mul))) > 1000000))) || (decide (u0.Mul < (-1000000)))) || (decide (u0.Div < 1))) || (decide (u0.Div > 1000000))) || (decide (u0.Add > 1000000))) || (decide (u0.Add < (-1000000)))) (by kernel_rfl) (fun H => ?_) (fun H => ?_)
 ·
  have aw := x.1 H; clear x
  refine sqB k a [] [] [(4, i6 3)] ?_; intro a4 ax; clear k
  refine wp_ret ?_
  refine ibr ?_
  refine thr ?_
  refine ra1 ax (i6 3) ?_
  exact ⟨3, rfl, aw, a.below⟩
 have y := x.2 H; clear x
 refine sqB k a [0, 0] [] [(66, .bool ((decide (u0.Key < (-1))) || (decide (u0.Key > 255))))] ?_; intro a5 l; clear k
 refine cd l (t := (decide (u0.Key < (-1))) || (decide (u0.Key > 255))) (by kernel_rfl) (fun I => ?_) (fun I => ?_)
 ·
  have ay := y.1 I; clear y
  refine sqB l a [] [] [(4, i6 3)] ?_; intro a6 az; clear l
  refine wp_ret ?_
  refine ibr ?_
  refine thr ?_
  refine ra1 az (i6 3) ?_
  exact ⟨3, rfl, ay, a.below⟩
 have z := y.2 I; clear y
 refine sqB l a [0, 0] [] [(75, .bool ((decide (u0.Start < 0)) || (decide (u0.Start ≥ (w64 (8 * u1))))))] ?_; intro a8 m; clear l
 refine cd m (t := (decide (u0.Start < 0)) || (decide (u0.Start ≥ (w64 (8 * u1))))) (by kernel_rfl) (fun J => ?_) (fun J => ?_)
 ·
  have aA := z.1 J; clear z
  refine sqB m a [] [] [(4, i6 7)] ?_; intro a9 aB; clear m
  refine wp_ret ?_
  refine ibr ?_
  refine thr ?_
  refine ra1 aB (i6 7) ?_
  exact ⟨7, rfl, aA, a.below⟩
 have aC := z.2 J; clear z
 refine wp_skip ?_
 refine ibn ?_
 refine thn ?_
 refine wp_seq ?_
 refine sqH ?_; intro aD Y
 refine l2 m a 86 0 0 9 (e23B u0) rfl rfl ?_; intro ba aa; clear m
 obtain ⟨aE, ab⟩ := aC
 refine ck aa 57 #[.agg (e23B u0).toArray] ?_
 refine (splaces_fun u0 aE _ _ a.fz).mono ?_; rintro _ ac ⟨f, g, aF, rfl, hm⟩; refine ⟨_, rfl, ?_⟩; intro bb ad; have ae := a.callZ hm; have aG := hm.ext.le; clear hm a aa
 replace q := Fz.le.trans q aG
 have af : Mem w.heap.size [] w Z [.own t6 3 f g (placesS u0), .row S (e23B u0) 23] aF ac := ae; clear ae
 have aH := ab (af.ownSmall 0 rfl); clear ab
 refine s1 ad 5 (.slice f (placesS u0).length g) ?_; intro bc ag; clear ad
 refine nlH (Y _ _ ?_); clear Y aD
 refine sqH ?_; intro ah A
 refine s1 ag 88 (.slice f (placesS u0).length g) ?_; intro bd ai; clear ag
 obtain ⟨aI, aJ, aj, ak⟩ := af.freeze 0 rfl
 replace q := Fz.le.trans q aJ
 have L : Mem w.heap.size [] w Z [.row S (e23B u0) 23] aI ac := aj; clear aj
 obtain ⟨aK, B⟩ := aH
 refine fc ai L (imax_fun (placesS u0) aK f g _ _ ak L.fz) ?_; intro be bf al h; clear ai L
 refine bt al h 4 [] [] [(93, .bool (decide ((maxL (placesS u0)) ≥ (w64 (8 * u1)))))] ?_; intro bg C; clear al
 rcases Bool.eq_false_or_eq_true (decide ((maxL (placesS u0)) ≥ (w64 (8 * u1)))) with n | n
 ·
  have aL := B.1 n; clear B
  have am := C.reval (d := 93) (c := []) (v := .bool (decide ((maxL (placesS u0)) ≥ (w64 (8 * u1))))) (by kernel_rfl) (.bool true) (by rw [n]); clear C
  refine bt am h 4 [] [94, 95, 96, 97] [(97, .bool true)] ?_; intro bh M; clear am
  refine nlH (A _ _ ?_); clear A ah
  refine cdT M (by kernel_rfl) ?_
  refine sqB M h [] [] [(4, i6 7)] ?_; intro bi aM; clear M
  refine wp_ret ?_
  refine thr ?_
  refine ra1 aM (i6 7) ?_
  exact ⟨7, rfl, aL, h.below⟩
 have aN := B.2 n; clear B
 have D := C.reval (d := 93) (c := []) (v := .bool (decide ((maxL (placesS u0)) ≥ (w64 (8 * u1))))) (by kernel_rfl) (.bool false) (by rw [n]); clear C
 refine st D (.slice f (placesS u0).length g) (by rw [wanted_of D (b := false) rfl rfl (by kernel_rfl) (by kernel_rfl)]; rfl) rfl (by kernel_rfl) (p0 D (by kernel_rfl)) ?_; intro bj N; clear D
 obtain ⟨aO, E⟩ := aN
 refine fcl N h (i6 (minL (placesS u0))) 59 #[.slice f (placesS u0).length g] (by rw [wanted_of N (b := false) rfl rfl (by kernel_rfl) (by kernel_rfl)]; rfl) rfl (by kernel_rfl) (fun _ => by kernel_rfl) (imin_fun (placesS u0) aO f g _ _ ak h.fz) ?_; intro bk bl an o; clear N h
 refine bt an o 2 [] [96, 97] [(97, .bool (decide ((minL (placesS u0)) < 0)))] ?_; intro bm p; clear an
 refine nlH (A _ _ ?_); clear A ah
 refine cd p (t := decide ((minL (placesS u0)) < 0)) (by kernel_rfl) (fun O => ?_) (fun O => ?_)
 ·
  have aP := E.1 O; clear E
  refine sqB p o [] [] [(4, i6 7)] ?_; intro bn aQ; clear p
  refine wp_ret ?_
  refine thr ?_
  refine ra1 aQ (i6 7) ?_
  exact ⟨7, rfl, aP, o.below⟩
 have aR := E.2 O; clear E
 refine wp_skip ?_
 refine thn ?_
 refine sqB p o [] [] [(4, i6 0)] ?_; intro bo aS; clear p
 refine wp_ret ?_
 refine ra1 aS (i6 0) ?_
 exact ⟨0, rfl, aR, o.below⟩

theorem sget_walk (u0 : Signal) (u1 : List Int) (ao1 : Option Addr) (cap2 : Nat) (Z : Fz) (w : World) (hs3 : SlR t8 Z ao1 cap2 u1) (hZ : Z.on w) {K : Int → Prop} (hp : sget_vc u0 u1 K) : Calls Tryd.prog 35 #[.agg #[str u0.Name, i6 u0.Start, i6 u0.Size, .bool u0.Back, .bool u0.Signed, i6 u0.Mul, i6 u0.Div, i6 u0.Add, i6 u0.Key], .slice ao1 u1.length cap2] w fun e w' => ∃ r : Int, e = .returned (i6 r) ∧ K r ∧ Below w.heap.size w w' := by
 refine enter0 Tryd.func35 rfl rfl (by kernel_rfl) ?_; intro a0 N; have O := Mem.start w Z hZ; have x := Fz.le.refl Z
 have aK := hp (hs3.small); clear hp
 refine sqH ?_; intro aL P
 refine nw N O pb (e23B u0) 23 ?_; intro j a7 bv Q m; clear N O
 refine s1 Q 4 (i6 0) ?_; intro bw R; clear Q
 refine nlH (P _ _ ?_); clear P aL
 refine sqB R m [] [] [(5, i6 0)] ?_; intro bx S; clear R
 refine wp_seq ?_
 refine sqH ?_; intro aM U
 refine l2 S m 8 0 0 9 (e23B u0) rfl rfl ?_; intro bz V; clear S
 obtain ⟨aN, W⟩ := aK
 refine ck V 57 #[.agg (e23B u0).toArray] ?_
 refine (splaces_fun u0 aN _ _ m.fz).mono ?_; rintro _ X ⟨n, o, aO, rfl, hm⟩; refine ⟨_, rfl, ?_⟩; intro bA Y; have aa := m.callZ hm; have ab := hm.ext.le; clear hm m V
 replace hs3 := hs3.mono ab
 replace x := Fz.le.trans x ab
 have E : Mem w.heap.size [] w Z [.own t6 3 n o (placesS u0), .row j (e23B u0) 23] aO X := aa; clear aa
 have aP := W (E.ownSmall 0 rfl); clear W
 refine bt Y E 2 [] [] [(10, i6 ((placesS u0).length : Int)), (11, i6 0)] ?_; intro ac ad; clear Y
 refine nlH (U _ _ ?_); clear U aM
 refine wp_block ?_
 have ae : Fr 47 [] [⟨1, [], .slice ao1 u1.length cap2⟩, ⟨2, [], pt j 0⟩, ⟨5, [], i6 0⟩, ⟨9, [], .slice n (placesS u0).length o⟩, ⟨10, [], i6 ((placesS u0).length : Int)⟩, ⟨11, [], i6 0⟩] ac := ad.reg; clear ad
 obtain ⟨F, af, ag, aQ⟩ := E.freeze 0 rfl
 replace hs3 := hs3.mono af
 replace x := Fz.le.trans x af
 have ah : Mem w.heap.size [] w Z [.row j (e23B u0) 23] F X := ag; clear ag
 have ai : Fr 47 [] [⟨1, [], .slice ao1 u1.length cap2⟩, ⟨2, [], pt j 0⟩, ⟨5, [], i6 0⟩, ⟨9, [], .slice n (placesS u0).length o⟩, ⟨10, [], i6 ((placesS u0).length : Int)⟩, ⟨11, [], i6 0⟩] ac := ae.reg; clear ae
 obtain ⟨aR, aS, aT, aU⟩ := aP
 refine lp (ι := Int × Int) (fun s => [⟨1, [], .slice ao1 u1.length cap2⟩, ⟨2, [], pt j 0⟩, ⟨5, [], i6 s.1⟩, ⟨9, [], .slice n (placesS u0).length o⟩, ⟨10, [], i6 ((placesS u0).length : Int)⟩, ⟨11, [], i6 s.2⟩]) (fun s => [.row j (e23B u0) 23]) (fun s => F) (fun s => aR s.1 s.2) (fun s => aS s.1 s.2) ⟨0, 0⟩ aT (by exact ai.reg) (by exact ah) ?_
 rintro ⟨f, h⟩ aV aW aX aj ak
 have al : Fr 47 [] [⟨1, [], .slice ao1 u1.length cap2⟩, ⟨2, [], pt j 0⟩, ⟨5, [], i6 f⟩, ⟨9, [], .slice n (placesS u0).length o⟩, ⟨10, [], i6 ((placesS u0).length : Int)⟩, ⟨11, [], i6 h⟩] aW := aj; clear aj ai
 have a : Mem w.heap.size [] w Z [.row j (e23B u0) 23] F aX := ak; clear ak ah
 have y := aU f h aV
 refine sqB al a [] [] [(12, .bool (decide (h < ((placesS u0).length : Int))))] ?_; intro bB p; clear al
 refine wp_seq ?_
 refine cd p (t := decide (h < ((placesS u0).length : Int))) (by kernel_rfl) (fun G => ?_) (fun G => ?_)
 ·
  have aY := y.1 G; clear y
  refine wp_skip ?_
  refine thn ?_
  refine wp_seq ?_
  refine wp_block ?_
  refine sqH ?_; intro aZ am
  refine s1 p 13 (i6 h) ?_; intro bC an; clear p
  obtain ⟨a1, ao⟩ := aY
  refine ix an (T := t6) (xs := (placesS u0)) aQ h a1 (k := .i64) (e := 3) (bytes := 8) (nog rfl _) rfl (by kernel_rfl) rfl (by kernel_rfl) (by kernel_rfl) (by kernel_rfl) ?_; intro bD bE a2 i bF a3 a4 a5 ap; clear an
  have a6 := ao i a3; clear ao
  obtain rfl : a2 = ([i6 i] : List Value) := a5
  refine z1 ap a 15 a4 0 (i6 i) rfl ?_; intro bG aq; clear ap
  refine bt aq a 2 [] [] [(6, i6 h), (7, i6 i)] ?_; intro bH ar; clear aq
  refine nlH (am _ _ ?_); clear am aZ
  refine rgH ?_; intro a8 au
  refine bt ar a 4 [] [] [(16, i6 f), (17, .slice ao1 u1.length cap2), (19, i6 (w64 (i.tdiv 8)))] ?_; intro bI av; clear ar
  obtain ⟨a9, aw⟩ := a6
  refine ix av (T := t8) (xs := u1) hs3 (w64 (i.tdiv 8)) a9 (k := .i64) (e := 5) (bytes := 1) (nog rfl _) rfl (by kernel_rfl) rfl (by kernel_rfl) (by kernel_rfl) (by kernel_rfl) ?_; intro bJ bK ba l bL bb bc bd ax; clear av
  have be := aw l bb; clear aw
  obtain rfl : ba = ([y8 l] : List Value) := bd
  refine z1 ax a 21 bc 0 (y8 l) rfl ?_; intro bM ay; clear ax
  refine bt ay a 2 [] [] [(23, i6 (i.tmod 8))] ?_; intro bN H; clear ay
  obtain ⟨bf, bg⟩ := be
  refine st H (y8 (bShr .u8 l (i.tmod 8))) (nog rfl _) rfl (by kernel_rfl) (shr_run H (g := []) (k' := .i64) rfl (by kernel_rfl) (by kernel_rfl) bf rfl) ?_; intro bO az; clear H
  refine bt az a 3 [] [] [(26, i6 (w64 (bAnd .u8 (bShr .u8 l (i.tmod 8)) 1))), (27, i6 h)] ?_; intro bP I; clear az
  obtain ⟨bh, aA⟩ := bg
  refine st I (i6 (bShl .i64 (w64 (bAnd .u8 (bShr .u8 l (i.tmod 8)) 1)) h)) (nog rfl _) rfl (by kernel_rfl) (shl_run I (g := []) (k' := .i64) rfl (by kernel_rfl) (by kernel_rfl) bh rfl) ?_; intro bQ aB; clear I
  refine bt aB a 2 [] [] [(5, i6 (bOr .i64 f (bShl .i64 (w64 (bAnd .u8 (bShr .u8 l (i.tmod 8)) 1)) h)))] ?_; intro bR aC; clear aB
  refine nlH (au _ _ ?_); clear au a8
  refine ibn ?_
  refine thn ?_
  refine rgB aC a [] [] [(11, i6 (w64 (h + 1)))] ?_; intro bS bi; clear aC
  refine rd ?_
  exact ⟨⟨bOr .i64 f (bShl .i64 (w64 (bAnd .u8 (bShr .u8 l (i.tmod 8)) 1)) h), w64 (h + 1)⟩, aA.1, aA.2, (bi.reg).anyβ _ (by kernel_rfl), a.keep (List.Sublist.cons_cons _ (List.Sublist.slnil))⟩
 have z := y.2 G; clear y
 refine wp_exit ?_
 refine thx ?_
 refine thx ?_
 refine ibx ?_
 refine thn ?_
 refine wp_seq ?_
 refine sqH ?_; intro aD A
 refine bt p a 3 [0] [] [(33, .bool u0.Signed)] ?_; intro bT B; clear p
 rcases Bool.eq_false_or_eq_true (u0.Signed) with q | q
 ·
  have bj := z.1 q; clear z
  have aE := B.reval (d := 33) (c := []) (v := .bool u0.Signed) (by kernel_rfl) (.bool true) (by rw [q]); clear B
  refine bt aE a 4 [0] [34, 35, 36, 37] [(34, i6 f), (37, i6 (w64 (u0.Size - 1)))] ?_; intro bU C; clear aE
  obtain ⟨bk, D⟩ := bj
  refine st C (i6 (bShr .i64 f (w64 (u0.Size - 1)))) (by rw [wanted_of C (b := true) rfl rfl (by kernel_rfl) (by kernel_rfl)]; rfl) rfl (by kernel_rfl) (shr_run C (g := []) (k' := .i64) rfl (by kernel_rfl) (by kernel_rfl) bk rfl) ?_; intro bV aF; clear C
  refine bt aF a 2 [] [39, 40] [(40, .bool ((bShr .i64 f (w64 (u0.Size - 1))) == 1))] ?_; intro bW u; clear aF
  refine nlH (A _ _ ?_); clear A aD
  refine cd u (t := (bShr .i64 f (w64 (u0.Size - 1))) == 1) (by kernel_rfl) (fun J => ?_) (fun J => ?_)
  ·
   have bl := D.1 J; clear D
   refine rgH ?_; intro bm aG
   refine bt u a 3 [0] [] [(41, i6 f), (43, i6 u0.Size)] ?_; intro bX L; clear u
   obtain ⟨bn, bo⟩ := bl
   refine st L (i6 (bShl .i64 1 u0.Size)) (nog rfl _) rfl (by kernel_rfl) (shl_run L (g := []) (k' := .i64) rfl (by kernel_rfl) (by kernel_rfl) bn rfl) ?_; intro bY aH; clear L
   refine bt aH a 2 [] [] [(5, i6 (w64 (f - (bShl .i64 1 u0.Size))))] ?_; intro bZ aI; clear aH
   refine nlH (aG _ _ ?_); clear aG bm
   refine thn ?_
   refine sqB aI a [] [] [(4, i6 (w64 (f - (bShl .i64 1 u0.Size))))] ?_; intro b0 bp; clear aI
   refine wp_ret ?_
   refine ra1 bp (i6 (w64 (f - (bShl .i64 1 u0.Size)))) ?_
   exact ⟨w64 (f - (bShl .i64 1 u0.Size)), rfl, bo, a.below⟩
  have bq := D.2 J; clear D
  refine wp_skip ?_
  refine thn ?_
  refine sqB u a [] [] [(4, i6 f)] ?_; intro b1 br; clear u
  refine wp_ret ?_
  refine ra1 br (i6 f) ?_
  exact ⟨f, rfl, bq, a.below⟩
 have bs := z.2 q; clear z
 have aJ := B.reval (d := 33) (c := []) (v := .bool u0.Signed) (by kernel_rfl) (.bool false) (by rw [q]); clear B
 refine bt aJ a 7 [] [34, 35, 36, 37, 38, 39, 40] [(40, .bool false)] ?_; intro b2 M; clear aJ
 refine nlH (A _ _ ?_); clear A aD
 refine cdF M (by kernel_rfl) ?_
 refine wp_skip ?_
 refine thn ?_
 refine sqB M a [] [] [(4, i6 f)] ?_; intro b3 bu; clear M
 refine wp_ret ?_
 refine ra1 bu (i6 f) ?_
 exact ⟨f, rfl, bs, a.below⟩

theorem sputd_walk (u0 : Signal) (u1 : List Int) (u2 : Int) (ao1 : Option Addr) (cap2 : Nat) (B : Nat) (w0 : World) (Z0 : Fz) (Rr : List Res) (Z : Fz) (w : World) (hM0 : Mem B [] w0 Z0 ((.own t8 5 ao1 cap2 u1) :: Rr) Z w) (hZ : Z.on w) {K : (List Int) → Prop} (hp : sputd_vc u0 u1 u2 K) : Calls Tryd.prog 47 #[.agg #[str u0.Name, i6 u0.Start, i6 u0.Size, .bool u0.Back, .bool u0.Signed, i6 u0.Mul, i6 u0.Div, i6 u0.Add, i6 u0.Key], .slice ao1 u1.length cap2, i6 u2] w fun e w' => ∃ (r : (List Int)) (Z' : Fz), e = .returned (.tuple #[]) ∧ K r ∧ Fz.le Z Z' ∧ (r.length = u1.length) ∧ Mem B [] w0 Z0 ((.own t8 5 ao1 cap2 r) :: Rr) Z' w' := by
 refine enter0 Tryd.func47 rfl rfl (by kernel_rfl) ?_; intro a0 be; have l := Fz.le.refl Z
 have bO := hp (hM0.ownSmall 0 rfl); clear hp
 refine sqH ?_; intro bP bf
 refine nw be hM0 pb (e23B u0) 23 ?_; intro z a6 dm bg a7; clear be hM0
 refine nlH (bf _ _ ?_); clear bf bP
 refine sqH ?_; intro bQ bh
 refine l2 bg a7 8 0 0 9 (e23B u0) rfl rfl ?_; intro dn bi; clear bg
 obtain ⟨bR, bj⟩ := bO
 refine ck bi 57 #[.agg (e23B u0).toArray] ?_
 refine (splaces_fun u0 bR _ _ a7.fz).mono ?_; rintro _ bk ⟨aV, aW, bS, rfl, hm⟩; refine ⟨_, rfl, ?_⟩; intro dp bl; have bm := a7.callZ hm; have bT := hm.ext.le; clear hm a7 bi
 replace l := Fz.le.trans l bT
 have ba : Mem B [] w0 Z0 ((.own t6 3 aV aW (placesS u0)) :: (.row z (e23B u0) 23) :: (.own t8 5 ao1 cap2 u1) :: Rr) bS bk := bm; clear bm
 have bU := bj (ba.ownSmall 0 rfl); clear bj
 refine bt bl ba 2 [] [] [(10, i6 ((placesS u0).length : Int)), (11, i6 0)] ?_; intro bn bo; clear bl
 refine nlH (bh _ _ ?_); clear bh bQ
 refine wp_block ?_
 have bp : Fr 39 [] [⟨1, [], .slice ao1 u1.length cap2⟩, ⟨2, [], i6 u2⟩, ⟨9, [], .slice aV (placesS u0).length aW⟩, ⟨10, [], i6 ((placesS u0).length : Int)⟩, ⟨11, [], i6 0⟩] bn := bo.reg; clear bo
 obtain ⟨aZ, bV, bq, E⟩ := ba.freeze 0 rfl
 replace l := Fz.le.trans l bV
 have br : Mem B [] w0 Z0 ((.row z (e23B u0) 23) :: (.own t8 5 ao1 cap2 u1) :: Rr) aZ bk := bq; clear bq
 have bs : Fr 39 [] [⟨1, [], .slice ao1 u1.length cap2⟩, ⟨2, [], i6 u2⟩, ⟨9, [], .slice aV (placesS u0).length aW⟩, ⟨10, [], i6 ((placesS u0).length : Int)⟩, ⟨11, [], i6 0⟩] bn := bp.reg; clear bp
 obtain ⟨bW, bX, bY, bZ⟩ := bU
 refine lp (ι := Int × (List Int)) (fun s => [⟨1, [], .slice ao1 s.2.length cap2⟩, ⟨2, [], i6 u2⟩, ⟨9, [], .slice aV (placesS u0).length aW⟩, ⟨10, [], i6 ((placesS u0).length : Int)⟩, ⟨11, [], i6 s.1⟩]) (fun s => ((.row z (e23B u0) 23) :: (.own t8 5 ao1 cap2 s.2) :: Rr)) (fun s => aZ) (fun s => bW s.1 s.2) (fun s => bX s.1 s.2) ⟨0, u1⟩ bY (by exact bs.reg) (by exact br) ?_
 rintro ⟨d, j⟩ b0 b1 b2 bu bv
 have bw : Fr 39 [] [⟨1, [], .slice ao1 j.length cap2⟩, ⟨2, [], i6 u2⟩, ⟨9, [], .slice aV (placesS u0).length aW⟩, ⟨10, [], i6 ((placesS u0).length : Int)⟩, ⟨11, [], i6 d⟩] b1 := bu; clear bu bs
 have a3 : Mem B [] w0 Z0 ((.row z (e23B u0) 23) :: (.own t8 5 ao1 cap2 j) :: Rr) aZ b2 := bv; clear bv br
 have a8 := bZ d j b0
 refine sqB bw a3 [] [] [(12, .bool (decide (d < ((placesS u0).length : Int))))] ?_; intro dq a4; clear bw
 refine wp_seq ?_
 refine cd a4 (t := decide (d < ((placesS u0).length : Int))) (by kernel_rfl) (fun bb => ?_) (fun bb => ?_)
 ·
  have b3 := a8.1 bb; clear a8
  refine wp_skip ?_
  refine thn ?_
  refine wp_seq ?_
  refine wp_block ?_
  refine sqH ?_; intro b4 bx
  refine s1 a4 13 (i6 d) ?_; intro dr bz; clear a4
  obtain ⟨b6, bA⟩ := b3
  refine ix bz (T := t6) (xs := (placesS u0)) E d b6 (k := .i64) (e := 3) (bytes := 8) (nog rfl _) rfl (by kernel_rfl) rfl (by kernel_rfl) (by kernel_rfl) (by kernel_rfl) ?_; intro ds dt b7 b du b8 F b9 bB; clear bz
  have ca := bA b b8; clear bA
  obtain rfl : b7 = ([i6 b] : List Value) := b9
  refine z1 bB a3 15 F 0 (i6 b) rfl ?_; intro dv bC; clear bB
  refine bt bC a3 2 [] [] [(6, i6 d), (7, i6 b)] ?_; intro ad bD; clear bC
  refine nlH (bx _ _ ?_); clear bx b4
  have cb : Fr 39 [] [⟨1, [], .slice ao1 j.length cap2⟩, ⟨2, [], i6 u2⟩, ⟨6, [], i6 d⟩, ⟨7, [], i6 b⟩, ⟨9, [], .slice aV (placesS u0).length aW⟩, ⟨10, [], i6 ((placesS u0).length : Int)⟩, ⟨11, [], i6 d⟩] ad := bD.reg; clear bD
  obtain ⟨cc, bE⟩ := ca
  obtain ⟨q, ce, cf⟩ := gxq bE (by omega); clear bE
  obtain ⟨cg, ch⟩ := cf
  obtain ⟨ci, cj⟩ := ch
  obtain ⟨cl, cm⟩ := cj
  obtain ⟨cn, bF⟩ := cm
  refine any_invE mixed [[], [], [1], [], [], [4], [3, 5], [6], [], [8], [9], [7, 10], [], [], [12, 13], [14], [15], [], [17], [16, 18], [11, 19], [0, 1, 2, 3, 4, 5, 6, 7, 8, 9, 10, 11, 12, 13, 14, 15, 16, 17, 18, 19, 20], [0, 1, 2, 3, 4, 5, 6, 7, 8, 9, 10, 11, 12, 13, 14, 15, 16, 17, 18, 19, 20, 21]] 23 (fun S a w1 => ∃ (x : Nat) (D : Nat) (O : Value) (ae : Value) (P : Value) (aB : Value) (aH : Value) (aC : Value) (au : Value) (al : Value) (aD : Value) (av : Value) (am : Value) (af : Value) (aI : Value) (aJ : Value) (aE : Value) (aw : Value) (an : Value) (ax : Value) (ao : Value) (ag : Value) (Q : Value) (H : Value) (a9 : Res) (a5 : Res), Fz.le aZ aZ ∧ Fr 39 [] [⟨1, [], .slice ao1 j.length cap2⟩, ⟨2, [], i6 u2⟩, ⟨6, [], i6 d⟩, ⟨7, [], i6 b⟩, ⟨9, [], .slice aV (placesS u0).length aW⟩, ⟨10, [], i6 ((placesS u0).length : Int)⟩, ⟨11, [], i6 d⟩, ⟨16, [], O⟩, ⟨17, [], ae⟩, ⟨18, [], P⟩, ⟨19, [], aB⟩, ⟨20, [], aH⟩, ⟨21, [], aC⟩, ⟨22, [], au⟩, ⟨23, [], al⟩, ⟨24, [], aD⟩, ⟨25, [], av⟩, ⟨26, [], am⟩, ⟨27, [], af⟩, ⟨28, [], aI⟩, ⟨29, [], aJ⟩, ⟨30, [], aE⟩, ⟨31, [], aw⟩, ⟨32, [], an⟩, ⟨33, [], ax⟩, ⟨34, [], ao⟩, ⟨35, [], ag⟩, ⟨36, [], Q⟩, ⟨37, [], H⟩] a ∧ Mem B [] w0 Z0 (a9 :: a5 :: Rr) aZ w1 ∧ (S 0 = true → O = .slice ao1 j.length cap2) ∧ (S 1 = true → ae = i6 b) ∧ (S 2 = true → P = i6 (w64 (b.tdiv 8))) ∧ (S 3 = true → aB = .slice ao1 j.length cap2) ∧ (S 4 = true → aH = i6 b) ∧ (S 5 = true → aC = i6 (w64 (b.tdiv 8))) ∧ (S 6 = true → au = .pointer (some ⟨x, (w64 (b.tdiv 8)).toNat * 1, none⟩)) ∧ (S 7 = true → al = y8 q) ∧ (S 8 = true → aD = i6 b) ∧ (S 9 = true → av = i6 (b.tmod 8)) ∧ (S 10 = true → am = y8 (bShl .u8 1 (b.tmod 8))) ∧ (S 11 = true → af = y8 (bAndNot .u8 q (bShl .u8 1 (b.tmod 8)))) ∧ (S 12 = true → aI = i6 u2) ∧ (S 13 = true → aJ = i6 d) ∧ (S 14 = true → aE = i6 (bShr .i64 u2 d)) ∧ (S 15 = true → aw = i6 (bAnd .i64 (bShr .i64 u2 d) 1)) ∧ (S 16 = true → an = y8 (w8 (bAnd .i64 (bShr .i64 u2 d) 1))) ∧ (S 17 = true → ax = i6 b) ∧ (S 18 = true → ao = i6 (b.tmod 8)) ∧ (S 19 = true → ag = y8 (bShl .u8 (w8 (bAnd .i64 (bShr .i64 u2 d) 1)) (b.tmod 8))) ∧ (S 20 = true → Q = y8 (bOr .u8 (bAndNot .u8 q (bShl .u8 1 (b.tmod 8))) (bShl .u8 (w8 (bAnd .i64 (bShr .i64 u2 d) 1)) (b.tmod 8)))) ∧ (S 21 = true → H = .pointer (some ⟨D, (w64 (b.tdiv 8)).toNat * 1, none⟩)) ∧ (a9 = .row z (e23B u0) 23) ∧ (S 22 = false → a5 = .own t8 5 ao1 cap2 j) ∧ (S 22 = true → a5 = .own t8 5 ao1 cap2 (j.set (w64 (b.tdiv 8)).toNat (bOr .u8 (bAndNot .u8 q (bShl .u8 1 (b.tmod 8))) (bShl .u8 (w8 (bAnd .i64 (bShr .i64 u2 d) 1)) (b.tmod 8))))) ∧ (S 6 = true → ao1 = some ⟨x, 0, none⟩) ∧ (S 21 = true → ao1 = some ⟨D, 0, none⟩)) ?h0 ?hs ?hE
  case h0 =>
   have co := cb.any 16
   have cp := co.any 17
   have cq := cp.any 18
   have cr := cq.any 19
   have cs := cr.any 20
   have ct := cs.any 21
   have cu := ct.any 22
   have cv := cu.any 23
   have cw := cv.any 24
   have cx := cw.any 25
   have cy := cx.any 26
   have cz := cy.any 27
   have cA := cz.any 28
   have cB := cA.any 29
   have cC := cB.any 30
   have cD := cC.any 31
   have cE := cD.any 32
   have cF := cE.any 33
   have cG := cF.any 34
   have cH := cG.any 35
   have cI := cH.any 36
   have cJ := cI.any 37
   have cK := (a3.perm lpr).drew
   exact ⟨0, 0, ad.tmps.getD 16 undef, ad.tmps.getD 17 undef, ad.tmps.getD 18 undef, ad.tmps.getD 19 undef, ad.tmps.getD 20 undef, ad.tmps.getD 21 undef, ad.tmps.getD 22 undef, ad.tmps.getD 23 undef, ad.tmps.getD 24 undef, ad.tmps.getD 25 undef, ad.tmps.getD 26 undef, ad.tmps.getD 27 undef, ad.tmps.getD 28 undef, ad.tmps.getD 29 undef, ad.tmps.getD 30 undef, ad.tmps.getD 31 undef, ad.tmps.getD 32 undef, ad.tmps.getD 33 undef, ad.tmps.getD 34 undef, ad.tmps.getD 35 undef, ad.tmps.getD 36 undef, ad.tmps.getD 37 undef, .row z (e23B u0) 23, .own t8 5 ao1 cap2 j, Fz.le.refl _, cJ.reg, cK, ff, ff, ff, ff, ff, ff, ff, ff, ff, ff, ff, ff, ff, ff, ff, ff, ff, ff, ff, ff, ff, ff, rfl, kf, ff, ff, ff⟩
  case hs =>
   intro S hcl i o hil hi hSi hpre a w1 hI; refine Go.Sy.hid ?_; intro G hG; obtain ⟨x, D, O, ae, P, aB, aH, aC, au, al, aD, av, am, af, aI, aJ, aE, aw, an, ax, ao, ag, Q, H, a9, hI⟩ := hI; obtain ⟨a5, c, hFx, hMx, R, U, ah, V, W, ai, ay, aF, X, aj, ap, aQ, Y, aa, aq, az, aG, ab, ak, aM, a1, hI⟩ := hI; obtain ⟨bc, I, ac, bG, aA, hI⟩ := hI; have bd := hI; clear hI
   have hcase : i = 0 ∨ i = 1 ∨ i = 2 ∨ i = 3 ∨ i = 4 ∨ i = 5 ∨ i = 6 ∨ i = 7 ∨ i = 8 ∨ i = 9 ∨ i = 10 ∨ i = 11 ∨ i = 12 ∨ i = 13 ∨ i = 14 ∨ i = 15 ∨ i = 16 ∨ i = 17 ∨ i = 18 ∨ i = 19 ∨ i = 20 ∨ i = 21 ∨ i = 22 := by clear hi; omega
   rcases hcase with rfl | rfl | rfl | rfl | rfl | rfl | rfl | rfl | rfl | rfl | rfl | rfl | rfl | rfl | rfl | rfl | rfl | rfl | rfl | rfl | rfl | rfl | rfl
   ·
    obtain rfl := oj hi
    have a2 := hSi
    have f := ngF hcl 21 0 a2
    have h := ngF hcl 22 0 a2
    obtain rfl := I
    obtain rfl := ac h
    refine hG (any_step ?_); clear hG G; intro A J hJ
    have l := Fz.le.trans l c
    have dw := E.mono c
    have dx := F.mono c
    refine s1 hFx 16 (.slice ao1 j.length cap2) ?_; intro dy cL; clear hFx
    refine nl (qnI (hJ _ _ ?_)); clear hJ J
    exact ⟨x, D, .slice ao1 j.length cap2, ae, P, aB, aH, aC, au, al, aD, av, am, af, aI, aJ, aE, aw, an, ax, ao, ag, Q, H, .row z (e23B u0) 23, .own t8 5 ao1 cap2 j, c, cL.reg, hMx.perm lpr, kf, U, ah, V, W, ai, ay, aF, X, aj, ap, aQ, Y, aa, aq, az, aG, ab, ak, aM, a1, (nt f), rfl, kf, (nt h), aA, (nt f)⟩
   ·
    obtain rfl := oj hi
    have aX := hSi
    have aY := ngF hcl 2 1 aX
    have f := ngF hcl 21 1 aX
    have h := ngF hcl 22 1 aX
    obtain rfl := I
    obtain rfl := ac h
    refine hG (any_step ?_); clear hG G; intro A J hJ
    have l := Fz.le.trans l c
    have dz := E.mono c
    have dA := F.mono c
    refine s1 hFx 17 (i6 b) ?_; intro dB cM; clear hFx
    refine nl (qnI (hJ _ _ ?_)); clear hJ J
    exact ⟨x, D, O, i6 b, P, aB, aH, aC, au, al, aD, av, am, af, aI, aJ, aE, aw, an, ax, ao, ag, Q, H, .row z (e23B u0) 23, .own t8 5 ao1 cap2 j, c, cM.reg, hMx.perm lpr, R, kf, (nt aY), V, W, ai, ay, aF, X, aj, ap, aQ, Y, aa, aq, az, aG, ab, ak, aM, a1, (nt f), rfl, kf, (nt h), aA, (nt f)⟩
   ·
    obtain rfl := oj hi
    have aX := hpre 1 (by kernel_rfl)
    have aY := hSi
    have f := ngF hcl 21 2 aY
    have h := ngF hcl 22 2 aY
    obtain rfl := U aX
    obtain rfl := I
    obtain rfl := ac h
    refine hG (any_step ?_); clear hG G; intro A J hJ
    have l := Fz.le.trans l c
    have dC := E.mono c
    have dD := F.mono c
    refine s1 hFx 18 (i6 (w64 (b.tdiv 8))) ?_; intro dE cN; clear hFx
    refine nl (qnI (hJ _ _ ?_)); clear hJ J
    exact ⟨x, D, O, i6 b, i6 (w64 (b.tdiv 8)), aB, aH, aC, au, al, aD, av, am, af, aI, aJ, aE, aw, an, ax, ao, ag, Q, H, .row z (e23B u0) 23, .own t8 5 ao1 cap2 j, c, cN.reg, hMx.perm lpr, R, kf, kf, V, W, ai, ay, aF, X, aj, ap, aQ, Y, aa, aq, az, aG, ab, ak, aM, a1, (nt f), rfl, kf, (nt h), aA, (nt f)⟩
   ·
    obtain rfl := oj hi
    have aS := hSi
    have n := ngF hcl 6 3 aS
    have L := ngF hcl 7 6 n
    have p := ngF hcl 11 7 L
    have m := ngF hcl 20 11 p
    have f := ngF hcl 21 3 aS
    have h := ngF hcl 22 3 aS
    obtain rfl := I
    obtain rfl := ac h
    refine hG (any_step ?_); clear hG G; intro A J hJ
    have l := Fz.le.trans l c
    have dF := E.mono c
    have dG := F.mono c
    refine s1 hFx 19 (.slice ao1 j.length cap2) ?_; intro dH cO; clear hFx
    refine nl (qnI (hJ _ _ ?_)); clear hJ J
    exact ⟨x, D, O, ae, P, .slice ao1 j.length cap2, aH, aC, au, al, aD, av, am, af, aI, aJ, aE, aw, an, ax, ao, ag, Q, H, .row z (e23B u0) 23, .own t8 5 ao1 cap2 j, c, cO.reg, hMx.perm lpr, R, U, ah, kf, W, ai, (nt n), (nt L), X, aj, ap, (nt p), Y, aa, aq, az, aG, ab, ak, aM, (nt m), (nt f), rfl, kf, (nt h), (nt n), (nt f)⟩
   ·
    obtain rfl := oj hi
    have aN := hSi
    have ar := ngF hcl 5 4 aN
    have n := ngF hcl 6 5 ar
    have L := ngF hcl 7 6 n
    have p := ngF hcl 11 7 L
    have m := ngF hcl 20 11 p
    have f := ngF hcl 21 4 aN
    have h := ngF hcl 22 4 aN
    obtain rfl := I
    obtain rfl := ac h
    refine hG (any_step ?_); clear hG G; intro A J hJ
    have l := Fz.le.trans l c
    have dI := E.mono c
    have dJ := F.mono c
    refine s1 hFx 20 (i6 b) ?_; intro dK cP; clear hFx
    refine nl (qnI (hJ _ _ ?_)); clear hJ J
    exact ⟨x, D, O, ae, P, aB, i6 b, aC, au, al, aD, av, am, af, aI, aJ, aE, aw, an, ax, ao, ag, Q, H, .row z (e23B u0) 23, .own t8 5 ao1 cap2 j, c, cP.reg, hMx.perm lpr, R, U, ah, V, kf, (nt ar), (nt n), (nt L), X, aj, ap, (nt p), Y, aa, aq, az, aG, ab, ak, aM, (nt m), (nt f), rfl, kf, (nt h), (nt n), (nt f)⟩
   ·
    obtain rfl := oj hi
    have aN := hpre 4 (by kernel_rfl)
    have ar := hSi
    have n := ngF hcl 6 5 ar
    have L := ngF hcl 7 6 n
    have p := ngF hcl 11 7 L
    have m := ngF hcl 20 11 p
    have f := ngF hcl 21 5 ar
    have h := ngF hcl 22 5 ar
    obtain rfl := W aN
    obtain rfl := I
    obtain rfl := ac h
    refine hG (any_step ?_); clear hG G; intro A J hJ
    have l := Fz.le.trans l c
    have dL := E.mono c
    have dM := F.mono c
    refine s1 hFx 21 (i6 (w64 (b.tdiv 8))) ?_; intro dN cQ; clear hFx
    refine nl (qnI (hJ _ _ ?_)); clear hJ J
    exact ⟨x, D, O, ae, P, aB, i6 b, i6 (w64 (b.tdiv 8)), au, al, aD, av, am, af, aI, aJ, aE, aw, an, ax, ao, ag, Q, H, .row z (e23B u0) 23, .own t8 5 ao1 cap2 j, c, cQ.reg, hMx.perm lpr, R, U, ah, V, kf, kf, (nt n), (nt L), X, aj, ap, (nt p), Y, aa, aq, az, aG, ab, ak, aM, (nt m), (nt f), rfl, kf, (nt h), (nt n), (nt f)⟩
   ·
    obtain rfl := oj hi
    have ar := hpre 5 (by kernel_rfl)
    have aS := hpre 3 (by kernel_rfl)
    have aN := hcl 5 4 (by kernel_rfl) ar
    have n := hSi
    have L := ngF hcl 7 6 n
    have p := ngF hcl 11 7 L
    have m := ngF hcl 20 11 p
    have f := ngF hcl 21 6 n
    have h := ngF hcl 22 6 n
    obtain rfl := V aS
    obtain rfl := W aN
    obtain rfl := ai ar
    obtain rfl := I
    obtain rfl := ac h
    refine hG (any_step ?_); clear hG G; intro A J hJ
    have l := Fz.le.trans l c
    have dO := E.mono c
    have dP := F.mono c
    refine ixo hFx hMx 1 (T := t8) (xs := j) (w64 (b.tdiv 8)) (by simpa only [List.length_set] using cc) (k := .i64) (e := 5) (bytes := 1) (nog rfl _) rfl (by kernel_rfl) rfl (by kernel_rfl) (by kernel_rfl) rfl (by kernel_rfl) ?_; intro bH dQ cR cS; clear hFx
    refine nl (qnI (hJ _ _ ?_)); clear hJ J
    exact ⟨bH, D, O, ae, P, .slice ao1 j.length cap2, i6 b, i6 (w64 (b.tdiv 8)), .pointer (some ⟨bH, (w64 (b.tdiv 8)).toNat * 1, none⟩), al, aD, av, am, af, aI, aJ, aE, aw, an, ax, ao, ag, Q, H, .row z (e23B u0) 23, .own t8 5 ao1 cap2 j, c, cS.reg, hMx.perm lpr, R, U, ah, kf, kf, kf, kf, (nt L), X, aj, ap, (nt p), Y, aa, aq, az, aG, ab, ak, aM, (nt m), (nt f), rfl, kf, (nt h), (fun _ => cR), (nt f)⟩
   ·
    obtain rfl := oj hi
    have n := hpre 6 (by kernel_rfl)
    have ar := hcl 6 5 (by kernel_rfl) n
    have aS := hcl 6 3 (by kernel_rfl) n
    have aN := hcl 5 4 (by kernel_rfl) ar
    have L := hSi
    have p := ngF hcl 11 7 L
    have m := ngF hcl 20 11 p
    have f := ngF hcl 21 7 L
    have h := ngF hcl 22 7 L
    obtain rfl := V aS
    obtain rfl := W aN
    obtain rfl := ai ar
    obtain rfl := ay n
    obtain rfl := I
    obtain rfl := ac h
    refine hG (any_step ?_); clear hG G; intro A J hJ
    have l := Fz.le.trans l c
    have dR := E.mono c
    have dS := F.mono c
    have bI := aA n
    obtain ⟨cT, cU, cV⟩ := own_elx hMx 1 (T := t8) (xs := j) rfl bI (w64 (b.tdiv 8)).toNat ce
    obtain rfl : cT = ([y8 q] : List Value) := cU
    refine lc1 hFx 23 (y8 q) (cV 0 _ rfl) rfl ?_; intro dT cW; clear hFx
    refine nl (qnI (hJ _ _ ?_)); clear hJ J
    exact ⟨x, D, O, ae, P, .slice ao1 j.length cap2, i6 b, i6 (w64 (b.tdiv 8)), .pointer (some ⟨x, (w64 (b.tdiv 8)).toNat * 1, none⟩), y8 q, aD, av, am, af, aI, aJ, aE, aw, an, ax, ao, ag, Q, H, .row z (e23B u0) 23, .own t8 5 ao1 cap2 j, c, cW.reg, hMx.perm lpr, R, U, ah, kf, kf, kf, kf, kf, X, aj, ap, (nt p), Y, aa, aq, az, aG, ab, ak, aM, (nt m), (nt f), rfl, kf, (nt h), (fun _ => bI), (nt f)⟩
   ·
    obtain rfl := oj hi
    have aT := hSi
    have aK := ngF hcl 9 8 aT
    have aL := ngF hcl 10 9 aK
    have p := ngF hcl 11 10 aL
    have m := ngF hcl 20 11 p
    have f := ngF hcl 21 8 aT
    have h := ngF hcl 22 8 aT
    obtain rfl := I
    obtain rfl := ac h
    refine hG (any_step ?_); clear hG G; intro A J hJ
    have l := Fz.le.trans l c
    have dU := E.mono c
    have dV := F.mono c
    refine s1 hFx 24 (i6 b) ?_; intro dW cX; clear hFx
    refine nl (qnI (hJ _ _ ?_)); clear hJ J
    exact ⟨x, D, O, ae, P, aB, aH, aC, au, al, i6 b, av, am, af, aI, aJ, aE, aw, an, ax, ao, ag, Q, H, .row z (e23B u0) 23, .own t8 5 ao1 cap2 j, c, cX.reg, hMx.perm lpr, R, U, ah, V, W, ai, ay, aF, kf, (nt aK), (nt aL), (nt p), Y, aa, aq, az, aG, ab, ak, aM, (nt m), (nt f), rfl, kf, (nt h), aA, (nt f)⟩
   ·
    obtain rfl := oj hi
    have aT := hpre 8 (by kernel_rfl)
    have aK := hSi
    have aL := ngF hcl 10 9 aK
    have p := ngF hcl 11 10 aL
    have m := ngF hcl 20 11 p
    have f := ngF hcl 21 9 aK
    have h := ngF hcl 22 9 aK
    obtain rfl := X aT
    obtain rfl := I
    obtain rfl := ac h
    refine hG (any_step ?_); clear hG G; intro A J hJ
    have l := Fz.le.trans l c
    have dX := E.mono c
    have dY := F.mono c
    refine s1 hFx 25 (i6 (b.tmod 8)) ?_; intro dZ cY; clear hFx
    refine nl (qnI (hJ _ _ ?_)); clear hJ J
    exact ⟨x, D, O, ae, P, aB, aH, aC, au, al, i6 b, i6 (b.tmod 8), am, af, aI, aJ, aE, aw, an, ax, ao, ag, Q, H, .row z (e23B u0) 23, .own t8 5 ao1 cap2 j, c, cY.reg, hMx.perm lpr, R, U, ah, V, W, ai, ay, aF, kf, kf, (nt aL), (nt p), Y, aa, aq, az, aG, ab, ak, aM, (nt m), (nt f), rfl, kf, (nt h), aA, (nt f)⟩
   ·
    obtain rfl := oj hi
    have aK := hpre 9 (by kernel_rfl)
    have aT := hcl 9 8 (by kernel_rfl) aK
    have aL := hSi
    have p := ngF hcl 11 10 aL
    have m := ngF hcl 20 11 p
    have f := ngF hcl 21 10 aL
    have h := ngF hcl 22 10 aL
    obtain rfl := X aT
    obtain rfl := aj aK
    obtain rfl := I
    obtain rfl := ac h
    refine hG (any_step ?_); clear hG G; intro A J hJ
    have l := Fz.le.trans l c
    have d0 := E.mono c
    have d1 := F.mono c
    refine st hFx (y8 (bShl .u8 1 (b.tmod 8))) (nog rfl _) rfl (by kernel_rfl) (shl_run hFx (g := []) (k' := .i64) rfl (by kernel_rfl) (by kernel_rfl) cg rfl) ?_; intro d2 cZ; clear hFx
    refine nl (qnI (hJ _ _ ?_)); clear hJ J
    exact ⟨x, D, O, ae, P, aB, aH, aC, au, al, i6 b, i6 (b.tmod 8), y8 (bShl .u8 1 (b.tmod 8)), af, aI, aJ, aE, aw, an, ax, ao, ag, Q, H, .row z (e23B u0) 23, .own t8 5 ao1 cap2 j, c, cZ.reg, hMx.perm lpr, R, U, ah, V, W, ai, ay, aF, kf, kf, kf, (nt p), Y, aa, aq, az, aG, ab, ak, aM, (nt m), (nt f), rfl, kf, (nt h), aA, (nt f)⟩
   ·
    obtain rfl := oj hi
    have aL := hpre 10 (by kernel_rfl)
    have L := hpre 7 (by kernel_rfl)
    have aK := hcl 10 9 (by kernel_rfl) aL
    have n := hcl 7 6 (by kernel_rfl) L
    have aT := hcl 9 8 (by kernel_rfl) aK
    have ar := hcl 6 5 (by kernel_rfl) n
    have aS := hcl 6 3 (by kernel_rfl) n
    have aN := hcl 5 4 (by kernel_rfl) ar
    have p := hSi
    have m := ngF hcl 20 11 p
    have f := ngF hcl 21 11 p
    have h := ngF hcl 22 11 p
    obtain rfl := V aS
    obtain rfl := W aN
    obtain rfl := ai ar
    obtain rfl := ay n
    obtain rfl := aF L
    obtain rfl := X aT
    obtain rfl := aj aK
    obtain rfl := ap aL
    obtain rfl := I
    obtain rfl := ac h
    refine hG (any_step ?_); clear hG G; intro A J hJ
    have l := Fz.le.trans l c
    have d3 := E.mono c
    have d4 := F.mono c
    have c0 := aA n
    refine s1 hFx 27 (y8 (bAndNot .u8 q (bShl .u8 1 (b.tmod 8)))) ?_; intro d5 c1; clear hFx
    refine nl (qnI (hJ _ _ ?_)); clear hJ J
    exact ⟨x, D, O, ae, P, .slice ao1 j.length cap2, i6 b, i6 (w64 (b.tdiv 8)), .pointer (some ⟨x, (w64 (b.tdiv 8)).toNat * 1, none⟩), y8 q, i6 b, i6 (b.tmod 8), y8 (bShl .u8 1 (b.tmod 8)), y8 (bAndNot .u8 q (bShl .u8 1 (b.tmod 8))), aI, aJ, aE, aw, an, ax, ao, ag, Q, H, .row z (e23B u0) 23, .own t8 5 ao1 cap2 j, c, c1.reg, hMx.perm lpr, R, U, ah, kf, kf, kf, kf, kf, kf, kf, kf, kf, Y, aa, aq, az, aG, ab, ak, aM, (nt m), (nt f), rfl, kf, (nt h), (fun _ => c0), (nt f)⟩
   ·
    obtain rfl := oj hi
    have aO := hSi
    have C := ngF hcl 14 12 aO
    have M := ngF hcl 15 14 C
    have N := ngF hcl 16 15 M
    have y := ngF hcl 19 16 N
    have m := ngF hcl 20 19 y
    have f := ngF hcl 21 12 aO
    have h := ngF hcl 22 12 aO
    obtain rfl := I
    obtain rfl := ac h
    refine hG (any_step ?_); clear hG G; intro A J hJ
    have l := Fz.le.trans l c
    have d6 := E.mono c
    have d7 := F.mono c
    refine s1 hFx 28 (i6 u2) ?_; intro d8 c2; clear hFx
    refine nl (qnI (hJ _ _ ?_)); clear hJ J
    exact ⟨x, D, O, ae, P, aB, aH, aC, au, al, aD, av, am, af, i6 u2, aJ, aE, aw, an, ax, ao, ag, Q, H, .row z (e23B u0) 23, .own t8 5 ao1 cap2 j, c, c2.reg, hMx.perm lpr, R, U, ah, V, W, ai, ay, aF, X, aj, ap, aQ, kf, aa, (nt C), (nt M), (nt N), ab, ak, (nt y), (nt m), (nt f), rfl, kf, (nt h), aA, (nt f)⟩
   ·
    obtain rfl := oj hi
    have aP := hSi
    have C := ngF hcl 14 13 aP
    have M := ngF hcl 15 14 C
    have N := ngF hcl 16 15 M
    have y := ngF hcl 19 16 N
    have m := ngF hcl 20 19 y
    have f := ngF hcl 21 13 aP
    have h := ngF hcl 22 13 aP
    obtain rfl := I
    obtain rfl := ac h
    refine hG (any_step ?_); clear hG G; intro A J hJ
    have l := Fz.le.trans l c
    have d9 := E.mono c
    have ea := F.mono c
    refine s1 hFx 29 (i6 d) ?_; intro eb c3; clear hFx
    refine nl (qnI (hJ _ _ ?_)); clear hJ J
    exact ⟨x, D, O, ae, P, aB, aH, aC, au, al, aD, av, am, af, aI, i6 d, aE, aw, an, ax, ao, ag, Q, H, .row z (e23B u0) 23, .own t8 5 ao1 cap2 j, c, c3.reg, hMx.perm lpr, R, U, ah, V, W, ai, ay, aF, X, aj, ap, aQ, Y, kf, (nt C), (nt M), (nt N), ab, ak, (nt y), (nt m), (nt f), rfl, kf, (nt h), aA, (nt f)⟩
   ·
    obtain rfl := oj hi
    have aP := hpre 13 (by kernel_rfl)
    have aO := hpre 12 (by kernel_rfl)
    have C := hSi
    have M := ngF hcl 15 14 C
    have N := ngF hcl 16 15 M
    have y := ngF hcl 19 16 N
    have m := ngF hcl 20 19 y
    have f := ngF hcl 21 14 C
    have h := ngF hcl 22 14 C
    obtain rfl := Y aO
    obtain rfl := aa aP
    obtain rfl := I
    obtain rfl := ac h
    refine hG (any_step ?_); clear hG G; intro A J hJ
    have l := Fz.le.trans l c
    have ec := E.mono c
    have ed := F.mono c
    refine st hFx (i6 (bShr .i64 u2 d)) (nog rfl _) rfl (by kernel_rfl) (shr_run hFx (g := []) (k' := .i64) rfl (by kernel_rfl) (by kernel_rfl) ci rfl) ?_; intro ee c4; clear hFx
    refine nl (qnI (hJ _ _ ?_)); clear hJ J
    exact ⟨x, D, O, ae, P, aB, aH, aC, au, al, aD, av, am, af, i6 u2, i6 d, i6 (bShr .i64 u2 d), aw, an, ax, ao, ag, Q, H, .row z (e23B u0) 23, .own t8 5 ao1 cap2 j, c, c4.reg, hMx.perm lpr, R, U, ah, V, W, ai, ay, aF, X, aj, ap, aQ, kf, kf, kf, (nt M), (nt N), ab, ak, (nt y), (nt m), (nt f), rfl, kf, (nt h), aA, (nt f)⟩
   ·
    obtain rfl := oj hi
    have C := hpre 14 (by kernel_rfl)
    have aP := hcl 14 13 (by kernel_rfl) C
    have aO := hcl 14 12 (by kernel_rfl) C
    have M := hSi
    have N := ngF hcl 16 15 M
    have y := ngF hcl 19 16 N
    have m := ngF hcl 20 19 y
    have f := ngF hcl 21 15 M
    have h := ngF hcl 22 15 M
    obtain rfl := Y aO
    obtain rfl := aa aP
    obtain rfl := aq C
    obtain rfl := I
    obtain rfl := ac h
    refine hG (any_step ?_); clear hG G; intro A J hJ
    have l := Fz.le.trans l c
    have ef := E.mono c
    have eg := F.mono c
    refine s1 hFx 31 (i6 (bAnd .i64 (bShr .i64 u2 d) 1)) ?_; intro eh c5; clear hFx
    refine nl (qnI (hJ _ _ ?_)); clear hJ J
    exact ⟨x, D, O, ae, P, aB, aH, aC, au, al, aD, av, am, af, i6 u2, i6 d, i6 (bShr .i64 u2 d), i6 (bAnd .i64 (bShr .i64 u2 d) 1), an, ax, ao, ag, Q, H, .row z (e23B u0) 23, .own t8 5 ao1 cap2 j, c, c5.reg, hMx.perm lpr, R, U, ah, V, W, ai, ay, aF, X, aj, ap, aQ, kf, kf, kf, kf, (nt N), ab, ak, (nt y), (nt m), (nt f), rfl, kf, (nt h), aA, (nt f)⟩
   ·
    obtain rfl := oj hi
    have M := hpre 15 (by kernel_rfl)
    have C := hcl 15 14 (by kernel_rfl) M
    have aP := hcl 14 13 (by kernel_rfl) C
    have aO := hcl 14 12 (by kernel_rfl) C
    have N := hSi
    have y := ngF hcl 19 16 N
    have m := ngF hcl 20 19 y
    have f := ngF hcl 21 16 N
    have h := ngF hcl 22 16 N
    obtain rfl := Y aO
    obtain rfl := aa aP
    obtain rfl := aq C
    obtain rfl := az M
    obtain rfl := I
    obtain rfl := ac h
    refine hG (any_step ?_); clear hG G; intro A J hJ
    have l := Fz.le.trans l c
    have ei := E.mono c
    have ej := F.mono c
    refine s1 hFx 32 (y8 (w8 (bAnd .i64 (bShr .i64 u2 d) 1))) ?_; intro ek c6; clear hFx
    refine nl (qnI (hJ _ _ ?_)); clear hJ J
    exact ⟨x, D, O, ae, P, aB, aH, aC, au, al, aD, av, am, af, i6 u2, i6 d, i6 (bShr .i64 u2 d), i6 (bAnd .i64 (bShr .i64 u2 d) 1), y8 (w8 (bAnd .i64 (bShr .i64 u2 d) 1)), ax, ao, ag, Q, H, .row z (e23B u0) 23, .own t8 5 ao1 cap2 j, c, c6.reg, hMx.perm lpr, R, U, ah, V, W, ai, ay, aF, X, aj, ap, aQ, kf, kf, kf, kf, kf, ab, ak, (nt y), (nt m), (nt f), rfl, kf, (nt h), aA, (nt f)⟩
   ·
    obtain rfl := oj hi
    have aU := hSi
    have aR := ngF hcl 18 17 aU
    have y := ngF hcl 19 18 aR
    have m := ngF hcl 20 19 y
    have f := ngF hcl 21 17 aU
    have h := ngF hcl 22 17 aU
    obtain rfl := I
    obtain rfl := ac h
    refine hG (any_step ?_); clear hG G; intro A J hJ
    have l := Fz.le.trans l c
    have el := E.mono c
    have em := F.mono c
    refine s1 hFx 33 (i6 b) ?_; intro en c7; clear hFx
    refine nl (qnI (hJ _ _ ?_)); clear hJ J
    exact ⟨x, D, O, ae, P, aB, aH, aC, au, al, aD, av, am, af, aI, aJ, aE, aw, an, i6 b, ao, ag, Q, H, .row z (e23B u0) 23, .own t8 5 ao1 cap2 j, c, c7.reg, hMx.perm lpr, R, U, ah, V, W, ai, ay, aF, X, aj, ap, aQ, Y, aa, aq, az, aG, kf, (nt aR), (nt y), (nt m), (nt f), rfl, kf, (nt h), aA, (nt f)⟩
   ·
    obtain rfl := oj hi
    have aU := hpre 17 (by kernel_rfl)
    have aR := hSi
    have y := ngF hcl 19 18 aR
    have m := ngF hcl 20 19 y
    have f := ngF hcl 21 18 aR
    have h := ngF hcl 22 18 aR
    obtain rfl := ab aU
    obtain rfl := I
    obtain rfl := ac h
    refine hG (any_step ?_); clear hG G; intro A J hJ
    have l := Fz.le.trans l c
    have eo := E.mono c
    have ep := F.mono c
    refine s1 hFx 34 (i6 (b.tmod 8)) ?_; intro eq c8; clear hFx
    refine nl (qnI (hJ _ _ ?_)); clear hJ J
    exact ⟨x, D, O, ae, P, aB, aH, aC, au, al, aD, av, am, af, aI, aJ, aE, aw, an, i6 b, i6 (b.tmod 8), ag, Q, H, .row z (e23B u0) 23, .own t8 5 ao1 cap2 j, c, c8.reg, hMx.perm lpr, R, U, ah, V, W, ai, ay, aF, X, aj, ap, aQ, Y, aa, aq, az, aG, kf, kf, (nt y), (nt m), (nt f), rfl, kf, (nt h), aA, (nt f)⟩
   ·
    obtain rfl := oj hi
    have aR := hpre 18 (by kernel_rfl)
    have N := hpre 16 (by kernel_rfl)
    have aU := hcl 18 17 (by kernel_rfl) aR
    have M := hcl 16 15 (by kernel_rfl) N
    have C := hcl 15 14 (by kernel_rfl) M
    have aP := hcl 14 13 (by kernel_rfl) C
    have aO := hcl 14 12 (by kernel_rfl) C
    have y := hSi
    have m := ngF hcl 20 19 y
    have f := ngF hcl 21 19 y
    have h := ngF hcl 22 19 y
    obtain rfl := Y aO
    obtain rfl := aa aP
    obtain rfl := aq C
    obtain rfl := az M
    obtain rfl := aG N
    obtain rfl := ab aU
    obtain rfl := ak aR
    obtain rfl := I
    obtain rfl := ac h
    refine hG (any_step ?_); clear hG G; intro A J hJ
    have l := Fz.le.trans l c
    have er := E.mono c
    have es := F.mono c
    refine st hFx (y8 (bShl .u8 (w8 (bAnd .i64 (bShr .i64 u2 d) 1)) (b.tmod 8))) (nog rfl _) rfl (by kernel_rfl) (shl_run hFx (g := []) (k' := .i64) rfl (by kernel_rfl) (by kernel_rfl) cl rfl) ?_; intro et c9; clear hFx
    refine nl (qnI (hJ _ _ ?_)); clear hJ J
    exact ⟨x, D, O, ae, P, aB, aH, aC, au, al, aD, av, am, af, i6 u2, i6 d, i6 (bShr .i64 u2 d), i6 (bAnd .i64 (bShr .i64 u2 d) 1), y8 (w8 (bAnd .i64 (bShr .i64 u2 d) 1)), i6 b, i6 (b.tmod 8), y8 (bShl .u8 (w8 (bAnd .i64 (bShr .i64 u2 d) 1)) (b.tmod 8)), Q, H, .row z (e23B u0) 23, .own t8 5 ao1 cap2 j, c, c9.reg, hMx.perm lpr, R, U, ah, V, W, ai, ay, aF, X, aj, ap, aQ, kf, kf, kf, kf, kf, kf, kf, kf, (nt m), (nt f), rfl, kf, (nt h), aA, (nt f)⟩
   ·
    obtain rfl := oj hi
    have y := hpre 19 (by kernel_rfl)
    have p := hpre 11 (by kernel_rfl)
    have aR := hcl 19 18 (by kernel_rfl) y
    have N := hcl 19 16 (by kernel_rfl) y
    have aL := hcl 11 10 (by kernel_rfl) p
    have L := hcl 11 7 (by kernel_rfl) p
    have aU := hcl 18 17 (by kernel_rfl) aR
    have M := hcl 16 15 (by kernel_rfl) N
    have aK := hcl 10 9 (by kernel_rfl) aL
    have n := hcl 7 6 (by kernel_rfl) L
    have C := hcl 15 14 (by kernel_rfl) M
    have aT := hcl 9 8 (by kernel_rfl) aK
    have ar := hcl 6 5 (by kernel_rfl) n
    have aS := hcl 6 3 (by kernel_rfl) n
    have aP := hcl 14 13 (by kernel_rfl) C
    have aO := hcl 14 12 (by kernel_rfl) C
    have aN := hcl 5 4 (by kernel_rfl) ar
    have m := hSi
    have f := ngF hcl 21 20 m
    have h := ngF hcl 22 20 m
    obtain rfl := V aS
    obtain rfl := W aN
    obtain rfl := ai ar
    obtain rfl := ay n
    obtain rfl := aF L
    obtain rfl := X aT
    obtain rfl := aj aK
    obtain rfl := ap aL
    obtain rfl := aQ p
    obtain rfl := Y aO
    obtain rfl := aa aP
    obtain rfl := aq C
    obtain rfl := az M
    obtain rfl := aG N
    obtain rfl := ab aU
    obtain rfl := ak aR
    obtain rfl := aM y
    obtain rfl := I
    obtain rfl := ac h
    refine hG (any_step ?_); clear hG G; intro A J hJ
    have l := Fz.le.trans l c
    have eu := E.mono c
    have ev := F.mono c
    have da := aA n
    refine s1 hFx 36 (y8 (bOr .u8 (bAndNot .u8 q (bShl .u8 1 (b.tmod 8))) (bShl .u8 (w8 (bAnd .i64 (bShr .i64 u2 d) 1)) (b.tmod 8)))) ?_; intro ew db; clear hFx
    refine nl (qnI (hJ _ _ ?_)); clear hJ J
    exact ⟨x, D, O, ae, P, .slice ao1 j.length cap2, i6 b, i6 (w64 (b.tdiv 8)), .pointer (some ⟨x, (w64 (b.tdiv 8)).toNat * 1, none⟩), y8 q, i6 b, i6 (b.tmod 8), y8 (bShl .u8 1 (b.tmod 8)), y8 (bAndNot .u8 q (bShl .u8 1 (b.tmod 8))), i6 u2, i6 d, i6 (bShr .i64 u2 d), i6 (bAnd .i64 (bShr .i64 u2 d) 1), y8 (w8 (bAnd .i64 (bShr .i64 u2 d) 1)), i6 b, i6 (b.tmod 8), y8 (bShl .u8 (w8 (bAnd .i64 (bShr .i64 u2 d) 1)) (b.tmod 8)), y8 (bOr .u8 (bAndNot .u8 q (bShl .u8 1 (b.tmod 8))) (bShl .u8 (w8 (bAnd .i64 (bShr .i64 u2 d) 1)) (b.tmod 8))), H, .row z (e23B u0) 23, .own t8 5 ao1 cap2 j, c, db.reg, hMx.perm lpr, R, U, ah, kf, kf, kf, kf, kf, kf, kf, kf, kf, kf, kf, kf, kf, kf, kf, kf, kf, kf, (nt f), rfl, kf, (nt h), (fun _ => da), (nt f)⟩
   ·
    obtain rfl := oj hi
    have m := hpre 20 (by kernel_rfl)
    have y := hpre 19 (by kernel_rfl)
    have aR := hpre 18 (by kernel_rfl)
    have aU := hpre 17 (by kernel_rfl)
    have N := hpre 16 (by kernel_rfl)
    have M := hpre 15 (by kernel_rfl)
    have C := hpre 14 (by kernel_rfl)
    have aP := hpre 13 (by kernel_rfl)
    have aO := hpre 12 (by kernel_rfl)
    have p := hpre 11 (by kernel_rfl)
    have aL := hpre 10 (by kernel_rfl)
    have aK := hpre 9 (by kernel_rfl)
    have aT := hpre 8 (by kernel_rfl)
    have L := hpre 7 (by kernel_rfl)
    have n := hpre 6 (by kernel_rfl)
    have ar := hpre 5 (by kernel_rfl)
    have aN := hpre 4 (by kernel_rfl)
    have aS := hpre 3 (by kernel_rfl)
    have aY := hpre 2 (by kernel_rfl)
    have aX := hpre 1 (by kernel_rfl)
    have a2 := hpre 0 (by kernel_rfl)
    have f := hSi
    have h := ngF hcl 22 21 f
    obtain rfl := R a2
    obtain rfl := U aX
    obtain rfl := ah aY
    obtain rfl := V aS
    obtain rfl := W aN
    obtain rfl := ai ar
    obtain rfl := ay n
    obtain rfl := aF L
    obtain rfl := X aT
    obtain rfl := aj aK
    obtain rfl := ap aL
    obtain rfl := aQ p
    obtain rfl := Y aO
    obtain rfl := aa aP
    obtain rfl := aq C
    obtain rfl := az M
    obtain rfl := aG N
    obtain rfl := ab aU
    obtain rfl := ak aR
    obtain rfl := aM y
    obtain rfl := a1 m
    obtain rfl := I
    obtain rfl := ac h
    refine hG (any_step ?_); clear hG G; intro A J hJ
    have l := Fz.le.trans l c
    have ex := E.mono c
    have ey := F.mono c
    have dc := aA n
    refine ixo hFx hMx 1 (T := t8) (xs := j) (w64 (b.tdiv 8)) (by simpa only [List.length_set] using cn) (k := .i64) (e := 5) (bytes := 1) (nog rfl _) rfl (by kernel_rfl) rfl (by kernel_rfl) (by kernel_rfl) rfl (by kernel_rfl) ?_; intro bJ ez dd de; clear hFx
    refine nl (qnI (hJ _ _ ?_)); clear hJ J
    exact ⟨x, bJ, .slice ao1 j.length cap2, i6 b, i6 (w64 (b.tdiv 8)), .slice ao1 j.length cap2, i6 b, i6 (w64 (b.tdiv 8)), .pointer (some ⟨x, (w64 (b.tdiv 8)).toNat * 1, none⟩), y8 q, i6 b, i6 (b.tmod 8), y8 (bShl .u8 1 (b.tmod 8)), y8 (bAndNot .u8 q (bShl .u8 1 (b.tmod 8))), i6 u2, i6 d, i6 (bShr .i64 u2 d), i6 (bAnd .i64 (bShr .i64 u2 d) 1), y8 (w8 (bAnd .i64 (bShr .i64 u2 d) 1)), i6 b, i6 (b.tmod 8), y8 (bShl .u8 (w8 (bAnd .i64 (bShr .i64 u2 d) 1)) (b.tmod 8)), y8 (bOr .u8 (bAndNot .u8 q (bShl .u8 1 (b.tmod 8))) (bShl .u8 (w8 (bAnd .i64 (bShr .i64 u2 d) 1)) (b.tmod 8))), .pointer (some ⟨bJ, (w64 (b.tdiv 8)).toNat * 1, none⟩), .row z (e23B u0) 23, .own t8 5 ao1 cap2 j, c, de.reg, hMx.perm lpr, kf, kf, kf, kf, kf, kf, kf, kf, kf, kf, kf, kf, kf, kf, kf, kf, kf, kf, kf, kf, kf, kf, rfl, kf, (nt h), (fun _ => dc), (fun _ => dd)⟩
   obtain rfl := oj hi
   have f := hpre 21 (by kernel_rfl)
   have m := hpre 20 (by kernel_rfl)
   have y := hpre 19 (by kernel_rfl)
   have aR := hpre 18 (by kernel_rfl)
   have aU := hpre 17 (by kernel_rfl)
   have N := hpre 16 (by kernel_rfl)
   have M := hpre 15 (by kernel_rfl)
   have C := hpre 14 (by kernel_rfl)
   have aP := hpre 13 (by kernel_rfl)
   have aO := hpre 12 (by kernel_rfl)
   have p := hpre 11 (by kernel_rfl)
   have aL := hpre 10 (by kernel_rfl)
   have aK := hpre 9 (by kernel_rfl)
   have aT := hpre 8 (by kernel_rfl)
   have L := hpre 7 (by kernel_rfl)
   have n := hpre 6 (by kernel_rfl)
   have ar := hpre 5 (by kernel_rfl)
   have aN := hpre 4 (by kernel_rfl)
   have aS := hpre 3 (by kernel_rfl)
   have aY := hpre 2 (by kernel_rfl)
   have aX := hpre 1 (by kernel_rfl)
   have a2 := hpre 0 (by kernel_rfl)
   have h := hSi
   obtain rfl := R a2
   obtain rfl := U aX
   obtain rfl := ah aY
   obtain rfl := V aS
   obtain rfl := W aN
   obtain rfl := ai ar
   obtain rfl := ay n
   obtain rfl := aF L
   obtain rfl := X aT
   obtain rfl := aj aK
   obtain rfl := ap aL
   obtain rfl := aQ p
   obtain rfl := Y aO
   obtain rfl := aa aP
   obtain rfl := aq C
   obtain rfl := az M
   obtain rfl := aG N
   obtain rfl := ab aU
   obtain rfl := ak aR
   obtain rfl := aM y
   obtain rfl := a1 m
   obtain rfl := bc f
   obtain rfl := I
   obtain rfl := ac h
   refine hG (any_step ?_); clear hG G; intro A J hJ
   have l := Fz.le.trans l c
   have eA := E.mono c
   have eB := F.mono c
   have df := aA n
   have bK := bd f
   refine sox hFx hMx 1 bK (T := t8) (xs := j) (w64 (b.tdiv 8)).toNat (bOr .u8 (bAndNot .u8 q (bShl .u8 1 (b.tmod 8))) (bShl .u8 (w8 (bAnd .i64 (bShr .i64 u2 d) 1)) (b.tmod 8))) (u := y8 (bOr .u8 (bAndNot .u8 q (bShl .u8 1 (b.tmod 8))) (bShl .u8 (w8 (bAnd .i64 (bShr .i64 u2 d) 1)) (b.tmod 8)))) (nog rfl _) rfl rfl (by kernel_rfl) rfl (by kernel_rfl) rfl (by kernel_rfl) (by first | omega | (simp only [List.length_set] at *; omega)) rfl ?_; intro eC dg; clear hMx
   refine nl (qnI (hJ _ _ ?_)); clear hJ J
   exact ⟨x, D, .slice ao1 j.length cap2, i6 b, i6 (w64 (b.tdiv 8)), .slice ao1 j.length cap2, i6 b, i6 (w64 (b.tdiv 8)), .pointer (some ⟨x, (w64 (b.tdiv 8)).toNat * 1, none⟩), y8 q, i6 b, i6 (b.tmod 8), y8 (bShl .u8 1 (b.tmod 8)), y8 (bAndNot .u8 q (bShl .u8 1 (b.tmod 8))), i6 u2, i6 d, i6 (bShr .i64 u2 d), i6 (bAnd .i64 (bShr .i64 u2 d) 1), y8 (w8 (bAnd .i64 (bShr .i64 u2 d) 1)), i6 b, i6 (b.tmod 8), y8 (bShl .u8 (w8 (bAnd .i64 (bShr .i64 u2 d) 1)) (b.tmod 8)), y8 (bOr .u8 (bAndNot .u8 q (bShl .u8 1 (b.tmod 8))) (bShl .u8 (w8 (bAnd .i64 (bShr .i64 u2 d) 1)) (b.tmod 8))), .pointer (some ⟨D, (w64 (b.tdiv 8)).toNat * 1, none⟩), .row z (e23B u0) 23, .own t8 5 ao1 cap2 (j.set (w64 (b.tdiv 8)).toNat (bOr .u8 (bAndNot .u8 q (bShl .u8 1 (b.tmod 8))) (bShl .u8 (w8 (bAnd .i64 (bShr .i64 u2 d) 1)) (b.tmod 8)))), c, hFx.reg, dg.perm lpr, kf, kf, kf, kf, kf, kf, kf, kf, kf, kf, kf, kf, kf, kf, kf, kf, kf, kf, kf, kf, kf, kf, rfl, nu, kf, (fun _ => df), (fun _ => bK)⟩
  case hE =>
   intro S hS bL eD hI; refine Go.Sy.hid ?_; intro G hG; obtain ⟨x, D, O, ae, P, aB, aH, aC, au, al, aD, av, am, af, aI, aJ, aE, aw, an, ax, ao, ag, Q, H, a9, hI⟩ := hI; obtain ⟨a5, c, hFx, hMx, R, U, ah, V, W, ai, ay, aF, X, aj, ap, aQ, Y, aa, aq, az, aG, ab, ak, aM, a1, hI⟩ := hI; obtain ⟨bc, I, ac, bG, aA, hI⟩ := hI; have bd := hI; clear hI; refine hG ?_; clear hG G
   obtain rfl := R (hS 0 (by decide))
   obtain rfl := U (hS 1 (by decide))
   obtain rfl := ah (hS 2 (by decide))
   obtain rfl := V (hS 3 (by decide))
   obtain rfl := W (hS 4 (by decide))
   obtain rfl := ai (hS 5 (by decide))
   obtain rfl := ay (hS 6 (by decide))
   obtain rfl := aF (hS 7 (by decide))
   obtain rfl := X (hS 8 (by decide))
   obtain rfl := aj (hS 9 (by decide))
   obtain rfl := ap (hS 10 (by decide))
   obtain rfl := aQ (hS 11 (by decide))
   obtain rfl := Y (hS 12 (by decide))
   obtain rfl := aa (hS 13 (by decide))
   obtain rfl := aq (hS 14 (by decide))
   obtain rfl := az (hS 15 (by decide))
   obtain rfl := aG (hS 16 (by decide))
   obtain rfl := ab (hS 17 (by decide))
   obtain rfl := ak (hS 18 (by decide))
   obtain rfl := aM (hS 19 (by decide))
   obtain rfl := a1 (hS 20 (by decide))
   obtain rfl := bc (hS 21 (by decide))
   obtain rfl := I
   obtain rfl := bG (hS 22 (by decide))
   have l := Fz.le.trans l c
   have eE := E.mono c
   have eF := F.mono c
   have eG := aA (hS 6 (by decide))
   have eH := bd (hS 21 (by decide))
   have dh : (j.set (w64 (b.tdiv 8)).toNat (bOr .u8 (bAndNot .u8 q (bShl .u8 1 (b.tmod 8))) (bShl .u8 (w8 (bAnd .i64 (bShr .i64 u2 d) 1)) (b.tmod 8)))).length = j.length := by first | assumption | omega | (dsimp only at *; omega) | (simp; try omega)
   have bM : Fr 39 [] [⟨1, [], .slice ao1 (j.set (w64 (b.tdiv 8)).toNat (bOr .u8 (bAndNot .u8 q (bShl .u8 1 (b.tmod 8))) (bShl .u8 (w8 (bAnd .i64 (bShr .i64 u2 d) 1)) (b.tmod 8)))).length cap2⟩, ⟨2, [], i6 u2⟩, ⟨6, [], i6 d⟩, ⟨7, [], i6 b⟩, ⟨9, [], .slice aV (placesS u0).length aW⟩, ⟨10, [], i6 ((placesS u0).length : Int)⟩, ⟨11, [], i6 d⟩, ⟨16, [], .slice ao1 (j.set (w64 (b.tdiv 8)).toNat (bOr .u8 (bAndNot .u8 q (bShl .u8 1 (b.tmod 8))) (bShl .u8 (w8 (bAnd .i64 (bShr .i64 u2 d) 1)) (b.tmod 8)))).length cap2⟩, ⟨17, [], i6 b⟩, ⟨18, [], i6 (w64 (b.tdiv 8))⟩, ⟨19, [], .slice ao1 (j.set (w64 (b.tdiv 8)).toNat (bOr .u8 (bAndNot .u8 q (bShl .u8 1 (b.tmod 8))) (bShl .u8 (w8 (bAnd .i64 (bShr .i64 u2 d) 1)) (b.tmod 8)))).length cap2⟩, ⟨20, [], i6 b⟩, ⟨21, [], i6 (w64 (b.tdiv 8))⟩, ⟨22, [], .pointer (some ⟨x, (w64 (b.tdiv 8)).toNat * 1, none⟩)⟩, ⟨23, [], y8 q⟩, ⟨24, [], i6 b⟩, ⟨25, [], i6 (b.tmod 8)⟩, ⟨26, [], y8 (bShl .u8 1 (b.tmod 8))⟩, ⟨27, [], y8 (bAndNot .u8 q (bShl .u8 1 (b.tmod 8)))⟩, ⟨28, [], i6 u2⟩, ⟨29, [], i6 d⟩, ⟨30, [], i6 (bShr .i64 u2 d)⟩, ⟨31, [], i6 (bAnd .i64 (bShr .i64 u2 d) 1)⟩, ⟨32, [], y8 (w8 (bAnd .i64 (bShr .i64 u2 d) 1))⟩, ⟨33, [], i6 b⟩, ⟨34, [], i6 (b.tmod 8)⟩, ⟨35, [], y8 (bShl .u8 (w8 (bAnd .i64 (bShr .i64 u2 d) 1)) (b.tmod 8))⟩, ⟨36, [], y8 (bOr .u8 (bAndNot .u8 q (bShl .u8 1 (b.tmod 8))) (bShl .u8 (w8 (bAnd .i64 (bShr .i64 u2 d) 1)) (b.tmod 8)))⟩, ⟨37, [], .pointer (some ⟨D, (w64 (b.tdiv 8)).toNat * 1, none⟩)⟩] bL := by rw [dh]; exact hFx.reg
   clear hFx
   refine ibn ?_
   refine thn ?_
   have bN : Fr 39 [] [⟨1, [], .slice ao1 (j.set (w64 (b.tdiv 8)).toNat (bOr .u8 (bAndNot .u8 q (bShl .u8 1 (b.tmod 8))) (bShl .u8 (w8 (bAnd .i64 (bShr .i64 u2 d) 1)) (b.tmod 8)))).length cap2⟩, ⟨2, [], i6 u2⟩, ⟨9, [], .slice aV (placesS u0).length aW⟩, ⟨10, [], i6 ((placesS u0).length : Int)⟩, ⟨11, [], i6 d⟩] bL := bM.reg; clear bM
   refine rgB bN hMx [] [] [(11, i6 (w64 (d + 1)))] ?_; intro eI di; clear bN
   refine rd ?_
   exact ⟨⟨w64 (d + 1), j.set (w64 (b.tdiv 8)).toNat (bOr .u8 (bAndNot .u8 q (bShl .u8 1 (b.tmod 8))) (bShl .u8 (w8 (bAnd .i64 (bShr .i64 u2 d) 1)) (b.tmod 8)))⟩, bF.1, bF.2, (di.reg).anyβ _ (by kernel_rfl), hMx.keep (List.Sublist.cons_cons _ (List.Sublist.cons_cons _ (List.Sublist.refl _)))⟩
 have dj := a8.2 bb; clear a8
 refine wp_exit ?_
 refine thx ?_
 refine thx ?_
 refine ibx ?_
 obtain ⟨dk, dl⟩ := dj
 refine rN (fn := Tryd.f47) (v := .tuple #[]) a4 (re0 a4 (fn := Tryd.f47) rfl) ?_
 exact ⟨j, aZ, rfl, dl, l, dk, a3.keep (List.Sublist.cons _ (List.Sublist.cons_cons _ (List.Sublist.refl _)))⟩

end Go.Proofs.YtdndfbamhnchfaaDoor
set_option linter.unusedVariables false
set_option linter.unusedSimpArgs false
set_option maxRecDepth 100000
set_option maxHeartbeats 0
namespace Go.Proofs.YtdndfbamhnchfaaDoor
open Go.Sy Go.RowKit
abbrev e23C (X : Signal) : List Value := [str X.Name, i6 X.Start, i6 X.Size, .bool X.Back, .bool X.Signed, i6 X.Mul, i6 X.Div, i6 X.Add, i6 X.Key]
theorem scheck_fun (u0 : Signal) (u1 : Int)  (Z : Fz) (w : World)  (hZ : Z.on w) : Calls Tryd.prog 19 #[.agg #[str u0.Name, i6 u0.Start, i6 u0.Size, .bool u0.Back, .bool u0.Signed, i6 u0.Mul, i6 u0.Div, i6 u0.Add, i6 u0.Key], i6 u1] w fun e w' => e = .returned (i6 (checkS u0 u1)) ∧ Below w.heap.size w w' :=
  (scheck_walk u0 u1  Z w  hZ (scheck_ok u0 u1)).mono fun _ _ ⟨r, he, hk, hb⟩ => ⟨by subst hk; exact he, hb⟩

theorem sget_fun (u0 : Signal) (u1 : List Int) (hpre : inD u0 u1) (ao1 : Option Addr) (cap2 : Nat) (Z : Fz) (w : World) (hs3 : SlR t8 Z ao1 cap2 u1) (hZ : Z.on w) : Calls Tryd.prog 35 #[.agg #[str u0.Name, i6 u0.Start, i6 u0.Size, .bool u0.Back, .bool u0.Signed, i6 u0.Mul, i6 u0.Div, i6 u0.Add, i6 u0.Key], .slice ao1 u1.length cap2] w fun e w' => e = .returned (i6 (getS u0 u1)) ∧ Below w.heap.size w w' :=
  (sget_walk u0 u1 ao1 cap2 Z w hs3 hZ (sget_ok u0 u1 hpre)).mono fun _ _ ⟨r, he, hk, hb⟩ => ⟨by subst hk; exact he, hb⟩

theorem sputd_fun (u0 : Signal) (u1 : List Int) (u2 : Int) (hpre : inD u0 u1) (ao1 : Option Addr) (cap2 : Nat) (B : Nat) (w0 : World) (Z0 : Fz) (Rr : List Res) (Z : Fz) (w : World) (hM0 : Mem B [] w0 Z0 ((.own t8 5 ao1 cap2 u1) :: Rr) Z w) (hZ : Z.on w) : Calls Tryd.prog 47 #[.agg #[str u0.Name, i6 u0.Start, i6 u0.Size, .bool u0.Back, .bool u0.Signed, i6 u0.Mul, i6 u0.Div, i6 u0.Add, i6 u0.Key], .slice ao1 u1.length cap2, i6 u2] w fun e w' => ∃ (Z' : Fz), e = .returned (.tuple #[]) ∧ Fz.le Z Z' ∧ ((putS u0 u1 u2).length = u1.length) ∧ Mem B [] w0 Z0 ((.own t8 5 ao1 cap2 (putS u0 u1 u2)) :: Rr) Z' w' :=
  (sputd_walk u0 u1 u2 ao1 cap2 B w0 Z0 Rr Z w hM0 hZ (sputd_ok u0 u1 u2 hpre)).mono fun _ _ ⟨r, h0, he, hk, f0, f1, hm⟩ => by subst hk; exact ⟨h0, he, f0, f1, hm⟩

theorem sraw_walk (u0 : Signal) (u1 : Int) (u2 : Int)  (Z : Fz) (w : World)  (hZ : Z.on w) {K : (Int × Int) → Prop} (hp : sraw_vc u0 u1 u2 K) : Calls Tryd.prog 13 #[.agg #[str u0.Name, i6 u0.Start, i6 u0.Size, .bool u0.Back, .bool u0.Signed, i6 u0.Mul, i6 u0.Div, i6 u0.Add, i6 u0.Key], i6 u1, i6 u2] w fun e w' => ∃ r : Int × Int, e = .returned (.tuple #[i6 r.1, i6 r.2]) ∧ K r ∧ Below w.heap.size w w' := by
 refine enter0 Tryd.func13 rfl rfl (by kernel_rfl) ?_; intro a0 eh; have ei := Mem.start w Z hZ; have lH := Fz.le.refl Z
 refine sqH ?_; intro iC ej
 refine nw eh ei pb (e23C u0) 23 ?_; intro p a3 lI ek u; clear eh ei
 refine bt ek u 2 [] [] [] ?_; intro a9 el; clear ek
 refine nlH (ej _ _ ?_); clear ej iC
 refine wp_seq ?_
 refine sqH ?_; intro iD em
 refine l2 el u 17 0 0 9 (e23C u0) rfl rfl ?_; intro lJ en; clear el
 refine fc en u (scheck_fun u0 64 _ _ u.fz) ?_; intro lK lL eo q; clear en u
 refine s1 eo 8 (i6 (checkS u0 64)) ?_; intro lM ep; clear eo
 refine nlH (em _ _ ?_); clear em iD
 refine sqB ep q [] [] [(20, .bool ((checkS u0 64) != 0))] ?_; intro lN x; clear ep
 refine cd x (t := (checkS u0 64) != 0) (by kernel_rfl) (fun dq => ?_) (fun dq => ?_)
 ·
  have iE := hp.1 dq; clear hp
  refine sqB x q [] [] [(6, i6 0), (7, i6 (checkS u0 64))] ?_; intro lO iF; clear x
  refine wp_ret ?_
  refine thr ?_
  refine ra2 iF (.tuple #[i6 0, i6 (checkS u0 64)]) ?_
  exact ⟨(0, (checkS u0 64)), rfl, iE, q.below⟩
 have aA := hp.2 dq; clear hp
 refine wp_skip ?_
 refine thn ?_
 refine wp_seq ?_
 refine sqB x q [] [] [(35, .bool ((((decide (u2 < 1)) || (decide (u2 > 1000000))) || (decide (u1 > 1099511627776))) || (decide (u1 < (-1099511627776)))))] ?_; intro lP y; clear x
 refine cd y (t := (((decide (u2 < 1)) || (decide (u2 > 1000000))) || (decide (u1 > 1099511627776))) || (decide (u1 < (-1099511627776)))) (by kernel_rfl) (fun dr => ?_) (fun dr => ?_)
 ·
  have iG := aA.1 dr; clear aA
  refine sqB y q [] [] [(6, i6 0), (7, i6 3)] ?_; intro lQ iH; clear y
  refine wp_ret ?_
  refine thr ?_
  refine ra2 iH (.tuple #[i6 0, i6 3]) ?_
  exact ⟨(0, 3), rfl, iG, q.below⟩
 have iI := aA.2 dr; clear aA
 refine wp_skip ?_
 refine thn ?_
 refine sqB y q [0] [] [(9, i6 (w64 (u1 - (w64 (u0.Add * u2)))))] ?_; intro lR eq; clear y
 refine sqH ?_; intro iJ er
 refine bt eq q 4 [0, 0] [] [(43, i6 u0.Div), (45, i6 u0.Mul)] ?_; intro lS es; clear eq
 refine ck es 45 #[i6 u0.Div, i6 u0.Mul] ?_
 refine (sgcd_walk u0.Div u0.Mul _ _ q.fz iI).mono ?_; rintro _ lT ⟨n, rfl, iK, hb⟩; refine ⟨_, rfl, ?_⟩; intro lU et; have eu := q.call hb; clear hb q es
 refine s1 et 10 (i6 n) ?_; intro iL ev; clear et
 refine nlH (er _ _ ?_); clear er iJ
 have ew : Fr 171 [] [⟨2, [], i6 u2⟩, ⟨3, [], pt p 0⟩, ⟨9, [], i6 (w64 (u1 - (w64 (u0.Add * u2))))⟩, ⟨10, [], i6 n⟩] iL := ev.reg; clear ev
 refine sqQH mixed (by kernel_rfl) eu ?_; intro iM ex
 refine q1 ew 47 (pt p 6) ?_; intro lV ds; clear ew
 refine qst ds (i6 u0.Div) (nog rfl _) rfl (by kernel_rfl) (fun v112 hC => ld ds hC 0 (g := []) (b := p) (off := 6) (cs := (e23C u0)) (ty := 23) rfl (by kernel_rfl) (by kernel_rfl) (by kernel_rfl) (by kernel_rfl) rfl) ?_; intro lW ey; clear ds
 refine q1 ey 49 (i6 n) ?_; intro lX dt; clear ey
 obtain ⟨iN, iO⟩ := iK
 refine qst dt (i6 (w64 (u0.Div.tdiv n))) (nog rfl _) rfl (by kernel_rfl) (fun v118 hC => quo_run dt (g := []) rfl (by kernel_rfl) (by kernel_rfl) iN rfl) ?_; intro lY ez; clear dt
 refine q1 ez 51 (pt p 5) ?_; intro lZ du; clear ez
 refine qst du (i6 u0.Mul) (nog rfl _) rfl (by kernel_rfl) (fun v126 hC => ld du hC 0 (g := []) (b := p) (off := 5) (cs := (e23C u0)) (ty := 23) rfl (by kernel_rfl) (by kernel_rfl) (by kernel_rfl) (by kernel_rfl) rfl) ?_; intro l0 eA; clear du
 refine q1 eA 53 (i6 n) ?_; intro l1 dv; clear eA
 obtain ⟨iP, iQ⟩ := iO
 refine qst dv (i6 (w64 (u0.Mul.tdiv n))) (nog rfl _) rfl (by kernel_rfl) (fun v132 hC => quo_run dv (g := []) rfl (by kernel_rfl) (by kernel_rfl) iP rfl) ?_; intro l3 eB; clear dv
 refine q1 eB 11 (i6 (w64 (u0.Div.tdiv n))) ?_; intro l4 eC; clear eB
 refine q1 eC 12 (i6 (w64 (u0.Mul.tdiv n))) ?_; intro l5 eD; clear eC
 refine qnl (ex _ ?_); clear ex iM; intro l6 z; clear eu
 refine wp_seq ?_
 refine sqB eD z [] [] [(56, .bool (decide ((w64 (u0.Mul.tdiv n)) < 0)))] ?_; intro eE eF; clear eD
 have eG : Fr 171 [] [⟨2, [], i6 u2⟩, ⟨3, [], pt p 0⟩, ⟨9, [], i6 (w64 (u1 - (w64 (u0.Add * u2))))⟩, ⟨11, [], i6 (w64 (u0.Div.tdiv n))⟩, ⟨12, [], i6 (w64 (u0.Mul.tdiv n))⟩, ⟨56, [], .bool (decide ((w64 (u0.Mul.tdiv n)) < 0))⟩] eE := eF.reg; clear eF
 have A : Fr 171 [] [⟨2, [], i6 u2⟩, ⟨3, [], pt p 0⟩, ⟨9, [], i6 (w64 (u1 - (w64 (u0.Add * u2))))⟩, ⟨11, [], i6 (w64 (u0.Div.tdiv n))⟩, ⟨12, [], i6 (w64 (u0.Mul.tdiv n))⟩, ⟨56, [], .bool (decide ((w64 (u0.Mul.tdiv n)) < 0))⟩] eE := eG.reg; clear eG
 obtain ⟨iR, aB, iS⟩ := iQ
 refine wp_then_k fun KJ155 hKJ156 => ?_
 have eH : ∀ (h : Int) (o : Int), iR h o → ∀ a1 w1, Fr 171 [] [⟨2, [], i6 u2⟩, ⟨3, [], pt p 0⟩, ⟨9, [], i6 (w64 (u1 - (w64 (u0.Add * u2))))⟩, ⟨11, [], i6 h⟩, ⟨12, [], i6 o⟩] a1 → Mem w.heap.size [] w Z [.row p (e23C u0) 23] Z w1 → KJ155 a1 w1 := by
  rintro h o iT l7 l8 eI aC; clear A z
  refine hKJ156 _ _ ?_; clear hKJ156
  have iU := iS h o iT
  refine sqH ?_; intro iV eJ
  refine bt eI aC 2 [] [] [(61, i6 (w64 (u1 - (w64 (u0.Add * u2))))), (62, i6 u2)] ?_; intro l9 eK; clear eI
  refine ck eK 45 #[i6 (w64 (u1 - (w64 (u0.Add * u2)))), i6 u2] ?_
  refine (sgcd_walk (w64 (u1 - (w64 (u0.Add * u2)))) u2 _ _ aC.fz iU).mono ?_; rintro _ ma ⟨a, rfl, iW, hb⟩; refine ⟨_, rfl, ?_⟩; intro mb eL; have eM := aC.call hb; clear hb aC eK
  refine s1 eL 13 (i6 a) ?_; intro iX eN; clear eL
  refine nlH (eJ _ _ ?_); clear eJ iV
  have eO : Fr 171 [] [⟨2, [], i6 u2⟩, ⟨3, [], pt p 0⟩, ⟨9, [], i6 (w64 (u1 - (w64 (u0.Add * u2))))⟩, ⟨11, [], i6 h⟩, ⟨12, [], i6 o⟩, ⟨13, [], i6 a⟩] iX := eN.reg; clear eN
  refine sqQH mixed (by kernel_rfl) eM ?_; intro iY eP
  refine q1 eO 64 (i6 (w64 (u1 - (w64 (u0.Add * u2))))) ?_; intro mc eQ; clear eO
  refine q1 eQ 65 (i6 a) ?_; intro md dw; clear eQ
  obtain ⟨iZ, i0⟩ := iW
  refine qst dw (i6 (w64 ((w64 (u1 - (w64 (u0.Add * u2)))).tdiv a))) (nog rfl _) rfl (by kernel_rfl) (fun v185 hC => quo_run dw (g := []) rfl (by kernel_rfl) (by kernel_rfl) iZ rfl) ?_; intro me eR; clear dw
  refine q1 eR 67 (i6 u2) ?_; intro mf eS; clear eR
  refine q1 eS 68 (i6 a) ?_; intro mg dx; clear eS
  obtain ⟨i1, i2⟩ := i0
  refine qst dx (i6 (w64 (u2.tdiv a))) (nog rfl _) rfl (by kernel_rfl) (fun v196 hC => quo_run dx (g := []) rfl (by kernel_rfl) (by kernel_rfl) i1 rfl) ?_; intro mh eT; clear dx
  refine q1 eT 9 (i6 (w64 ((w64 (u1 - (w64 (u0.Add * u2)))).tdiv a))) ?_; intro mi eU; clear eT
  refine q1 eU 2 (i6 (w64 (u2.tdiv a))) ?_; intro mj eV; clear eU
  refine qnl (eP _ ?_); clear eP iY; intro mk aD; clear eM
  refine sqH ?_; intro i3 eW
  refine bt eV aD 2 [] [] [(70, i6 h), (71, i6 (w64 (u2.tdiv a)))] ?_; intro ml eX; clear eV
  refine ck eX 45 #[i6 h, i6 (w64 (u2.tdiv a))] ?_
  refine (sgcd_walk h (w64 (u2.tdiv a)) _ _ aD.fz i2).mono ?_; rintro _ mm ⟨i, rfl, i4, hb⟩; refine ⟨_, rfl, ?_⟩; intro mn eY; have eZ := aD.call hb; clear hb aD eX
  refine s1 eY 13 (i6 i) ?_; intro i5 e0; clear eY
  refine nlH (eW _ _ ?_); clear eW i3
  have e1 : Fr 171 [] [⟨2, [], i6 (w64 (u2.tdiv a))⟩, ⟨3, [], pt p 0⟩, ⟨9, [], i6 (w64 ((w64 (u1 - (w64 (u0.Add * u2)))).tdiv a))⟩, ⟨11, [], i6 h⟩, ⟨12, [], i6 o⟩, ⟨13, [], i6 i⟩] i5 := e0.reg; clear e0
  refine sqQH mixed (by kernel_rfl) eZ ?_; intro i7 e2
  refine q1 e1 73 (i6 h) ?_; intro mo e3; clear e1
  refine q1 e3 74 (i6 i) ?_; intro mp dy; clear e3
  obtain ⟨i8, i9⟩ := i4
  refine qst dy (i6 (w64 (h.tdiv i))) (nog rfl _) rfl (by kernel_rfl) (fun v230 hC => quo_run dy (g := []) rfl (by kernel_rfl) (by kernel_rfl) i8 rfl) ?_; intro mq e4; clear dy
  refine q1 e4 76 (i6 (w64 (u2.tdiv a))) ?_; intro mr e5; clear e4
  refine q1 e5 77 (i6 i) ?_; intro ms dz; clear e5
  obtain ⟨ja, jb⟩ := i9
  refine qst dz (i6 (w64 ((w64 (u2.tdiv a)).tdiv i))) (nog rfl _) rfl (by kernel_rfl) (fun v241 hC => quo_run dz (g := []) rfl (by kernel_rfl) (by kernel_rfl) ja rfl) ?_; intro mt e6; clear dz
  refine q1 e6 11 (i6 (w64 (h.tdiv i))) ?_; intro mu e7; clear e6
  refine q1 e7 2 (i6 (w64 ((w64 (u2.tdiv a)).tdiv i))) ?_; intro mv e8; clear e7
  refine qnl (e2 _ ?_); clear e2 i7; intro mw aE; clear eZ
  refine sqH ?_; intro jc e9
  refine bt e8 aE 2 [] [] [(79, i6 (w64 ((w64 (u1 - (w64 (u0.Add * u2)))).tdiv a))), (80, i6 o)] ?_; intro mx fa; clear e8
  refine ck fa 45 #[i6 (w64 ((w64 (u1 - (w64 (u0.Add * u2)))).tdiv a)), i6 o] ?_
  refine (sgcd_walk (w64 ((w64 (u1 - (w64 (u0.Add * u2)))).tdiv a)) o _ _ aE.fz jb).mono ?_; rintro _ my ⟨f, rfl, jd, hb⟩; refine ⟨_, rfl, ?_⟩; intro mz fb; have fd := aE.call hb; clear hb aE fa
  refine s1 fb 13 (i6 f) ?_; intro je fe; clear fb
  refine nlH (e9 _ _ ?_); clear e9 jc
  have ff : Fr 171 [] [⟨2, [], i6 (w64 ((w64 (u2.tdiv a)).tdiv i))⟩, ⟨3, [], pt p 0⟩, ⟨9, [], i6 (w64 ((w64 (u1 - (w64 (u0.Add * u2)))).tdiv a))⟩, ⟨11, [], i6 (w64 (h.tdiv i))⟩, ⟨12, [], i6 o⟩, ⟨13, [], i6 f⟩] je := fe.reg; clear fe
  refine sqQH mixed (by kernel_rfl) fd ?_; intro jf fg
  refine q1 ff 82 (i6 (w64 ((w64 (u1 - (w64 (u0.Add * u2)))).tdiv a))) ?_; intro mA fh; clear ff
  refine q1 fh 83 (i6 f) ?_; intro mB dA; clear fh
  obtain ⟨jg, jh⟩ := jd
  refine qst dA (i6 (w64 ((w64 ((w64 (u1 - (w64 (u0.Add * u2)))).tdiv a)).tdiv f))) (nog rfl _) rfl (by kernel_rfl) (fun v275 hC => quo_run dA (g := []) rfl (by kernel_rfl) (by kernel_rfl) jg rfl) ?_; intro mC fi; clear dA
  refine q1 fi 85 (i6 o) ?_; intro mD fj; clear fi
  refine q1 fj 86 (i6 f) ?_; intro mE dB; clear fj
  obtain ⟨ji, aF⟩ := jh
  refine qst dB (i6 (w64 (o.tdiv f))) (nog rfl _) rfl (by kernel_rfl) (fun v286 hC => quo_run dB (g := []) rfl (by kernel_rfl) (by kernel_rfl) ji rfl) ?_; intro mF fk; clear dB
  refine q1 fk 9 (i6 (w64 ((w64 ((w64 (u1 - (w64 (u0.Add * u2)))).tdiv a)).tdiv f))) ?_; intro mG fl; clear fk
  refine q1 fl 12 (i6 (w64 (o.tdiv f))) ?_; intro mH fm; clear fl
  refine qnl (fg _ ?_); clear fg jf; intro mI s; clear fd
  refine wp_seq ?_
  refine sqB fm s [] [] [(93, .bool (((w64 ((w64 (u2.tdiv a)).tdiv i)) != 1) || ((w64 (o.tdiv f)) != 1)))] ?_; intro mJ B; clear fm
  refine cd B (t := ((w64 ((w64 (u2.tdiv a)).tdiv i)) != 1) || ((w64 (o.tdiv f)) != 1)) (by kernel_rfl) (fun dC => ?_) (fun dC => ?_)
  ·
   have jj := aF.1 dC; clear aF
   refine sqB B s [] [] [(6, i6 0), (7, i6 4)] ?_; intro mK jk; clear B
   refine wp_ret ?_
   refine thr ?_
   refine ra2 jk (.tuple #[i6 0, i6 4]) ?_
   exact ⟨(0, 4), rfl, jj, s.below⟩
  have jl := aF.2 dC; clear aF
  refine wp_skip ?_
  refine thn ?_
  refine sqH ?_; intro jm fn
  refine l2 B s 95 0 0 9 (e23C u0) rfl rfl ?_; intro mL fo; clear B
  obtain ⟨jn, aG⟩ := jl
  refine fc fo s (sbounds_fun u0 jn _ _ s.fz) ?_; intro mM mN fp j; clear fo s
  refine bt fp j 5 [] [] [(14, i6 (boundsS u0).1), (15, i6 (boundsS u0).2)] ?_; intro mO fq; clear fp
  refine nlH (fn _ _ ?_); clear fn jm
  refine wp_seq ?_
  refine sqH ?_; intro l k
  refine bt fq j 7 [] [] [(105, .bool ((decide ((w64 ((w64 ((w64 (u1 - (w64 (u0.Add * u2)))).tdiv a)).tdiv f)) > 0)) && (decide ((w64 (h.tdiv i)) > 0))))] ?_; intro mP aH; clear fq
  rcases Bool.eq_false_or_eq_true ((decide ((w64 ((w64 ((w64 (u1 - (w64 (u0.Add * u2)))).tdiv a)).tdiv f)) > 0)) && (decide ((w64 (h.tdiv i)) > 0))) with C | C
  ·
   have jo := aG.1 C; clear aG
   have fr := aH.reval (d := 105) (c := []) (v := .bool ((decide ((w64 ((w64 ((w64 (u1 - (w64 (u0.Add * u2)))).tdiv a)).tdiv f)) > 0)) && (decide ((w64 (h.tdiv i)) > 0)))) (by kernel_rfl) (.bool true) (by rw [C]); clear aH
   refine bt fr j 3 [] [106, 107, 108] [(106, i6 (w64 ((w64 ((w64 (u1 - (w64 (u0.Add * u2)))).tdiv a)).tdiv f))), (107, i6 (boundsS u0).2), (108, i6 (w64 (h.tdiv i)))] ?_; intro mQ aI; clear fr
   obtain ⟨jp, aJ⟩ := jo
   refine st aI (i6 (w64 ((boundsS u0).2.tdiv (w64 (h.tdiv i))))) (by rw [wanted_of aI (b := true) rfl rfl (by kernel_rfl) (by kernel_rfl)]; rfl) rfl (by kernel_rfl) (quo_run aI (g := []) rfl (by kernel_rfl) (by kernel_rfl) jp rfl) ?_; intro mR fs; clear aI
   refine bt fs j 3 [] [110, 111] [(112, .bool (decide ((w64 ((w64 ((w64 (u1 - (w64 (u0.Add * u2)))).tdiv a)).tdiv f)) > (w64 ((boundsS u0).2.tdiv (w64 (h.tdiv i)))))))] ?_; intro mS aK; clear fs
   rcases Bool.eq_false_or_eq_true (decide ((w64 ((w64 ((w64 (u1 - (w64 (u0.Add * u2)))).tdiv a)).tdiv f)) > (w64 ((boundsS u0).2.tdiv (w64 (h.tdiv i)))))) with D | D
   ·
    have jq := aJ.1 D; clear aJ
    have ft := aK.reval (d := 112) (c := []) (v := .bool (decide ((w64 ((w64 ((w64 (u1 - (w64 (u0.Add * u2)))).tdiv a)).tdiv f)) > (w64 ((boundsS u0).2.tdiv (w64 (h.tdiv i))))))) (by kernel_rfl) (.bool true) (by rw [D]); clear aK
    refine bt ft j 44 [] [113, 114, 115, 116, 117, 118, 119, 120, 121, 122, 123, 124, 125, 126, 128, 129, 130, 131, 132, 133, 134, 135, 136, 137, 138, 139, 140, 141, 143, 144, 145, 146, 147, 148, 149, 150, 151, 152, 153, 154, 155, 156] [(156, .bool true)] ?_; intro mT dD; clear ft
    refine nlH (k _ _ ?_); clear k l
    refine cdT dD (by kernel_rfl) ?_
    refine sqB dD j [] [] [(6, i6 0), (7, i6 3)] ?_; intro mU jr; clear dD
    refine wp_ret ?_
    refine thr ?_
    refine ra2 jr (.tuple #[i6 0, i6 3]) ?_
    exact ⟨(0, 3), rfl, jq, j.below⟩
   have aL := aJ.2 D; clear aJ
   have aM := aK.reval (d := 112) (c := []) (v := .bool (decide ((w64 ((w64 ((w64 (u1 - (w64 (u0.Add * u2)))).tdiv a)).tdiv f)) > (w64 ((boundsS u0).2.tdiv (w64 (h.tdiv i))))))) (by kernel_rfl) (.bool false) (by rw [D]); clear aK
   refine st aM (i6 (w64 ((w64 ((w64 (u1 - (w64 (u0.Add * u2)))).tdiv a)).tdiv f))) (by rw [wanted_of aM (b := false) rfl rfl (by kernel_rfl) (by kernel_rfl)]; rfl) rfl (by kernel_rfl) (p0 aM (by kernel_rfl)) ?_; intro mV aN; clear aM
   refine st aN (.bool (decide ((w64 ((w64 ((w64 (u1 - (w64 (u0.Add * u2)))).tdiv a)).tdiv f)) < 0))) (by rw [wanted_of aN (b := false) rfl rfl (by kernel_rfl) (by kernel_rfl)]; rfl) rfl (by kernel_rfl) (p0 aN (by kernel_rfl)) ?_; intro mW aO; clear aN
   refine st aO (.bool (decide ((w64 ((w64 ((w64 (u1 - (w64 (u0.Add * u2)))).tdiv a)).tdiv f)) < 0))) (by rw [wanted_of aO (b := false) rfl rfl (by kernel_rfl) (by kernel_rfl)]; rfl) rfl (by kernel_rfl) (p0 aO (by kernel_rfl)) ?_; intro mX fu; clear aO
   have fv := fu.atom ((decide ((w64 ((w64 ((w64 (u1 - (w64 (u0.Add * u2)))).tdiv a)).tdiv f)) < 0)) == true) (by kernel_rfl); clear fu
   refine gp fv 116 0 [] (decide ((w64 ((w64 ((w64 (u1 - (w64 (u0.Add * u2)))).tdiv a)).tdiv f)) < 0)) (i6 (w64 (h.tdiv i))) rfl rfl ?_; intro mY fw; clear fv
   refine gp fw 117 0 [] (decide ((w64 ((w64 ((w64 (u1 - (w64 (u0.Add * u2)))).tdiv a)).tdiv f)) < 0)) (.bool (decide ((w64 (h.tdiv i)) > 0))) rfl rfl ?_; intro mZ aP; clear fw
   refine st aP (.bool ((decide ((w64 ((w64 ((w64 (u1 - (w64 (u0.Add * u2)))).tdiv a)).tdiv f)) < 0)) && (decide ((w64 (h.tdiv i)) > 0)))) (by rw [wanted_of aP (b := false) rfl rfl (by kernel_rfl) (by kernel_rfl)]; rfl) rfl (by kernel_rfl) (pk_and aP (g := []) (m := 0) (b := decide ((w64 ((w64 ((w64 (u1 - (w64 (u0.Add * u2)))).tdiv a)).tdiv f)) < 0)) (v := decide ((w64 (h.tdiv i)) > 0)) rfl (by kernel_rfl) (by kernel_rfl) (by kernel_rfl) rfl) ?_; intro m0 aQ; clear aP
   refine st aQ (.bool ((decide ((w64 ((w64 ((w64 (u1 - (w64 (u0.Add * u2)))).tdiv a)).tdiv f)) < 0)) && (decide ((w64 (h.tdiv i)) > 0)))) (by rw [wanted_of aQ (b := false) rfl rfl (by kernel_rfl) (by kernel_rfl)]; rfl) rfl (by kernel_rfl) (p0 aQ (by kernel_rfl)) ?_; intro m1 aR; clear aQ
   rcases Bool.eq_false_or_eq_true ((decide ((w64 ((w64 ((w64 (u1 - (w64 (u0.Add * u2)))).tdiv a)).tdiv f)) < 0)) && (decide ((w64 (h.tdiv i)) > 0))) with E | E
   ·
    have js := aL.1 E; clear aL
    have fx := aR.reval (d := 119) (c := []) (v := .bool ((decide ((w64 ((w64 ((w64 (u1 - (w64 (u0.Add * u2)))).tdiv a)).tdiv f)) < 0)) && (decide ((w64 (h.tdiv i)) > 0)))) (by kernel_rfl) (.bool true) (by rw [E]); clear aR
    refine bt fx j 3 [] [120, 121, 122] [(120, i6 (w64 ((w64 ((w64 (u1 - (w64 (u0.Add * u2)))).tdiv a)).tdiv f))), (121, i6 (boundsS u0).1), (122, i6 (w64 (h.tdiv i)))] ?_; intro m2 aS; clear fx
    obtain ⟨jt, aT⟩ := js
    refine st aS (i6 (w64 ((boundsS u0).1.tdiv (w64 (h.tdiv i))))) (by rw [wanted_of aS (b := true) rfl rfl (by kernel_rfl) (by kernel_rfl)]; rfl) rfl (by kernel_rfl) (quo_run aS (g := []) rfl (by kernel_rfl) (by kernel_rfl) jt rfl) ?_; intro m3 fy; clear aS
    refine bt fy j 4 [] [124, 125, 126] [(127, .bool (decide ((w64 ((w64 ((w64 (u1 - (w64 (u0.Add * u2)))).tdiv a)).tdiv f)) < (w64 ((boundsS u0).1.tdiv (w64 (h.tdiv i)))))))] ?_; intro m4 aU; clear fy
    rcases Bool.eq_false_or_eq_true (decide ((w64 ((w64 ((w64 (u1 - (w64 (u0.Add * u2)))).tdiv a)).tdiv f)) < (w64 ((boundsS u0).1.tdiv (w64 (h.tdiv i)))))) with F | F
    ·
     have ju := aT.1 F; clear aT
     have fA := aU.reval (d := 127) (c := []) (v := .bool (decide ((w64 ((w64 ((w64 (u1 - (w64 (u0.Add * u2)))).tdiv a)).tdiv f)) < (w64 ((boundsS u0).1.tdiv (w64 (h.tdiv i))))))) (by kernel_rfl) (.bool true) (by rw [F]); clear aU
     refine bt fA j 29 [] [128, 129, 130, 131, 132, 133, 134, 135, 136, 137, 138, 139, 140, 141, 143, 144, 145, 146, 147, 148, 149, 150, 151, 152, 153, 154, 155, 156] [(156, .bool true)] ?_; intro jv dE; clear fA
     refine nlH (k _ _ ?_); clear k l
     refine cdT dE (by kernel_rfl) ?_
     have fB : Fr 171 [] [] jv := dE.reg; clear dE
     refine sqB fB j [] [] [(6, i6 0), (7, i6 3)] ?_; intro m5 jw; clear fB
     refine wp_ret ?_
     refine thr ?_
     refine ra2 jw (.tuple #[i6 0, i6 3]) ?_
     exact ⟨(0, 3), rfl, ju, j.below⟩
    have aV := aT.2 F; clear aT
    have aW := aU.reval (d := 127) (c := []) (v := .bool (decide ((w64 ((w64 ((w64 (u1 - (w64 (u0.Add * u2)))).tdiv a)).tdiv f)) < (w64 ((boundsS u0).1.tdiv (w64 (h.tdiv i))))))) (by kernel_rfl) (.bool false) (by rw [F]); clear aU
    refine st aW (i6 (w64 ((w64 ((w64 (u1 - (w64 (u0.Add * u2)))).tdiv a)).tdiv f))) (by rw [wanted_of aW (b := false) rfl rfl (by kernel_rfl) (by kernel_rfl)]; rfl) rfl (by kernel_rfl) (p0 aW (by kernel_rfl)) ?_; intro m6 aX; clear aW
    refine st aX (.bool (decide ((w64 ((w64 ((w64 (u1 - (w64 (u0.Add * u2)))).tdiv a)).tdiv f)) > 0))) (by rw [wanted_of aX (b := false) rfl rfl (by kernel_rfl) (by kernel_rfl)]; rfl) rfl (by kernel_rfl) (p0 aX (by kernel_rfl)) ?_; intro m7 aY; clear aX
    refine st aY (.bool (decide ((w64 ((w64 ((w64 (u1 - (w64 (u0.Add * u2)))).tdiv a)).tdiv f)) > 0))) (by rw [wanted_of aY (b := false) rfl rfl (by kernel_rfl) (by kernel_rfl)]; rfl) rfl (by kernel_rfl) (p0 aY (by kernel_rfl)) ?_; intro m8 fC; clear aY
    have fD := fC.atom ((decide ((w64 ((w64 ((w64 (u1 - (w64 (u0.Add * u2)))).tdiv a)).tdiv f)) > 0)) == true) (by kernel_rfl); clear fC
    refine gp fD 131 0 [] (decide ((w64 ((w64 ((w64 (u1 - (w64 (u0.Add * u2)))).tdiv a)).tdiv f)) > 0)) (i6 (w64 (h.tdiv i))) rfl rfl ?_; intro m9 fE; clear fD
    refine gp fE 132 0 [] (decide ((w64 ((w64 ((w64 (u1 - (w64 (u0.Add * u2)))).tdiv a)).tdiv f)) > 0)) (.bool (decide ((w64 (h.tdiv i)) < 0))) rfl rfl ?_; intro na aZ; clear fE
    refine st aZ (.bool ((decide ((w64 ((w64 ((w64 (u1 - (w64 (u0.Add * u2)))).tdiv a)).tdiv f)) > 0)) && (decide ((w64 (h.tdiv i)) < 0)))) (by rw [wanted_of aZ (b := false) rfl rfl (by kernel_rfl) (by kernel_rfl)]; rfl) rfl (by kernel_rfl) (pk_and aZ (g := []) (m := 0) (b := decide ((w64 ((w64 ((w64 (u1 - (w64 (u0.Add * u2)))).tdiv a)).tdiv f)) > 0)) (v := decide ((w64 (h.tdiv i)) < 0)) rfl (by kernel_rfl) (by kernel_rfl) (by kernel_rfl) rfl) ?_; intro nb a2; clear aZ
    refine st a2 (.bool ((decide ((w64 ((w64 ((w64 (u1 - (w64 (u0.Add * u2)))).tdiv a)).tdiv f)) > 0)) && (decide ((w64 (h.tdiv i)) < 0)))) (by rw [wanted_of a2 (b := false) rfl rfl (by kernel_rfl) (by kernel_rfl)]; rfl) rfl (by kernel_rfl) (p0 a2 (by kernel_rfl)) ?_; intro nc a4; clear a2
    rcases Bool.eq_false_or_eq_true ((decide ((w64 ((w64 ((w64 (u1 - (w64 (u0.Add * u2)))).tdiv a)).tdiv f)) > 0)) && (decide ((w64 (h.tdiv i)) < 0))) with G | G
    ·
     have jx := aV.1 G; clear aV
     have fF := a4.reval (d := 134) (c := []) (v := .bool ((decide ((w64 ((w64 ((w64 (u1 - (w64 (u0.Add * u2)))).tdiv a)).tdiv f)) > 0)) && (decide ((w64 (h.tdiv i)) < 0)))) (by kernel_rfl) (.bool true) (by rw [G]); clear a4
     refine bt fF j 3 [] [135, 136, 137] [(135, i6 (w64 ((w64 ((w64 (u1 - (w64 (u0.Add * u2)))).tdiv a)).tdiv f))), (136, i6 (boundsS u0).1), (137, i6 (w64 (h.tdiv i)))] ?_; intro nd a5; clear fF
     obtain ⟨jy, a6⟩ := jx
     refine st a5 (i6 (w64 ((boundsS u0).1.tdiv (w64 (h.tdiv i))))) (by rw [wanted_of a5 (b := true) rfl rfl (by kernel_rfl) (by kernel_rfl)]; rfl) rfl (by kernel_rfl) (quo_run a5 (g := []) rfl (by kernel_rfl) (by kernel_rfl) jy rfl) ?_; intro ne fG; clear a5
     refine bt fG j 4 [] [139, 140, 141] [(142, .bool (decide ((w64 ((w64 ((w64 (u1 - (w64 (u0.Add * u2)))).tdiv a)).tdiv f)) > (w64 ((boundsS u0).1.tdiv (w64 (h.tdiv i)))))))] ?_; intro nf a7; clear fG
     rcases Bool.eq_false_or_eq_true (decide ((w64 ((w64 ((w64 (u1 - (w64 (u0.Add * u2)))).tdiv a)).tdiv f)) > (w64 ((boundsS u0).1.tdiv (w64 (h.tdiv i)))))) with H | H
     ·
      have jz := a6.1 H; clear a6
      have fH := a7.reval (d := 142) (c := []) (v := .bool (decide ((w64 ((w64 ((w64 (u1 - (w64 (u0.Add * u2)))).tdiv a)).tdiv f)) > (w64 ((boundsS u0).1.tdiv (w64 (h.tdiv i))))))) (by kernel_rfl) (.bool true) (by rw [H]); clear a7
      refine bt fH j 14 [] [143, 144, 145, 146, 147, 148, 149, 150, 151, 152, 153, 154, 155, 156] [(156, .bool true)] ?_; intro jA dF; clear fH
      refine nlH (k _ _ ?_); clear k l
      refine cdT dF (by kernel_rfl) ?_
      have fI : Fr 171 [] [] jA := dF.reg; clear dF
      refine sqB fI j [] [] [(6, i6 0), (7, i6 3)] ?_; intro ng jB; clear fI
      refine wp_ret ?_
      refine thr ?_
      refine ra2 jB (.tuple #[i6 0, i6 3]) ?_
      exact ⟨(0, 3), rfl, jz, j.below⟩
     have a8 := a6.2 H; clear a6
     have ba := a7.reval (d := 142) (c := []) (v := .bool (decide ((w64 ((w64 ((w64 (u1 - (w64 (u0.Add * u2)))).tdiv a)).tdiv f)) > (w64 ((boundsS u0).1.tdiv (w64 (h.tdiv i))))))) (by kernel_rfl) (.bool false) (by rw [H]); clear a7
     refine st ba (i6 (w64 ((w64 ((w64 (u1 - (w64 (u0.Add * u2)))).tdiv a)).tdiv f))) (by rw [wanted_of ba (b := false) rfl rfl (by kernel_rfl) (by kernel_rfl)]; rfl) rfl (by kernel_rfl) (p0 ba (by kernel_rfl)) ?_; intro nh bb; clear ba
     refine st bb (.bool (decide ((w64 ((w64 ((w64 (u1 - (w64 (u0.Add * u2)))).tdiv a)).tdiv f)) < 0))) (by rw [wanted_of bb (b := false) rfl rfl (by kernel_rfl) (by kernel_rfl)]; rfl) rfl (by kernel_rfl) (p0 bb (by kernel_rfl)) ?_; intro ni bc; clear bb
     refine st bc (.bool (decide ((w64 ((w64 ((w64 (u1 - (w64 (u0.Add * u2)))).tdiv a)).tdiv f)) < 0))) (by rw [wanted_of bc (b := false) rfl rfl (by kernel_rfl) (by kernel_rfl)]; rfl) rfl (by kernel_rfl) (p0 bc (by kernel_rfl)) ?_; intro nj fJ; clear bc
     have fK := fJ.atom ((decide ((w64 ((w64 ((w64 (u1 - (w64 (u0.Add * u2)))).tdiv a)).tdiv f)) < 0)) == true) (by kernel_rfl); clear fJ
     refine gp fK 146 0 [] (decide ((w64 ((w64 ((w64 (u1 - (w64 (u0.Add * u2)))).tdiv a)).tdiv f)) < 0)) (i6 (w64 (h.tdiv i))) rfl rfl ?_; intro nk fL; clear fK
     refine gp fL 147 0 [] (decide ((w64 ((w64 ((w64 (u1 - (w64 (u0.Add * u2)))).tdiv a)).tdiv f)) < 0)) (.bool (decide ((w64 (h.tdiv i)) < 0))) rfl rfl ?_; intro nl bd; clear fL
     refine st bd (.bool ((decide ((w64 ((w64 ((w64 (u1 - (w64 (u0.Add * u2)))).tdiv a)).tdiv f)) < 0)) && (decide ((w64 (h.tdiv i)) < 0)))) (by rw [wanted_of bd (b := false) rfl rfl (by kernel_rfl) (by kernel_rfl)]; rfl) rfl (by kernel_rfl) (pk_and bd (g := []) (m := 0) (b := decide ((w64 ((w64 ((w64 (u1 - (w64 (u0.Add * u2)))).tdiv a)).tdiv f)) < 0)) (v := decide ((w64 (h.tdiv i)) < 0)) rfl (by kernel_rfl) (by kernel_rfl) (by kernel_rfl) rfl) ?_; intro nm be; clear bd
     refine st be (.bool ((decide ((w64 ((w64 ((w64 (u1 - (w64 (u0.Add * u2)))).tdiv a)).tdiv f)) < 0)) && (decide ((w64 (h.tdiv i)) < 0)))) (by rw [wanted_of be (b := false) rfl rfl (by kernel_rfl) (by kernel_rfl)]; rfl) rfl (by kernel_rfl) (p0 be (by kernel_rfl)) ?_; intro nn bf; clear be
     rcases Bool.eq_false_or_eq_true ((decide ((w64 ((w64 ((w64 (u1 - (w64 (u0.Add * u2)))).tdiv a)).tdiv f)) < 0)) && (decide ((w64 (h.tdiv i)) < 0))) with I | I
     ·
      have jC := a8.1 I; clear a8
      have fM := bf.reval (d := 149) (c := []) (v := .bool ((decide ((w64 ((w64 ((w64 (u1 - (w64 (u0.Add * u2)))).tdiv a)).tdiv f)) < 0)) && (decide ((w64 (h.tdiv i)) < 0)))) (by kernel_rfl) (.bool true) (by rw [I]); clear bf
      refine bt fM j 3 [] [150, 151, 152] [(150, i6 (w64 ((w64 ((w64 (u1 - (w64 (u0.Add * u2)))).tdiv a)).tdiv f))), (151, i6 (boundsS u0).2), (152, i6 (w64 (h.tdiv i)))] ?_; intro no bg; clear fM
      obtain ⟨jD, bh⟩ := jC
      refine st bg (i6 (w64 ((boundsS u0).2.tdiv (w64 (h.tdiv i))))) (by rw [wanted_of bg (b := true) rfl rfl (by kernel_rfl) (by kernel_rfl)]; rfl) rfl (by kernel_rfl) (quo_run bg (g := []) rfl (by kernel_rfl) (by kernel_rfl) jD rfl) ?_; intro np fN; clear bg
      refine bt fN j 3 [] [154, 155, 156] [(156, .bool (decide ((w64 ((w64 ((w64 (u1 - (w64 (u0.Add * u2)))).tdiv a)).tdiv f)) < (w64 ((boundsS u0).2.tdiv (w64 (h.tdiv i)))))))] ?_; intro fO J; clear fN
      refine nlH (k _ _ ?_); clear k l
      refine cd J (t := decide ((w64 ((w64 ((w64 (u1 - (w64 (u0.Add * u2)))).tdiv a)).tdiv f)) < (w64 ((boundsS u0).2.tdiv (w64 (h.tdiv i)))))) (by kernel_rfl) (fun dG => ?_) (fun dG => ?_)
      ·
       have jE := bh.1 dG; clear bh
       have fP : Fr 171 [] [] fO := J.reg; clear J
       refine sqB fP j [] [] [(6, i6 0), (7, i6 3)] ?_; intro nq jF; clear fP
       refine wp_ret ?_
       refine thr ?_
       refine ra2 jF (.tuple #[i6 0, i6 3]) ?_
       exact ⟨(0, 3), rfl, jE, j.below⟩
      have bi := bh.2 dG; clear bh
      refine wp_skip ?_
      refine thn ?_
      refine wp_seq ?_
      have fQ : Fr 171 [] [⟨9, [], i6 (w64 ((w64 ((w64 (u1 - (w64 (u0.Add * u2)))).tdiv a)).tdiv f))⟩, ⟨11, [], i6 (w64 (h.tdiv i))⟩, ⟨14, [], i6 (boundsS u0).1⟩, ⟨15, [], i6 (boundsS u0).2⟩] fO := J.reg; clear J
      refine sqB fQ j [] [] [(16, i6 (w64 ((w64 ((w64 ((w64 (u1 - (w64 (u0.Add * u2)))).tdiv a)).tdiv f)) * (w64 (h.tdiv i)))))] ?_; intro nr fR; clear fQ
      refine sqB fR j [] [] [(167, .bool ((decide ((w64 ((w64 ((w64 ((w64 (u1 - (w64 (u0.Add * u2)))).tdiv a)).tdiv f)) * (w64 (h.tdiv i)))) < (boundsS u0).1)) || (decide ((w64 ((w64 ((w64 ((w64 (u1 - (w64 (u0.Add * u2)))).tdiv a)).tdiv f)) * (w64 (h.tdiv i)))) > (boundsS u0).2))))] ?_; intro ns L; clear fR
      refine cd L (t := (decide ((w64 ((w64 ((w64 ((w64 (u1 - (w64 (u0.Add * u2)))).tdiv a)).tdiv f)) * (w64 (h.tdiv i)))) < (boundsS u0).1)) || (decide ((w64 ((w64 ((w64 ((w64 (u1 - (w64 (u0.Add * u2)))).tdiv a)).tdiv f)) * (w64 (h.tdiv i)))) > (boundsS u0).2))) (by kernel_rfl) (fun dH => ?_) (fun dH => ?_)
      ·
       have jG := bi.1 dH; clear bi
       refine sqB L j [] [] [(6, i6 0), (7, i6 3)] ?_; intro nt jH; clear L
       refine wp_ret ?_
       refine thr ?_
       refine ra2 jH (.tuple #[i6 0, i6 3]) ?_
       exact ⟨(0, 3), rfl, jG, j.below⟩
      have jI := bi.2 dH; clear bi
      refine wp_skip ?_
      refine thn ?_
      refine sqB L j [] [] [(6, i6 (w64 ((w64 ((w64 ((w64 (u1 - (w64 (u0.Add * u2)))).tdiv a)).tdiv f)) * (w64 (h.tdiv i))))), (7, i6 0)] ?_; intro nu jJ; clear L
      refine wp_ret ?_
      refine ra2 jJ (.tuple #[i6 (w64 ((w64 ((w64 ((w64 (u1 - (w64 (u0.Add * u2)))).tdiv a)).tdiv f)) * (w64 (h.tdiv i)))), i6 0]) ?_
      exact ⟨(w64 ((w64 ((w64 ((w64 (u1 - (w64 (u0.Add * u2)))).tdiv a)).tdiv f)) * (w64 (h.tdiv i))), 0), rfl, jI, j.below⟩
     have bj := a8.2 I; clear a8
     have fS := bf.reval (d := 149) (c := []) (v := .bool ((decide ((w64 ((w64 ((w64 (u1 - (w64 (u0.Add * u2)))).tdiv a)).tdiv f)) < 0)) && (decide ((w64 (h.tdiv i)) < 0)))) (by kernel_rfl) (.bool false) (by rw [I]); clear bf
     refine bt fS j 7 [] [150, 151, 152, 153, 154, 155, 156] [(156, .bool false)] ?_; intro jK dI; clear fS
     refine nlH (k _ _ ?_); clear k l
     refine cdF dI (by kernel_rfl) ?_
     refine wp_skip ?_
     refine thn ?_
     refine wp_seq ?_
     have fT : Fr 171 [] [⟨9, [], i6 (w64 ((w64 ((w64 (u1 - (w64 (u0.Add * u2)))).tdiv a)).tdiv f))⟩, ⟨11, [], i6 (w64 (h.tdiv i))⟩, ⟨14, [], i6 (boundsS u0).1⟩, ⟨15, [], i6 (boundsS u0).2⟩] jK := dI.reg; clear dI
     refine sqB fT j [] [] [(16, i6 (w64 ((w64 ((w64 ((w64 (u1 - (w64 (u0.Add * u2)))).tdiv a)).tdiv f)) * (w64 (h.tdiv i)))))] ?_; intro nv fU; clear fT
     refine sqB fU j [] [] [(167, .bool ((decide ((w64 ((w64 ((w64 ((w64 (u1 - (w64 (u0.Add * u2)))).tdiv a)).tdiv f)) * (w64 (h.tdiv i)))) < (boundsS u0).1)) || (decide ((w64 ((w64 ((w64 ((w64 (u1 - (w64 (u0.Add * u2)))).tdiv a)).tdiv f)) * (w64 (h.tdiv i)))) > (boundsS u0).2))))] ?_; intro nx M; clear fU
     refine cd M (t := (decide ((w64 ((w64 ((w64 ((w64 (u1 - (w64 (u0.Add * u2)))).tdiv a)).tdiv f)) * (w64 (h.tdiv i)))) < (boundsS u0).1)) || (decide ((w64 ((w64 ((w64 ((w64 (u1 - (w64 (u0.Add * u2)))).tdiv a)).tdiv f)) * (w64 (h.tdiv i)))) > (boundsS u0).2))) (by kernel_rfl) (fun dJ => ?_) (fun dJ => ?_)
     ·
      have jL := bj.1 dJ; clear bj
      refine sqB M j [] [] [(6, i6 0), (7, i6 3)] ?_; intro ny jM; clear M
      refine wp_ret ?_
      refine thr ?_
      refine ra2 jM (.tuple #[i6 0, i6 3]) ?_
      exact ⟨(0, 3), rfl, jL, j.below⟩
     have jN := bj.2 dJ; clear bj
     refine wp_skip ?_
     refine thn ?_
     refine sqB M j [] [] [(6, i6 (w64 ((w64 ((w64 ((w64 (u1 - (w64 (u0.Add * u2)))).tdiv a)).tdiv f)) * (w64 (h.tdiv i))))), (7, i6 0)] ?_; intro nz jO; clear M
     refine wp_ret ?_
     refine ra2 jO (.tuple #[i6 (w64 ((w64 ((w64 ((w64 (u1 - (w64 (u0.Add * u2)))).tdiv a)).tdiv f)) * (w64 (h.tdiv i)))), i6 0]) ?_
     exact ⟨(w64 ((w64 ((w64 ((w64 (u1 - (w64 (u0.Add * u2)))).tdiv a)).tdiv f)) * (w64 (h.tdiv i))), 0), rfl, jN, j.below⟩
    have bk := aV.2 G; clear aV
    have fV := a4.reval (d := 134) (c := []) (v := .bool ((decide ((w64 ((w64 ((w64 (u1 - (w64 (u0.Add * u2)))).tdiv a)).tdiv f)) > 0)) && (decide ((w64 (h.tdiv i)) < 0)))) (by kernel_rfl) (.bool false) (by rw [G]); clear a4
    refine sk fV (b := false) rfl rfl (by kernel_rfl) (by kernel_rfl) rfl rfl (by kernel_rfl) ?_; intro nA fW; clear fV
    refine sk fW (b := false) rfl rfl (by kernel_rfl) (by kernel_rfl) rfl rfl (by kernel_rfl) ?_; intro nB fX; clear fW
    refine sk fX (b := false) rfl rfl (by kernel_rfl) (by kernel_rfl) rfl rfl (by kernel_rfl) ?_; intro nC fY; clear fX
    refine sk fY (b := false) rfl rfl (by kernel_rfl) (by kernel_rfl) rfl rfl (by kernel_rfl) ?_; intro nD fZ; clear fY
    refine sk fZ (b := false) rfl rfl (by kernel_rfl) (by kernel_rfl) rfl rfl (by kernel_rfl) ?_; intro nE bl; clear fZ
    refine st bl (.bool false) (by rw [wanted_of bl (b := false) rfl rfl (by kernel_rfl) (by kernel_rfl)]; rfl) rfl (by kernel_rfl) (p0 bl (by kernel_rfl)) ?_; intro nF f0; clear bl
    refine s1 f0 141 (.bool false) ?_; intro nG f1; clear f0
    refine s1 f1 142 (.bool false) ?_; intro nH bm; clear f1
    refine st bm (i6 (w64 ((w64 ((w64 (u1 - (w64 (u0.Add * u2)))).tdiv a)).tdiv f))) (by rw [wanted_of bm (b := false) rfl rfl (by kernel_rfl) (by kernel_rfl)]; rfl) rfl (by kernel_rfl) (p0 bm (by kernel_rfl)) ?_; intro nI bn; clear bm
    refine st bn (.bool (decide ((w64 ((w64 ((w64 (u1 - (w64 (u0.Add * u2)))).tdiv a)).tdiv f)) < 0))) (by rw [wanted_of bn (b := false) rfl rfl (by kernel_rfl) (by kernel_rfl)]; rfl) rfl (by kernel_rfl) (p0 bn (by kernel_rfl)) ?_; intro nJ bo; clear bn
    refine st bo (.bool (decide ((w64 ((w64 ((w64 (u1 - (w64 (u0.Add * u2)))).tdiv a)).tdiv f)) < 0))) (by rw [wanted_of bo (b := false) rfl rfl (by kernel_rfl) (by kernel_rfl)]; rfl) rfl (by kernel_rfl) (p0 bo (by kernel_rfl)) ?_; intro nK f2; clear bo
    have f3 := f2.atom ((decide ((w64 ((w64 ((w64 (u1 - (w64 (u0.Add * u2)))).tdiv a)).tdiv f)) < 0)) == true) (by kernel_rfl); clear f2
    refine gp f3 146 1 [] (decide ((w64 ((w64 ((w64 (u1 - (w64 (u0.Add * u2)))).tdiv a)).tdiv f)) < 0)) (i6 (w64 (h.tdiv i))) rfl rfl ?_; intro nL f4; clear f3
    refine gp f4 147 1 [] (decide ((w64 ((w64 ((w64 (u1 - (w64 (u0.Add * u2)))).tdiv a)).tdiv f)) < 0)) (.bool (decide ((w64 (h.tdiv i)) < 0))) rfl rfl ?_; intro nM bp; clear f4
    refine st bp (.bool ((decide ((w64 ((w64 ((w64 (u1 - (w64 (u0.Add * u2)))).tdiv a)).tdiv f)) < 0)) && (decide ((w64 (h.tdiv i)) < 0)))) (by rw [wanted_of bp (b := false) rfl rfl (by kernel_rfl) (by kernel_rfl)]; rfl) rfl (by kernel_rfl) (pk_and bp (g := []) (m := 1) (b := decide ((w64 ((w64 ((w64 (u1 - (w64 (u0.Add * u2)))).tdiv a)).tdiv f)) < 0)) (v := decide ((w64 (h.tdiv i)) < 0)) rfl (by kernel_rfl) (by kernel_rfl) (by kernel_rfl) rfl) ?_; intro nN bq; clear bp
    refine st bq (.bool ((decide ((w64 ((w64 ((w64 (u1 - (w64 (u0.Add * u2)))).tdiv a)).tdiv f)) < 0)) && (decide ((w64 (h.tdiv i)) < 0)))) (by rw [wanted_of bq (b := false) rfl rfl (by kernel_rfl) (by kernel_rfl)]; rfl) rfl (by kernel_rfl) (p0 bq (by kernel_rfl)) ?_; intro nO br; clear bq
    rcases Bool.eq_false_or_eq_true ((decide ((w64 ((w64 ((w64 (u1 - (w64 (u0.Add * u2)))).tdiv a)).tdiv f)) < 0)) && (decide ((w64 (h.tdiv i)) < 0))) with N | N
    ·
     have jP := bk.1 N; clear bk
     have f5 := br.reval (d := 149) (c := []) (v := .bool ((decide ((w64 ((w64 ((w64 (u1 - (w64 (u0.Add * u2)))).tdiv a)).tdiv f)) < 0)) && (decide ((w64 (h.tdiv i)) < 0)))) (by kernel_rfl) (.bool true) (by rw [N]); clear br
     refine bt f5 j 3 [] [150, 151, 152] [(150, i6 (w64 ((w64 ((w64 (u1 - (w64 (u0.Add * u2)))).tdiv a)).tdiv f))), (151, i6 (boundsS u0).2), (152, i6 (w64 (h.tdiv i)))] ?_; intro nP bs; clear f5
     obtain ⟨jQ, bu⟩ := jP
     refine st bs (i6 (w64 ((boundsS u0).2.tdiv (w64 (h.tdiv i))))) (by rw [wanted_of bs (b := true) rfl rfl (by kernel_rfl) (by kernel_rfl)]; rfl) rfl (by kernel_rfl) (quo_run bs (g := []) rfl (by kernel_rfl) (by kernel_rfl) jQ rfl) ?_; intro nQ f6; clear bs
     refine bt f6 j 3 [] [154, 155, 156] [(156, .bool (decide ((w64 ((w64 ((w64 (u1 - (w64 (u0.Add * u2)))).tdiv a)).tdiv f)) < (w64 ((boundsS u0).2.tdiv (w64 (h.tdiv i)))))))] ?_; intro f7 O; clear f6
     refine nlH (k _ _ ?_); clear k l
     refine cd O (t := decide ((w64 ((w64 ((w64 (u1 - (w64 (u0.Add * u2)))).tdiv a)).tdiv f)) < (w64 ((boundsS u0).2.tdiv (w64 (h.tdiv i)))))) (by kernel_rfl) (fun dK => ?_) (fun dK => ?_)
     ·
      have jR := bu.1 dK; clear bu
      have f8 : Fr 171 [] [] f7 := O.reg; clear O
      refine sqB f8 j [] [] [(6, i6 0), (7, i6 3)] ?_; intro nR jS; clear f8
      refine wp_ret ?_
      refine thr ?_
      refine ra2 jS (.tuple #[i6 0, i6 3]) ?_
      exact ⟨(0, 3), rfl, jR, j.below⟩
     have bv := bu.2 dK; clear bu
     refine wp_skip ?_
     refine thn ?_
     refine wp_seq ?_
     have f9 : Fr 171 [] [⟨9, [], i6 (w64 ((w64 ((w64 (u1 - (w64 (u0.Add * u2)))).tdiv a)).tdiv f))⟩, ⟨11, [], i6 (w64 (h.tdiv i))⟩, ⟨14, [], i6 (boundsS u0).1⟩, ⟨15, [], i6 (boundsS u0).2⟩] f7 := O.reg; clear O
     refine sqB f9 j [] [] [(16, i6 (w64 ((w64 ((w64 ((w64 (u1 - (w64 (u0.Add * u2)))).tdiv a)).tdiv f)) * (w64 (h.tdiv i)))))] ?_; intro nS ga; clear f9
     refine sqB ga j [] [] [(167, .bool ((decide ((w64 ((w64 ((w64 ((w64 (u1 - (w64 (u0.Add * u2)))).tdiv a)).tdiv f)) * (w64 (h.tdiv i)))) < (boundsS u0).1)) || (decide ((w64 ((w64 ((w64 ((w64 (u1 - (w64 (u0.Add * u2)))).tdiv a)).tdiv f)) * (w64 (h.tdiv i)))) > (boundsS u0).2))))] ?_; intro nT P; clear ga
     refine cd P (t := (decide ((w64 ((w64 ((w64 ((w64 (u1 - (w64 (u0.Add * u2)))).tdiv a)).tdiv f)) * (w64 (h.tdiv i)))) < (boundsS u0).1)) || (decide ((w64 ((w64 ((w64 ((w64 (u1 - (w64 (u0.Add * u2)))).tdiv a)).tdiv f)) * (w64 (h.tdiv i)))) > (boundsS u0).2))) (by kernel_rfl) (fun dL => ?_) (fun dL => ?_)
     ·
      have jT := bv.1 dL; clear bv
      refine sqB P j [] [] [(6, i6 0), (7, i6 3)] ?_; intro nU jU; clear P
      refine wp_ret ?_
      refine thr ?_
      refine ra2 jU (.tuple #[i6 0, i6 3]) ?_
      exact ⟨(0, 3), rfl, jT, j.below⟩
     have jV := bv.2 dL; clear bv
     refine wp_skip ?_
     refine thn ?_
     refine sqB P j [] [] [(6, i6 (w64 ((w64 ((w64 ((w64 (u1 - (w64 (u0.Add * u2)))).tdiv a)).tdiv f)) * (w64 (h.tdiv i))))), (7, i6 0)] ?_; intro nV jW; clear P
     refine wp_ret ?_
     refine ra2 jW (.tuple #[i6 (w64 ((w64 ((w64 ((w64 (u1 - (w64 (u0.Add * u2)))).tdiv a)).tdiv f)) * (w64 (h.tdiv i)))), i6 0]) ?_
     exact ⟨(w64 ((w64 ((w64 ((w64 (u1 - (w64 (u0.Add * u2)))).tdiv a)).tdiv f)) * (w64 (h.tdiv i))), 0), rfl, jV, j.below⟩
    have bw := bk.2 N; clear bk
    have gb := br.reval (d := 149) (c := []) (v := .bool ((decide ((w64 ((w64 ((w64 (u1 - (w64 (u0.Add * u2)))).tdiv a)).tdiv f)) < 0)) && (decide ((w64 (h.tdiv i)) < 0)))) (by kernel_rfl) (.bool false) (by rw [N]); clear br
    refine bt gb j 7 [] [150, 151, 152, 153, 154, 155, 156] [(156, .bool false)] ?_; intro jX dM; clear gb
    refine nlH (k _ _ ?_); clear k l
    refine cdF dM (by kernel_rfl) ?_
    refine wp_skip ?_
    refine thn ?_
    refine wp_seq ?_
    have gc : Fr 171 [] [⟨9, [], i6 (w64 ((w64 ((w64 (u1 - (w64 (u0.Add * u2)))).tdiv a)).tdiv f))⟩, ⟨11, [], i6 (w64 (h.tdiv i))⟩, ⟨14, [], i6 (boundsS u0).1⟩, ⟨15, [], i6 (boundsS u0).2⟩] jX := dM.reg; clear dM
    refine sqB gc j [] [] [(16, i6 (w64 ((w64 ((w64 ((w64 (u1 - (w64 (u0.Add * u2)))).tdiv a)).tdiv f)) * (w64 (h.tdiv i)))))] ?_; intro nW gd; clear gc
    refine sqB gd j [] [] [(167, .bool ((decide ((w64 ((w64 ((w64 ((w64 (u1 - (w64 (u0.Add * u2)))).tdiv a)).tdiv f)) * (w64 (h.tdiv i)))) < (boundsS u0).1)) || (decide ((w64 ((w64 ((w64 ((w64 (u1 - (w64 (u0.Add * u2)))).tdiv a)).tdiv f)) * (w64 (h.tdiv i)))) > (boundsS u0).2))))] ?_; intro nX Q; clear gd
    refine cd Q (t := (decide ((w64 ((w64 ((w64 ((w64 (u1 - (w64 (u0.Add * u2)))).tdiv a)).tdiv f)) * (w64 (h.tdiv i)))) < (boundsS u0).1)) || (decide ((w64 ((w64 ((w64 ((w64 (u1 - (w64 (u0.Add * u2)))).tdiv a)).tdiv f)) * (w64 (h.tdiv i)))) > (boundsS u0).2))) (by kernel_rfl) (fun dN => ?_) (fun dN => ?_)
    ·
     have jY := bw.1 dN; clear bw
     refine sqB Q j [] [] [(6, i6 0), (7, i6 3)] ?_; intro nY jZ; clear Q
     refine wp_ret ?_
     refine thr ?_
     refine ra2 jZ (.tuple #[i6 0, i6 3]) ?_
     exact ⟨(0, 3), rfl, jY, j.below⟩
    have j0 := bw.2 dN; clear bw
    refine wp_skip ?_
    refine thn ?_
    refine sqB Q j [] [] [(6, i6 (w64 ((w64 ((w64 ((w64 (u1 - (w64 (u0.Add * u2)))).tdiv a)).tdiv f)) * (w64 (h.tdiv i))))), (7, i6 0)] ?_; intro nZ j1; clear Q
    refine wp_ret ?_
    refine ra2 j1 (.tuple #[i6 (w64 ((w64 ((w64 ((w64 (u1 - (w64 (u0.Add * u2)))).tdiv a)).tdiv f)) * (w64 (h.tdiv i)))), i6 0]) ?_
    exact ⟨(w64 ((w64 ((w64 ((w64 (u1 - (w64 (u0.Add * u2)))).tdiv a)).tdiv f)) * (w64 (h.tdiv i))), 0), rfl, j0, j.below⟩
   have bx := aL.2 E; clear aL
   have ge := aR.reval (d := 119) (c := []) (v := .bool ((decide ((w64 ((w64 ((w64 (u1 - (w64 (u0.Add * u2)))).tdiv a)).tdiv f)) < 0)) && (decide ((w64 (h.tdiv i)) > 0)))) (by kernel_rfl) (.bool false) (by rw [E]); clear aR
   refine sk ge (b := false) rfl rfl (by kernel_rfl) (by kernel_rfl) rfl rfl (by kernel_rfl) ?_; intro n0 gf; clear ge
   refine sk gf (b := false) rfl rfl (by kernel_rfl) (by kernel_rfl) rfl rfl (by kernel_rfl) ?_; intro n1 gg; clear gf
   refine sk gg (b := false) rfl rfl (by kernel_rfl) (by kernel_rfl) rfl rfl (by kernel_rfl) ?_; intro n2 gh; clear gg
   refine sk gh (b := false) rfl rfl (by kernel_rfl) (by kernel_rfl) rfl rfl (by kernel_rfl) ?_; intro n3 gi; clear gh
   refine sk gi (b := false) rfl rfl (by kernel_rfl) (by kernel_rfl) rfl rfl (by kernel_rfl) ?_; intro n4 bz; clear gi
   refine st bz (.bool false) (by rw [wanted_of bz (b := false) rfl rfl (by kernel_rfl) (by kernel_rfl)]; rfl) rfl (by kernel_rfl) (p0 bz (by kernel_rfl)) ?_; intro n5 gj; clear bz
   refine s1 gj 126 (.bool false) ?_; intro n6 gk; clear gj
   refine s1 gk 127 (.bool false) ?_; intro n7 bA; clear gk
   refine st bA (i6 (w64 ((w64 ((w64 (u1 - (w64 (u0.Add * u2)))).tdiv a)).tdiv f))) (by rw [wanted_of bA (b := false) rfl rfl (by kernel_rfl) (by kernel_rfl)]; rfl) rfl (by kernel_rfl) (p0 bA (by kernel_rfl)) ?_; intro n8 bB; clear bA
   refine st bB (.bool (decide ((w64 ((w64 ((w64 (u1 - (w64 (u0.Add * u2)))).tdiv a)).tdiv f)) > 0))) (by rw [wanted_of bB (b := false) rfl rfl (by kernel_rfl) (by kernel_rfl)]; rfl) rfl (by kernel_rfl) (p0 bB (by kernel_rfl)) ?_; intro n9 bC; clear bB
   refine st bC (.bool (decide ((w64 ((w64 ((w64 (u1 - (w64 (u0.Add * u2)))).tdiv a)).tdiv f)) > 0))) (by rw [wanted_of bC (b := false) rfl rfl (by kernel_rfl) (by kernel_rfl)]; rfl) rfl (by kernel_rfl) (p0 bC (by kernel_rfl)) ?_; intro oa gl; clear bC
   have gm := gl.atom ((decide ((w64 ((w64 ((w64 (u1 - (w64 (u0.Add * u2)))).tdiv a)).tdiv f)) > 0)) == true) (by kernel_rfl); clear gl
   refine gp gm 131 1 [] (decide ((w64 ((w64 ((w64 (u1 - (w64 (u0.Add * u2)))).tdiv a)).tdiv f)) > 0)) (i6 (w64 (h.tdiv i))) rfl rfl ?_; intro ob gn; clear gm
   refine gp gn 132 1 [] (decide ((w64 ((w64 ((w64 (u1 - (w64 (u0.Add * u2)))).tdiv a)).tdiv f)) > 0)) (.bool (decide ((w64 (h.tdiv i)) < 0))) rfl rfl ?_; intro oc bD; clear gn
   refine st bD (.bool ((decide ((w64 ((w64 ((w64 (u1 - (w64 (u0.Add * u2)))).tdiv a)).tdiv f)) > 0)) && (decide ((w64 (h.tdiv i)) < 0)))) (by rw [wanted_of bD (b := false) rfl rfl (by kernel_rfl) (by kernel_rfl)]; rfl) rfl (by kernel_rfl) (pk_and bD (g := []) (m := 1) (b := decide ((w64 ((w64 ((w64 (u1 - (w64 (u0.Add * u2)))).tdiv a)).tdiv f)) > 0)) (v := decide ((w64 (h.tdiv i)) < 0)) rfl (by kernel_rfl) (by kernel_rfl) (by kernel_rfl) rfl) ?_; intro od bE; clear bD
   refine st bE (.bool ((decide ((w64 ((w64 ((w64 (u1 - (w64 (u0.Add * u2)))).tdiv a)).tdiv f)) > 0)) && (decide ((w64 (h.tdiv i)) < 0)))) (by rw [wanted_of bE (b := false) rfl rfl (by kernel_rfl) (by kernel_rfl)]; rfl) rfl (by kernel_rfl) (p0 bE (by kernel_rfl)) ?_; intro oe bF; clear bE
   rcases Bool.eq_false_or_eq_true ((decide ((w64 ((w64 ((w64 (u1 - (w64 (u0.Add * u2)))).tdiv a)).tdiv f)) > 0)) && (decide ((w64 (h.tdiv i)) < 0))) with R | R
   ·
    have j2 := bx.1 R; clear bx
    have go := bF.reval (d := 134) (c := []) (v := .bool ((decide ((w64 ((w64 ((w64 (u1 - (w64 (u0.Add * u2)))).tdiv a)).tdiv f)) > 0)) && (decide ((w64 (h.tdiv i)) < 0)))) (by kernel_rfl) (.bool true) (by rw [R]); clear bF
    refine bt go j 3 [] [135, 136, 137] [(135, i6 (w64 ((w64 ((w64 (u1 - (w64 (u0.Add * u2)))).tdiv a)).tdiv f))), (136, i6 (boundsS u0).1), (137, i6 (w64 (h.tdiv i)))] ?_; intro og bG; clear go
    obtain ⟨j3, bH⟩ := j2
    refine st bG (i6 (w64 ((boundsS u0).1.tdiv (w64 (h.tdiv i))))) (by rw [wanted_of bG (b := true) rfl rfl (by kernel_rfl) (by kernel_rfl)]; rfl) rfl (by kernel_rfl) (quo_run bG (g := []) rfl (by kernel_rfl) (by kernel_rfl) j3 rfl) ?_; intro oh gq; clear bG
    refine bt gq j 4 [] [139, 140, 141] [(142, .bool (decide ((w64 ((w64 ((w64 (u1 - (w64 (u0.Add * u2)))).tdiv a)).tdiv f)) > (w64 ((boundsS u0).1.tdiv (w64 (h.tdiv i)))))))] ?_; intro oi bI; clear gq
    rcases Bool.eq_false_or_eq_true (decide ((w64 ((w64 ((w64 (u1 - (w64 (u0.Add * u2)))).tdiv a)).tdiv f)) > (w64 ((boundsS u0).1.tdiv (w64 (h.tdiv i)))))) with S | S
    ·
     have j4 := bH.1 S; clear bH
     have gr := bI.reval (d := 142) (c := []) (v := .bool (decide ((w64 ((w64 ((w64 (u1 - (w64 (u0.Add * u2)))).tdiv a)).tdiv f)) > (w64 ((boundsS u0).1.tdiv (w64 (h.tdiv i))))))) (by kernel_rfl) (.bool true) (by rw [S]); clear bI
     refine bt gr j 14 [] [143, 144, 145, 146, 147, 148, 149, 150, 151, 152, 153, 154, 155, 156] [(156, .bool true)] ?_; intro j5 dO; clear gr
     refine nlH (k _ _ ?_); clear k l
     refine cdT dO (by kernel_rfl) ?_
     have gs : Fr 171 [] [] j5 := dO.reg; clear dO
     refine sqB gs j [] [] [(6, i6 0), (7, i6 3)] ?_; intro oj j6; clear gs
     refine wp_ret ?_
     refine thr ?_
     refine ra2 j6 (.tuple #[i6 0, i6 3]) ?_
     exact ⟨(0, 3), rfl, j4, j.below⟩
    have bJ := bH.2 S; clear bH
    have bK := bI.reval (d := 142) (c := []) (v := .bool (decide ((w64 ((w64 ((w64 (u1 - (w64 (u0.Add * u2)))).tdiv a)).tdiv f)) > (w64 ((boundsS u0).1.tdiv (w64 (h.tdiv i))))))) (by kernel_rfl) (.bool false) (by rw [S]); clear bI
    refine st bK (i6 (w64 ((w64 ((w64 (u1 - (w64 (u0.Add * u2)))).tdiv a)).tdiv f))) (by rw [wanted_of bK (b := false) rfl rfl (by kernel_rfl) (by kernel_rfl)]; rfl) rfl (by kernel_rfl) (p0 bK (by kernel_rfl)) ?_; intro ok bL; clear bK
    refine st bL (.bool (decide ((w64 ((w64 ((w64 (u1 - (w64 (u0.Add * u2)))).tdiv a)).tdiv f)) < 0))) (by rw [wanted_of bL (b := false) rfl rfl (by kernel_rfl) (by kernel_rfl)]; rfl) rfl (by kernel_rfl) (p0 bL (by kernel_rfl)) ?_; intro ol bM; clear bL
    refine st bM (.bool (decide ((w64 ((w64 ((w64 (u1 - (w64 (u0.Add * u2)))).tdiv a)).tdiv f)) < 0))) (by rw [wanted_of bM (b := false) rfl rfl (by kernel_rfl) (by kernel_rfl)]; rfl) rfl (by kernel_rfl) (p0 bM (by kernel_rfl)) ?_; intro om gt; clear bM
    have gu := gt.atom ((decide ((w64 ((w64 ((w64 (u1 - (w64 (u0.Add * u2)))).tdiv a)).tdiv f)) < 0)) == true) (by kernel_rfl); clear gt
    refine gp gu 146 0 [] (decide ((w64 ((w64 ((w64 (u1 - (w64 (u0.Add * u2)))).tdiv a)).tdiv f)) < 0)) (i6 (w64 (h.tdiv i))) rfl rfl ?_; intro oo gv; clear gu
    refine gp gv 147 0 [] (decide ((w64 ((w64 ((w64 (u1 - (w64 (u0.Add * u2)))).tdiv a)).tdiv f)) < 0)) (.bool (decide ((w64 (h.tdiv i)) < 0))) rfl rfl ?_; intro op bN; clear gv
    refine st bN (.bool ((decide ((w64 ((w64 ((w64 (u1 - (w64 (u0.Add * u2)))).tdiv a)).tdiv f)) < 0)) && (decide ((w64 (h.tdiv i)) < 0)))) (by rw [wanted_of bN (b := false) rfl rfl (by kernel_rfl) (by kernel_rfl)]; rfl) rfl (by kernel_rfl) (pk_and bN (g := []) (m := 0) (b := decide ((w64 ((w64 ((w64 (u1 - (w64 (u0.Add * u2)))).tdiv a)).tdiv f)) < 0)) (v := decide ((w64 (h.tdiv i)) < 0)) rfl (by kernel_rfl) (by kernel_rfl) (by kernel_rfl) rfl) ?_; intro oq bO; clear bN
    refine st bO (.bool ((decide ((w64 ((w64 ((w64 (u1 - (w64 (u0.Add * u2)))).tdiv a)).tdiv f)) < 0)) && (decide ((w64 (h.tdiv i)) < 0)))) (by rw [wanted_of bO (b := false) rfl rfl (by kernel_rfl) (by kernel_rfl)]; rfl) rfl (by kernel_rfl) (p0 bO (by kernel_rfl)) ?_; intro or bP; clear bO
    rcases Bool.eq_false_or_eq_true ((decide ((w64 ((w64 ((w64 (u1 - (w64 (u0.Add * u2)))).tdiv a)).tdiv f)) < 0)) && (decide ((w64 (h.tdiv i)) < 0))) with T | T
    ·
     have j7 := bJ.1 T; clear bJ
     have gw := bP.reval (d := 149) (c := []) (v := .bool ((decide ((w64 ((w64 ((w64 (u1 - (w64 (u0.Add * u2)))).tdiv a)).tdiv f)) < 0)) && (decide ((w64 (h.tdiv i)) < 0)))) (by kernel_rfl) (.bool true) (by rw [T]); clear bP
     refine bt gw j 3 [] [150, 151, 152] [(150, i6 (w64 ((w64 ((w64 (u1 - (w64 (u0.Add * u2)))).tdiv a)).tdiv f))), (151, i6 (boundsS u0).2), (152, i6 (w64 (h.tdiv i)))] ?_; intro os bQ; clear gw
     obtain ⟨j8, bR⟩ := j7
     refine st bQ (i6 (w64 ((boundsS u0).2.tdiv (w64 (h.tdiv i))))) (by rw [wanted_of bQ (b := true) rfl rfl (by kernel_rfl) (by kernel_rfl)]; rfl) rfl (by kernel_rfl) (quo_run bQ (g := []) rfl (by kernel_rfl) (by kernel_rfl) j8 rfl) ?_; intro ot gx; clear bQ
     refine bt gx j 3 [] [154, 155, 156] [(156, .bool (decide ((w64 ((w64 ((w64 (u1 - (w64 (u0.Add * u2)))).tdiv a)).tdiv f)) < (w64 ((boundsS u0).2.tdiv (w64 (h.tdiv i)))))))] ?_; intro gy U; clear gx
     refine nlH (k _ _ ?_); clear k l
     refine cd U (t := decide ((w64 ((w64 ((w64 (u1 - (w64 (u0.Add * u2)))).tdiv a)).tdiv f)) < (w64 ((boundsS u0).2.tdiv (w64 (h.tdiv i)))))) (by kernel_rfl) (fun dP => ?_) (fun dP => ?_)
     ·
      have j9 := bR.1 dP; clear bR
      have gz : Fr 171 [] [] gy := U.reg; clear U
      refine sqB gz j [] [] [(6, i6 0), (7, i6 3)] ?_; intro ou ka; clear gz
      refine wp_ret ?_
      refine thr ?_
      refine ra2 ka (.tuple #[i6 0, i6 3]) ?_
      exact ⟨(0, 3), rfl, j9, j.below⟩
     have bS := bR.2 dP; clear bR
     refine wp_skip ?_
     refine thn ?_
     refine wp_seq ?_
     have gA : Fr 171 [] [⟨9, [], i6 (w64 ((w64 ((w64 (u1 - (w64 (u0.Add * u2)))).tdiv a)).tdiv f))⟩, ⟨11, [], i6 (w64 (h.tdiv i))⟩, ⟨14, [], i6 (boundsS u0).1⟩, ⟨15, [], i6 (boundsS u0).2⟩] gy := U.reg; clear U
     refine sqB gA j [] [] [(16, i6 (w64 ((w64 ((w64 ((w64 (u1 - (w64 (u0.Add * u2)))).tdiv a)).tdiv f)) * (w64 (h.tdiv i)))))] ?_; intro ov gB; clear gA
     refine sqB gB j [] [] [(167, .bool ((decide ((w64 ((w64 ((w64 ((w64 (u1 - (w64 (u0.Add * u2)))).tdiv a)).tdiv f)) * (w64 (h.tdiv i)))) < (boundsS u0).1)) || (decide ((w64 ((w64 ((w64 ((w64 (u1 - (w64 (u0.Add * u2)))).tdiv a)).tdiv f)) * (w64 (h.tdiv i)))) > (boundsS u0).2))))] ?_; intro ow V; clear gB
     refine cd V (t := (decide ((w64 ((w64 ((w64 ((w64 (u1 - (w64 (u0.Add * u2)))).tdiv a)).tdiv f)) * (w64 (h.tdiv i)))) < (boundsS u0).1)) || (decide ((w64 ((w64 ((w64 ((w64 (u1 - (w64 (u0.Add * u2)))).tdiv a)).tdiv f)) * (w64 (h.tdiv i)))) > (boundsS u0).2))) (by kernel_rfl) (fun dQ => ?_) (fun dQ => ?_)
     ·
      have kb := bS.1 dQ; clear bS
      refine sqB V j [] [] [(6, i6 0), (7, i6 3)] ?_; intro ox kc; clear V
      refine wp_ret ?_
      refine thr ?_
      refine ra2 kc (.tuple #[i6 0, i6 3]) ?_
      exact ⟨(0, 3), rfl, kb, j.below⟩
     have kd := bS.2 dQ; clear bS
     refine wp_skip ?_
     refine thn ?_
     refine sqB V j [] [] [(6, i6 (w64 ((w64 ((w64 ((w64 (u1 - (w64 (u0.Add * u2)))).tdiv a)).tdiv f)) * (w64 (h.tdiv i))))), (7, i6 0)] ?_; intro oy ke; clear V
     refine wp_ret ?_
     refine ra2 ke (.tuple #[i6 (w64 ((w64 ((w64 ((w64 (u1 - (w64 (u0.Add * u2)))).tdiv a)).tdiv f)) * (w64 (h.tdiv i)))), i6 0]) ?_
     exact ⟨(w64 ((w64 ((w64 ((w64 (u1 - (w64 (u0.Add * u2)))).tdiv a)).tdiv f)) * (w64 (h.tdiv i))), 0), rfl, kd, j.below⟩
    have bT := bJ.2 T; clear bJ
    have gC := bP.reval (d := 149) (c := []) (v := .bool ((decide ((w64 ((w64 ((w64 (u1 - (w64 (u0.Add * u2)))).tdiv a)).tdiv f)) < 0)) && (decide ((w64 (h.tdiv i)) < 0)))) (by kernel_rfl) (.bool false) (by rw [T]); clear bP
    refine bt gC j 7 [] [150, 151, 152, 153, 154, 155, 156] [(156, .bool false)] ?_; intro kf dR; clear gC
    refine nlH (k _ _ ?_); clear k l
    refine cdF dR (by kernel_rfl) ?_
    refine wp_skip ?_
    refine thn ?_
    refine wp_seq ?_
    have gD : Fr 171 [] [⟨9, [], i6 (w64 ((w64 ((w64 (u1 - (w64 (u0.Add * u2)))).tdiv a)).tdiv f))⟩, ⟨11, [], i6 (w64 (h.tdiv i))⟩, ⟨14, [], i6 (boundsS u0).1⟩, ⟨15, [], i6 (boundsS u0).2⟩] kf := dR.reg; clear dR
    refine sqB gD j [] [] [(16, i6 (w64 ((w64 ((w64 ((w64 (u1 - (w64 (u0.Add * u2)))).tdiv a)).tdiv f)) * (w64 (h.tdiv i)))))] ?_; intro oz gE; clear gD
    refine sqB gE j [] [] [(167, .bool ((decide ((w64 ((w64 ((w64 ((w64 (u1 - (w64 (u0.Add * u2)))).tdiv a)).tdiv f)) * (w64 (h.tdiv i)))) < (boundsS u0).1)) || (decide ((w64 ((w64 ((w64 ((w64 (u1 - (w64 (u0.Add * u2)))).tdiv a)).tdiv f)) * (w64 (h.tdiv i)))) > (boundsS u0).2))))] ?_; intro oA W; clear gE
    refine cd W (t := (decide ((w64 ((w64 ((w64 ((w64 (u1 - (w64 (u0.Add * u2)))).tdiv a)).tdiv f)) * (w64 (h.tdiv i)))) < (boundsS u0).1)) || (decide ((w64 ((w64 ((w64 ((w64 (u1 - (w64 (u0.Add * u2)))).tdiv a)).tdiv f)) * (w64 (h.tdiv i)))) > (boundsS u0).2))) (by kernel_rfl) (fun dS => ?_) (fun dS => ?_)
    ·
     have kg := bT.1 dS; clear bT
     refine sqB W j [] [] [(6, i6 0), (7, i6 3)] ?_; intro oB kh; clear W
     refine wp_ret ?_
     refine thr ?_
     refine ra2 kh (.tuple #[i6 0, i6 3]) ?_
     exact ⟨(0, 3), rfl, kg, j.below⟩
    have ki := bT.2 dS; clear bT
    refine wp_skip ?_
    refine thn ?_
    refine sqB W j [] [] [(6, i6 (w64 ((w64 ((w64 ((w64 (u1 - (w64 (u0.Add * u2)))).tdiv a)).tdiv f)) * (w64 (h.tdiv i))))), (7, i6 0)] ?_; intro oC kj; clear W
    refine wp_ret ?_
    refine ra2 kj (.tuple #[i6 (w64 ((w64 ((w64 ((w64 (u1 - (w64 (u0.Add * u2)))).tdiv a)).tdiv f)) * (w64 (h.tdiv i)))), i6 0]) ?_
    exact ⟨(w64 ((w64 ((w64 ((w64 (u1 - (w64 (u0.Add * u2)))).tdiv a)).tdiv f)) * (w64 (h.tdiv i))), 0), rfl, ki, j.below⟩
   have bU := bx.2 R; clear bx
   have gF := bF.reval (d := 134) (c := []) (v := .bool ((decide ((w64 ((w64 ((w64 (u1 - (w64 (u0.Add * u2)))).tdiv a)).tdiv f)) > 0)) && (decide ((w64 (h.tdiv i)) < 0)))) (by kernel_rfl) (.bool false) (by rw [R]); clear bF
   refine sk gF (b := false) rfl rfl (by kernel_rfl) (by kernel_rfl) rfl rfl (by kernel_rfl) ?_; intro oD gG; clear gF
   refine sk gG (b := false) rfl rfl (by kernel_rfl) (by kernel_rfl) rfl rfl (by kernel_rfl) ?_; intro oE gH; clear gG
   refine sk gH (b := false) rfl rfl (by kernel_rfl) (by kernel_rfl) rfl rfl (by kernel_rfl) ?_; intro oF gI; clear gH
   refine sk gI (b := false) rfl rfl (by kernel_rfl) (by kernel_rfl) rfl rfl (by kernel_rfl) ?_; intro oG gJ; clear gI
   refine sk gJ (b := false) rfl rfl (by kernel_rfl) (by kernel_rfl) rfl rfl (by kernel_rfl) ?_; intro oH bV; clear gJ
   refine st bV (.bool false) (by rw [wanted_of bV (b := false) rfl rfl (by kernel_rfl) (by kernel_rfl)]; rfl) rfl (by kernel_rfl) (p0 bV (by kernel_rfl)) ?_; intro oI gK; clear bV
   refine s1 gK 141 (.bool false) ?_; intro oJ gL; clear gK
   refine s1 gL 142 (.bool false) ?_; intro oK bW; clear gL
   refine st bW (i6 (w64 ((w64 ((w64 (u1 - (w64 (u0.Add * u2)))).tdiv a)).tdiv f))) (by rw [wanted_of bW (b := false) rfl rfl (by kernel_rfl) (by kernel_rfl)]; rfl) rfl (by kernel_rfl) (p0 bW (by kernel_rfl)) ?_; intro oL bX; clear bW
   refine st bX (.bool (decide ((w64 ((w64 ((w64 (u1 - (w64 (u0.Add * u2)))).tdiv a)).tdiv f)) < 0))) (by rw [wanted_of bX (b := false) rfl rfl (by kernel_rfl) (by kernel_rfl)]; rfl) rfl (by kernel_rfl) (p0 bX (by kernel_rfl)) ?_; intro oM bY; clear bX
   refine st bY (.bool (decide ((w64 ((w64 ((w64 (u1 - (w64 (u0.Add * u2)))).tdiv a)).tdiv f)) < 0))) (by rw [wanted_of bY (b := false) rfl rfl (by kernel_rfl) (by kernel_rfl)]; rfl) rfl (by kernel_rfl) (p0 bY (by kernel_rfl)) ?_; intro oN gM; clear bY
   refine gp gM 146 0 [] (decide ((w64 ((w64 ((w64 (u1 - (w64 (u0.Add * u2)))).tdiv a)).tdiv f)) < 0)) (i6 (w64 (h.tdiv i))) rfl rfl ?_; intro oO gN; clear gM
   refine gp gN 147 0 [] (decide ((w64 ((w64 ((w64 (u1 - (w64 (u0.Add * u2)))).tdiv a)).tdiv f)) < 0)) (.bool (decide ((w64 (h.tdiv i)) < 0))) rfl rfl ?_; intro oP bZ; clear gN
   refine st bZ (.bool ((decide ((w64 ((w64 ((w64 (u1 - (w64 (u0.Add * u2)))).tdiv a)).tdiv f)) < 0)) && (decide ((w64 (h.tdiv i)) < 0)))) (by rw [wanted_of bZ (b := false) rfl rfl (by kernel_rfl) (by kernel_rfl)]; rfl) rfl (by kernel_rfl) (pk_and bZ (g := []) (m := 0) (b := decide ((w64 ((w64 ((w64 (u1 - (w64 (u0.Add * u2)))).tdiv a)).tdiv f)) < 0)) (v := decide ((w64 (h.tdiv i)) < 0)) rfl (by kernel_rfl) (by kernel_rfl) (by kernel_rfl) rfl) ?_; intro oQ b0; clear bZ
   refine st b0 (.bool ((decide ((w64 ((w64 ((w64 (u1 - (w64 (u0.Add * u2)))).tdiv a)).tdiv f)) < 0)) && (decide ((w64 (h.tdiv i)) < 0)))) (by rw [wanted_of b0 (b := false) rfl rfl (by kernel_rfl) (by kernel_rfl)]; rfl) rfl (by kernel_rfl) (p0 b0 (by kernel_rfl)) ?_; intro oR b1; clear b0
   rcases Bool.eq_false_or_eq_true ((decide ((w64 ((w64 ((w64 (u1 - (w64 (u0.Add * u2)))).tdiv a)).tdiv f)) < 0)) && (decide ((w64 (h.tdiv i)) < 0))) with X | X
   ·
    have kk := bU.1 X; clear bU
    have gO := b1.reval (d := 149) (c := []) (v := .bool ((decide ((w64 ((w64 ((w64 (u1 - (w64 (u0.Add * u2)))).tdiv a)).tdiv f)) < 0)) && (decide ((w64 (h.tdiv i)) < 0)))) (by kernel_rfl) (.bool true) (by rw [X]); clear b1
    refine bt gO j 3 [] [150, 151, 152] [(150, i6 (w64 ((w64 ((w64 (u1 - (w64 (u0.Add * u2)))).tdiv a)).tdiv f))), (151, i6 (boundsS u0).2), (152, i6 (w64 (h.tdiv i)))] ?_; intro oS b3; clear gO
    obtain ⟨kl, b4⟩ := kk
    refine st b3 (i6 (w64 ((boundsS u0).2.tdiv (w64 (h.tdiv i))))) (by rw [wanted_of b3 (b := true) rfl rfl (by kernel_rfl) (by kernel_rfl)]; rfl) rfl (by kernel_rfl) (quo_run b3 (g := []) rfl (by kernel_rfl) (by kernel_rfl) kl rfl) ?_; intro oT gP; clear b3
    refine bt gP j 3 [] [154, 155, 156] [(156, .bool (decide ((w64 ((w64 ((w64 (u1 - (w64 (u0.Add * u2)))).tdiv a)).tdiv f)) < (w64 ((boundsS u0).2.tdiv (w64 (h.tdiv i)))))))] ?_; intro gQ Y; clear gP
    refine nlH (k _ _ ?_); clear k l
    refine cd Y (t := decide ((w64 ((w64 ((w64 (u1 - (w64 (u0.Add * u2)))).tdiv a)).tdiv f)) < (w64 ((boundsS u0).2.tdiv (w64 (h.tdiv i)))))) (by kernel_rfl) (fun dT => ?_) (fun dT => ?_)
    ·
     have km := b4.1 dT; clear b4
     have gR : Fr 171 [] [] gQ := Y.reg; clear Y
     refine sqB gR j [] [] [(6, i6 0), (7, i6 3)] ?_; intro oU kn; clear gR
     refine wp_ret ?_
     refine thr ?_
     refine ra2 kn (.tuple #[i6 0, i6 3]) ?_
     exact ⟨(0, 3), rfl, km, j.below⟩
    have b5 := b4.2 dT; clear b4
    refine wp_skip ?_
    refine thn ?_
    refine wp_seq ?_
    have gS : Fr 171 [] [⟨9, [], i6 (w64 ((w64 ((w64 (u1 - (w64 (u0.Add * u2)))).tdiv a)).tdiv f))⟩, ⟨11, [], i6 (w64 (h.tdiv i))⟩, ⟨14, [], i6 (boundsS u0).1⟩, ⟨15, [], i6 (boundsS u0).2⟩] gQ := Y.reg; clear Y
    refine sqB gS j [] [] [(16, i6 (w64 ((w64 ((w64 ((w64 (u1 - (w64 (u0.Add * u2)))).tdiv a)).tdiv f)) * (w64 (h.tdiv i)))))] ?_; intro oV gT; clear gS
    refine sqB gT j [] [] [(167, .bool ((decide ((w64 ((w64 ((w64 ((w64 (u1 - (w64 (u0.Add * u2)))).tdiv a)).tdiv f)) * (w64 (h.tdiv i)))) < (boundsS u0).1)) || (decide ((w64 ((w64 ((w64 ((w64 (u1 - (w64 (u0.Add * u2)))).tdiv a)).tdiv f)) * (w64 (h.tdiv i)))) > (boundsS u0).2))))] ?_; intro oW aa; clear gT
    refine cd aa (t := (decide ((w64 ((w64 ((w64 ((w64 (u1 - (w64 (u0.Add * u2)))).tdiv a)).tdiv f)) * (w64 (h.tdiv i)))) < (boundsS u0).1)) || (decide ((w64 ((w64 ((w64 ((w64 (u1 - (w64 (u0.Add * u2)))).tdiv a)).tdiv f)) * (w64 (h.tdiv i)))) > (boundsS u0).2))) (by kernel_rfl) (fun dU => ?_) (fun dU => ?_)
    ·
     have ko := b5.1 dU; clear b5
     refine sqB aa j [] [] [(6, i6 0), (7, i6 3)] ?_; intro oX kp; clear aa
     refine wp_ret ?_
     refine thr ?_
     refine ra2 kp (.tuple #[i6 0, i6 3]) ?_
     exact ⟨(0, 3), rfl, ko, j.below⟩
    have kq := b5.2 dU; clear b5
    refine wp_skip ?_
    refine thn ?_
    refine sqB aa j [] [] [(6, i6 (w64 ((w64 ((w64 ((w64 (u1 - (w64 (u0.Add * u2)))).tdiv a)).tdiv f)) * (w64 (h.tdiv i))))), (7, i6 0)] ?_; intro oY kr; clear aa
    refine wp_ret ?_
    refine ra2 kr (.tuple #[i6 (w64 ((w64 ((w64 ((w64 (u1 - (w64 (u0.Add * u2)))).tdiv a)).tdiv f)) * (w64 (h.tdiv i)))), i6 0]) ?_
    exact ⟨(w64 ((w64 ((w64 ((w64 (u1 - (w64 (u0.Add * u2)))).tdiv a)).tdiv f)) * (w64 (h.tdiv i))), 0), rfl, kq, j.below⟩
   have b6 := bU.2 X; clear bU
   have gU := b1.reval (d := 149) (c := []) (v := .bool ((decide ((w64 ((w64 ((w64 (u1 - (w64 (u0.Add * u2)))).tdiv a)).tdiv f)) < 0)) && (decide ((w64 (h.tdiv i)) < 0)))) (by kernel_rfl) (.bool false) (by rw [X]); clear b1
   refine bt gU j 7 [] [150, 151, 152, 153, 154, 155, 156] [(156, .bool false)] ?_; intro ks dV; clear gU
   refine nlH (k _ _ ?_); clear k l
   refine cdF dV (by kernel_rfl) ?_
   refine wp_skip ?_
   refine thn ?_
   refine wp_seq ?_
   have gV : Fr 171 [] [⟨9, [], i6 (w64 ((w64 ((w64 (u1 - (w64 (u0.Add * u2)))).tdiv a)).tdiv f))⟩, ⟨11, [], i6 (w64 (h.tdiv i))⟩, ⟨14, [], i6 (boundsS u0).1⟩, ⟨15, [], i6 (boundsS u0).2⟩] ks := dV.reg; clear dV
   refine sqB gV j [] [] [(16, i6 (w64 ((w64 ((w64 ((w64 (u1 - (w64 (u0.Add * u2)))).tdiv a)).tdiv f)) * (w64 (h.tdiv i)))))] ?_; intro oZ gW; clear gV
   refine sqB gW j [] [] [(167, .bool ((decide ((w64 ((w64 ((w64 ((w64 (u1 - (w64 (u0.Add * u2)))).tdiv a)).tdiv f)) * (w64 (h.tdiv i)))) < (boundsS u0).1)) || (decide ((w64 ((w64 ((w64 ((w64 (u1 - (w64 (u0.Add * u2)))).tdiv a)).tdiv f)) * (w64 (h.tdiv i)))) > (boundsS u0).2))))] ?_; intro o0 ab; clear gW
   refine cd ab (t := (decide ((w64 ((w64 ((w64 ((w64 (u1 - (w64 (u0.Add * u2)))).tdiv a)).tdiv f)) * (w64 (h.tdiv i)))) < (boundsS u0).1)) || (decide ((w64 ((w64 ((w64 ((w64 (u1 - (w64 (u0.Add * u2)))).tdiv a)).tdiv f)) * (w64 (h.tdiv i)))) > (boundsS u0).2))) (by kernel_rfl) (fun dW => ?_) (fun dW => ?_)
   ·
    have kt := b6.1 dW; clear b6
    refine sqB ab j [] [] [(6, i6 0), (7, i6 3)] ?_; intro o1 ku; clear ab
    refine wp_ret ?_
    refine thr ?_
    refine ra2 ku (.tuple #[i6 0, i6 3]) ?_
    exact ⟨(0, 3), rfl, kt, j.below⟩
   have kv := b6.2 dW; clear b6
   refine wp_skip ?_
   refine thn ?_
   refine sqB ab j [] [] [(6, i6 (w64 ((w64 ((w64 ((w64 (u1 - (w64 (u0.Add * u2)))).tdiv a)).tdiv f)) * (w64 (h.tdiv i))))), (7, i6 0)] ?_; intro o2 kw; clear ab
   refine wp_ret ?_
   refine ra2 kw (.tuple #[i6 (w64 ((w64 ((w64 ((w64 (u1 - (w64 (u0.Add * u2)))).tdiv a)).tdiv f)) * (w64 (h.tdiv i)))), i6 0]) ?_
   exact ⟨(w64 ((w64 ((w64 ((w64 (u1 - (w64 (u0.Add * u2)))).tdiv a)).tdiv f)) * (w64 (h.tdiv i))), 0), rfl, kv, j.below⟩
  have b7 := aG.2 C; clear aG
  have gX := aH.reval (d := 105) (c := []) (v := .bool ((decide ((w64 ((w64 ((w64 (u1 - (w64 (u0.Add * u2)))).tdiv a)).tdiv f)) > 0)) && (decide ((w64 (h.tdiv i)) > 0)))) (by kernel_rfl) (.bool false) (by rw [C]); clear aH
  refine sk gX (b := false) rfl rfl (by kernel_rfl) (by kernel_rfl) rfl rfl (by kernel_rfl) ?_; intro o3 gY; clear gX
  refine sk gY (b := false) rfl rfl (by kernel_rfl) (by kernel_rfl) rfl rfl (by kernel_rfl) ?_; intro o4 gZ; clear gY
  refine sk gZ (b := false) rfl rfl (by kernel_rfl) (by kernel_rfl) rfl rfl (by kernel_rfl) ?_; intro o5 g0; clear gZ
  refine sk g0 (b := false) rfl rfl (by kernel_rfl) (by kernel_rfl) rfl rfl (by kernel_rfl) ?_; intro o6 g1; clear g0
  refine sk g1 (b := false) rfl rfl (by kernel_rfl) (by kernel_rfl) rfl rfl (by kernel_rfl) ?_; intro o7 g2; clear g1
  refine s1 g2 111 (.bool false) ?_; intro o8 g3; clear g2
  refine s1 g3 112 (.bool false) ?_; intro o9 b8; clear g3
  refine st b8 (i6 (w64 ((w64 ((w64 (u1 - (w64 (u0.Add * u2)))).tdiv a)).tdiv f))) (by rw [wanted_of b8 (b := false) rfl rfl (by kernel_rfl) (by kernel_rfl)]; rfl) rfl (by kernel_rfl) (p0 b8 (by kernel_rfl)) ?_; intro pa b9; clear b8
  refine st b9 (.bool (decide ((w64 ((w64 ((w64 (u1 - (w64 (u0.Add * u2)))).tdiv a)).tdiv f)) < 0))) (by rw [wanted_of b9 (b := false) rfl rfl (by kernel_rfl) (by kernel_rfl)]; rfl) rfl (by kernel_rfl) (p0 b9 (by kernel_rfl)) ?_; intro pc ca; clear b9
  refine st ca (.bool (decide ((w64 ((w64 ((w64 (u1 - (w64 (u0.Add * u2)))).tdiv a)).tdiv f)) < 0))) (by rw [wanted_of ca (b := false) rfl rfl (by kernel_rfl) (by kernel_rfl)]; rfl) rfl (by kernel_rfl) (p0 ca (by kernel_rfl)) ?_; intro pd g4; clear ca
  have g5 := g4.atom ((decide ((w64 ((w64 ((w64 (u1 - (w64 (u0.Add * u2)))).tdiv a)).tdiv f)) < 0)) == true) (by kernel_rfl); clear g4
  refine gp g5 116 0 [] (decide ((w64 ((w64 ((w64 (u1 - (w64 (u0.Add * u2)))).tdiv a)).tdiv f)) < 0)) (i6 (w64 (h.tdiv i))) rfl rfl ?_; intro pe g6; clear g5
  refine gp g6 117 0 [] (decide ((w64 ((w64 ((w64 (u1 - (w64 (u0.Add * u2)))).tdiv a)).tdiv f)) < 0)) (.bool (decide ((w64 (h.tdiv i)) > 0))) rfl rfl ?_; intro pf cb; clear g6
  refine st cb (.bool ((decide ((w64 ((w64 ((w64 (u1 - (w64 (u0.Add * u2)))).tdiv a)).tdiv f)) < 0)) && (decide ((w64 (h.tdiv i)) > 0)))) (by rw [wanted_of cb (b := false) rfl rfl (by kernel_rfl) (by kernel_rfl)]; rfl) rfl (by kernel_rfl) (pk_and cb (g := []) (m := 0) (b := decide ((w64 ((w64 ((w64 (u1 - (w64 (u0.Add * u2)))).tdiv a)).tdiv f)) < 0)) (v := decide ((w64 (h.tdiv i)) > 0)) rfl (by kernel_rfl) (by kernel_rfl) (by kernel_rfl) rfl) ?_; intro pg cc; clear cb
  refine st cc (.bool ((decide ((w64 ((w64 ((w64 (u1 - (w64 (u0.Add * u2)))).tdiv a)).tdiv f)) < 0)) && (decide ((w64 (h.tdiv i)) > 0)))) (by rw [wanted_of cc (b := false) rfl rfl (by kernel_rfl) (by kernel_rfl)]; rfl) rfl (by kernel_rfl) (p0 cc (by kernel_rfl)) ?_; intro ph ce; clear cc
  rcases Bool.eq_false_or_eq_true ((decide ((w64 ((w64 ((w64 (u1 - (w64 (u0.Add * u2)))).tdiv a)).tdiv f)) < 0)) && (decide ((w64 (h.tdiv i)) > 0))) with ac | ac
  ·
   have kx := b7.1 ac; clear b7
   have g7 := ce.reval (d := 119) (c := []) (v := .bool ((decide ((w64 ((w64 ((w64 (u1 - (w64 (u0.Add * u2)))).tdiv a)).tdiv f)) < 0)) && (decide ((w64 (h.tdiv i)) > 0)))) (by kernel_rfl) (.bool true) (by rw [ac]); clear ce
   refine bt g7 j 3 [] [120, 121, 122] [(120, i6 (w64 ((w64 ((w64 (u1 - (w64 (u0.Add * u2)))).tdiv a)).tdiv f))), (121, i6 (boundsS u0).1), (122, i6 (w64 (h.tdiv i)))] ?_; intro pi cf; clear g7
   obtain ⟨ky, cg⟩ := kx
   refine st cf (i6 (w64 ((boundsS u0).1.tdiv (w64 (h.tdiv i))))) (by rw [wanted_of cf (b := true) rfl rfl (by kernel_rfl) (by kernel_rfl)]; rfl) rfl (by kernel_rfl) (quo_run cf (g := []) rfl (by kernel_rfl) (by kernel_rfl) ky rfl) ?_; intro pj g8; clear cf
   refine bt g8 j 4 [] [124, 125, 126] [(127, .bool (decide ((w64 ((w64 ((w64 (u1 - (w64 (u0.Add * u2)))).tdiv a)).tdiv f)) < (w64 ((boundsS u0).1.tdiv (w64 (h.tdiv i)))))))] ?_; intro pk ch; clear g8
   rcases Bool.eq_false_or_eq_true (decide ((w64 ((w64 ((w64 (u1 - (w64 (u0.Add * u2)))).tdiv a)).tdiv f)) < (w64 ((boundsS u0).1.tdiv (w64 (h.tdiv i)))))) with ad | ad
   ·
    have kz := cg.1 ad; clear cg
    have g9 := ch.reval (d := 127) (c := []) (v := .bool (decide ((w64 ((w64 ((w64 (u1 - (w64 (u0.Add * u2)))).tdiv a)).tdiv f)) < (w64 ((boundsS u0).1.tdiv (w64 (h.tdiv i))))))) (by kernel_rfl) (.bool true) (by rw [ad]); clear ch
    refine bt g9 j 29 [] [128, 129, 130, 131, 132, 133, 134, 135, 136, 137, 138, 139, 140, 141, 143, 144, 145, 146, 147, 148, 149, 150, 151, 152, 153, 154, 155, 156] [(156, .bool true)] ?_; intro kA dX; clear g9
    refine nlH (k _ _ ?_); clear k l
    refine cdT dX (by kernel_rfl) ?_
    have ha : Fr 171 [] [] kA := dX.reg; clear dX
    refine sqB ha j [] [] [(6, i6 0), (7, i6 3)] ?_; intro pl kB; clear ha
    refine wp_ret ?_
    refine thr ?_
    refine ra2 kB (.tuple #[i6 0, i6 3]) ?_
    exact ⟨(0, 3), rfl, kz, j.below⟩
   have ci := cg.2 ad; clear cg
   have cj := ch.reval (d := 127) (c := []) (v := .bool (decide ((w64 ((w64 ((w64 (u1 - (w64 (u0.Add * u2)))).tdiv a)).tdiv f)) < (w64 ((boundsS u0).1.tdiv (w64 (h.tdiv i))))))) (by kernel_rfl) (.bool false) (by rw [ad]); clear ch
   refine st cj (i6 (w64 ((w64 ((w64 (u1 - (w64 (u0.Add * u2)))).tdiv a)).tdiv f))) (by rw [wanted_of cj (b := false) rfl rfl (by kernel_rfl) (by kernel_rfl)]; rfl) rfl (by kernel_rfl) (p0 cj (by kernel_rfl)) ?_; intro pm cl; clear cj
   refine st cl (.bool (decide ((w64 ((w64 ((w64 (u1 - (w64 (u0.Add * u2)))).tdiv a)).tdiv f)) > 0))) (by rw [wanted_of cl (b := false) rfl rfl (by kernel_rfl) (by kernel_rfl)]; rfl) rfl (by kernel_rfl) (p0 cl (by kernel_rfl)) ?_; intro pn cm; clear cl
   refine st cm (.bool (decide ((w64 ((w64 ((w64 (u1 - (w64 (u0.Add * u2)))).tdiv a)).tdiv f)) > 0))) (by rw [wanted_of cm (b := false) rfl rfl (by kernel_rfl) (by kernel_rfl)]; rfl) rfl (by kernel_rfl) (p0 cm (by kernel_rfl)) ?_; intro po hc; clear cm
   have hd := hc.atom ((decide ((w64 ((w64 ((w64 (u1 - (w64 (u0.Add * u2)))).tdiv a)).tdiv f)) > 0)) == true) (by kernel_rfl); clear hc
   refine gp hd 131 0 [] (decide ((w64 ((w64 ((w64 (u1 - (w64 (u0.Add * u2)))).tdiv a)).tdiv f)) > 0)) (i6 (w64 (h.tdiv i))) rfl rfl ?_; intro pp he; clear hd
   refine gp he 132 0 [] (decide ((w64 ((w64 ((w64 (u1 - (w64 (u0.Add * u2)))).tdiv a)).tdiv f)) > 0)) (.bool (decide ((w64 (h.tdiv i)) < 0))) rfl rfl ?_; intro pq cn; clear he
   refine st cn (.bool ((decide ((w64 ((w64 ((w64 (u1 - (w64 (u0.Add * u2)))).tdiv a)).tdiv f)) > 0)) && (decide ((w64 (h.tdiv i)) < 0)))) (by rw [wanted_of cn (b := false) rfl rfl (by kernel_rfl) (by kernel_rfl)]; rfl) rfl (by kernel_rfl) (pk_and cn (g := []) (m := 0) (b := decide ((w64 ((w64 ((w64 (u1 - (w64 (u0.Add * u2)))).tdiv a)).tdiv f)) > 0)) (v := decide ((w64 (h.tdiv i)) < 0)) rfl (by kernel_rfl) (by kernel_rfl) (by kernel_rfl) rfl) ?_; intro pr co; clear cn
   refine st co (.bool ((decide ((w64 ((w64 ((w64 (u1 - (w64 (u0.Add * u2)))).tdiv a)).tdiv f)) > 0)) && (decide ((w64 (h.tdiv i)) < 0)))) (by rw [wanted_of co (b := false) rfl rfl (by kernel_rfl) (by kernel_rfl)]; rfl) rfl (by kernel_rfl) (p0 co (by kernel_rfl)) ?_; intro ps cp; clear co
   rcases Bool.eq_false_or_eq_true ((decide ((w64 ((w64 ((w64 (u1 - (w64 (u0.Add * u2)))).tdiv a)).tdiv f)) > 0)) && (decide ((w64 (h.tdiv i)) < 0))) with ae | ae
   ·
    have kC := ci.1 ae; clear ci
    have hf := cp.reval (d := 134) (c := []) (v := .bool ((decide ((w64 ((w64 ((w64 (u1 - (w64 (u0.Add * u2)))).tdiv a)).tdiv f)) > 0)) && (decide ((w64 (h.tdiv i)) < 0)))) (by kernel_rfl) (.bool true) (by rw [ae]); clear cp
    refine bt hf j 3 [] [135, 136, 137] [(135, i6 (w64 ((w64 ((w64 (u1 - (w64 (u0.Add * u2)))).tdiv a)).tdiv f))), (136, i6 (boundsS u0).1), (137, i6 (w64 (h.tdiv i)))] ?_; intro pu cq; clear hf
    obtain ⟨kD, cr⟩ := kC
    refine st cq (i6 (w64 ((boundsS u0).1.tdiv (w64 (h.tdiv i))))) (by rw [wanted_of cq (b := true) rfl rfl (by kernel_rfl) (by kernel_rfl)]; rfl) rfl (by kernel_rfl) (quo_run cq (g := []) rfl (by kernel_rfl) (by kernel_rfl) kD rfl) ?_; intro pv hg; clear cq
    refine bt hg j 4 [] [139, 140, 141] [(142, .bool (decide ((w64 ((w64 ((w64 (u1 - (w64 (u0.Add * u2)))).tdiv a)).tdiv f)) > (w64 ((boundsS u0).1.tdiv (w64 (h.tdiv i)))))))] ?_; intro pw ct; clear hg
    rcases Bool.eq_false_or_eq_true (decide ((w64 ((w64 ((w64 (u1 - (w64 (u0.Add * u2)))).tdiv a)).tdiv f)) > (w64 ((boundsS u0).1.tdiv (w64 (h.tdiv i)))))) with af | af
    ·
     have kE := cr.1 af; clear cr
     have hh := ct.reval (d := 142) (c := []) (v := .bool (decide ((w64 ((w64 ((w64 (u1 - (w64 (u0.Add * u2)))).tdiv a)).tdiv f)) > (w64 ((boundsS u0).1.tdiv (w64 (h.tdiv i))))))) (by kernel_rfl) (.bool true) (by rw [af]); clear ct
     refine bt hh j 14 [] [143, 144, 145, 146, 147, 148, 149, 150, 151, 152, 153, 154, 155, 156] [(156, .bool true)] ?_; intro kF dY; clear hh
     refine nlH (k _ _ ?_); clear k l
     refine cdT dY (by kernel_rfl) ?_
     have hi : Fr 171 [] [] kF := dY.reg; clear dY
     refine sqB hi j [] [] [(6, i6 0), (7, i6 3)] ?_; intro px kG; clear hi
     refine wp_ret ?_
     refine thr ?_
     refine ra2 kG (.tuple #[i6 0, i6 3]) ?_
     exact ⟨(0, 3), rfl, kE, j.below⟩
    have cu := cr.2 af; clear cr
    have cv := ct.reval (d := 142) (c := []) (v := .bool (decide ((w64 ((w64 ((w64 (u1 - (w64 (u0.Add * u2)))).tdiv a)).tdiv f)) > (w64 ((boundsS u0).1.tdiv (w64 (h.tdiv i))))))) (by kernel_rfl) (.bool false) (by rw [af]); clear ct
    refine st cv (i6 (w64 ((w64 ((w64 (u1 - (w64 (u0.Add * u2)))).tdiv a)).tdiv f))) (by rw [wanted_of cv (b := false) rfl rfl (by kernel_rfl) (by kernel_rfl)]; rfl) rfl (by kernel_rfl) (p0 cv (by kernel_rfl)) ?_; intro py cw; clear cv
    refine st cw (.bool (decide ((w64 ((w64 ((w64 (u1 - (w64 (u0.Add * u2)))).tdiv a)).tdiv f)) < 0))) (by rw [wanted_of cw (b := false) rfl rfl (by kernel_rfl) (by kernel_rfl)]; rfl) rfl (by kernel_rfl) (p0 cw (by kernel_rfl)) ?_; intro pz cx; clear cw
    refine st cx (.bool (decide ((w64 ((w64 ((w64 (u1 - (w64 (u0.Add * u2)))).tdiv a)).tdiv f)) < 0))) (by rw [wanted_of cx (b := false) rfl rfl (by kernel_rfl) (by kernel_rfl)]; rfl) rfl (by kernel_rfl) (p0 cx (by kernel_rfl)) ?_; intro pA hj; clear cx
    have hk := hj.atom ((decide ((w64 ((w64 ((w64 (u1 - (w64 (u0.Add * u2)))).tdiv a)).tdiv f)) < 0)) == true) (by kernel_rfl); clear hj
    refine gp hk 146 0 [] (decide ((w64 ((w64 ((w64 (u1 - (w64 (u0.Add * u2)))).tdiv a)).tdiv f)) < 0)) (i6 (w64 (h.tdiv i))) rfl rfl ?_; intro pB hl; clear hk
    refine gp hl 147 0 [] (decide ((w64 ((w64 ((w64 (u1 - (w64 (u0.Add * u2)))).tdiv a)).tdiv f)) < 0)) (.bool (decide ((w64 (h.tdiv i)) < 0))) rfl rfl ?_; intro pC cy; clear hl
    refine st cy (.bool ((decide ((w64 ((w64 ((w64 (u1 - (w64 (u0.Add * u2)))).tdiv a)).tdiv f)) < 0)) && (decide ((w64 (h.tdiv i)) < 0)))) (by rw [wanted_of cy (b := false) rfl rfl (by kernel_rfl) (by kernel_rfl)]; rfl) rfl (by kernel_rfl) (pk_and cy (g := []) (m := 0) (b := decide ((w64 ((w64 ((w64 (u1 - (w64 (u0.Add * u2)))).tdiv a)).tdiv f)) < 0)) (v := decide ((w64 (h.tdiv i)) < 0)) rfl (by kernel_rfl) (by kernel_rfl) (by kernel_rfl) rfl) ?_; intro pD cz; clear cy
    refine st cz (.bool ((decide ((w64 ((w64 ((w64 (u1 - (w64 (u0.Add * u2)))).tdiv a)).tdiv f)) < 0)) && (decide ((w64 (h.tdiv i)) < 0)))) (by rw [wanted_of cz (b := false) rfl rfl (by kernel_rfl) (by kernel_rfl)]; rfl) rfl (by kernel_rfl) (p0 cz (by kernel_rfl)) ?_; intro pE cA; clear cz
    rcases Bool.eq_false_or_eq_true ((decide ((w64 ((w64 ((w64 (u1 - (w64 (u0.Add * u2)))).tdiv a)).tdiv f)) < 0)) && (decide ((w64 (h.tdiv i)) < 0))) with ag | ag
    ·
     have kH := cu.1 ag; clear cu
     have hm := cA.reval (d := 149) (c := []) (v := .bool ((decide ((w64 ((w64 ((w64 (u1 - (w64 (u0.Add * u2)))).tdiv a)).tdiv f)) < 0)) && (decide ((w64 (h.tdiv i)) < 0)))) (by kernel_rfl) (.bool true) (by rw [ag]); clear cA
     refine bt hm j 3 [] [150, 151, 152] [(150, i6 (w64 ((w64 ((w64 (u1 - (w64 (u0.Add * u2)))).tdiv a)).tdiv f))), (151, i6 (boundsS u0).2), (152, i6 (w64 (h.tdiv i)))] ?_; intro pF cB; clear hm
     obtain ⟨kI, cC⟩ := kH
     refine st cB (i6 (w64 ((boundsS u0).2.tdiv (w64 (h.tdiv i))))) (by rw [wanted_of cB (b := true) rfl rfl (by kernel_rfl) (by kernel_rfl)]; rfl) rfl (by kernel_rfl) (quo_run cB (g := []) rfl (by kernel_rfl) (by kernel_rfl) kI rfl) ?_; intro pG hn; clear cB
     refine bt hn j 3 [] [154, 155, 156] [(156, .bool (decide ((w64 ((w64 ((w64 (u1 - (w64 (u0.Add * u2)))).tdiv a)).tdiv f)) < (w64 ((boundsS u0).2.tdiv (w64 (h.tdiv i)))))))] ?_; intro ho ah; clear hn
     refine nlH (k _ _ ?_); clear k l
     refine cd ah (t := decide ((w64 ((w64 ((w64 (u1 - (w64 (u0.Add * u2)))).tdiv a)).tdiv f)) < (w64 ((boundsS u0).2.tdiv (w64 (h.tdiv i)))))) (by kernel_rfl) (fun dZ => ?_) (fun dZ => ?_)
     ·
      have kJ := cC.1 dZ; clear cC
      have hq : Fr 171 [] [] ho := ah.reg; clear ah
      refine sqB hq j [] [] [(6, i6 0), (7, i6 3)] ?_; intro pH kK; clear hq
      refine wp_ret ?_
      refine thr ?_
      refine ra2 kK (.tuple #[i6 0, i6 3]) ?_
      exact ⟨(0, 3), rfl, kJ, j.below⟩
     have cD := cC.2 dZ; clear cC
     refine wp_skip ?_
     refine thn ?_
     refine wp_seq ?_
     have hr : Fr 171 [] [⟨9, [], i6 (w64 ((w64 ((w64 (u1 - (w64 (u0.Add * u2)))).tdiv a)).tdiv f))⟩, ⟨11, [], i6 (w64 (h.tdiv i))⟩, ⟨14, [], i6 (boundsS u0).1⟩, ⟨15, [], i6 (boundsS u0).2⟩] ho := ah.reg; clear ah
     refine sqB hr j [] [] [(16, i6 (w64 ((w64 ((w64 ((w64 (u1 - (w64 (u0.Add * u2)))).tdiv a)).tdiv f)) * (w64 (h.tdiv i)))))] ?_; intro pI hs; clear hr
     refine sqB hs j [] [] [(167, .bool ((decide ((w64 ((w64 ((w64 ((w64 (u1 - (w64 (u0.Add * u2)))).tdiv a)).tdiv f)) * (w64 (h.tdiv i)))) < (boundsS u0).1)) || (decide ((w64 ((w64 ((w64 ((w64 (u1 - (w64 (u0.Add * u2)))).tdiv a)).tdiv f)) * (w64 (h.tdiv i)))) > (boundsS u0).2))))] ?_; intro pJ ai; clear hs
     refine cd ai (t := (decide ((w64 ((w64 ((w64 ((w64 (u1 - (w64 (u0.Add * u2)))).tdiv a)).tdiv f)) * (w64 (h.tdiv i)))) < (boundsS u0).1)) || (decide ((w64 ((w64 ((w64 ((w64 (u1 - (w64 (u0.Add * u2)))).tdiv a)).tdiv f)) * (w64 (h.tdiv i)))) > (boundsS u0).2))) (by kernel_rfl) (fun d0 => ?_) (fun d0 => ?_)
     ·
      have kL := cD.1 d0; clear cD
      refine sqB ai j [] [] [(6, i6 0), (7, i6 3)] ?_; intro pK kM; clear ai
      refine wp_ret ?_
      refine thr ?_
      refine ra2 kM (.tuple #[i6 0, i6 3]) ?_
      exact ⟨(0, 3), rfl, kL, j.below⟩
     have kN := cD.2 d0; clear cD
     refine wp_skip ?_
     refine thn ?_
     refine sqB ai j [] [] [(6, i6 (w64 ((w64 ((w64 ((w64 (u1 - (w64 (u0.Add * u2)))).tdiv a)).tdiv f)) * (w64 (h.tdiv i))))), (7, i6 0)] ?_; intro pL kO; clear ai
     refine wp_ret ?_
     refine ra2 kO (.tuple #[i6 (w64 ((w64 ((w64 ((w64 (u1 - (w64 (u0.Add * u2)))).tdiv a)).tdiv f)) * (w64 (h.tdiv i)))), i6 0]) ?_
     exact ⟨(w64 ((w64 ((w64 ((w64 (u1 - (w64 (u0.Add * u2)))).tdiv a)).tdiv f)) * (w64 (h.tdiv i))), 0), rfl, kN, j.below⟩
    have cE := cu.2 ag; clear cu
    have ht := cA.reval (d := 149) (c := []) (v := .bool ((decide ((w64 ((w64 ((w64 (u1 - (w64 (u0.Add * u2)))).tdiv a)).tdiv f)) < 0)) && (decide ((w64 (h.tdiv i)) < 0)))) (by kernel_rfl) (.bool false) (by rw [ag]); clear cA
    refine bt ht j 7 [] [150, 151, 152, 153, 154, 155, 156] [(156, .bool false)] ?_; intro kP d1; clear ht
    refine nlH (k _ _ ?_); clear k l
    refine cdF d1 (by kernel_rfl) ?_
    refine wp_skip ?_
    refine thn ?_
    refine wp_seq ?_
    have hu : Fr 171 [] [⟨9, [], i6 (w64 ((w64 ((w64 (u1 - (w64 (u0.Add * u2)))).tdiv a)).tdiv f))⟩, ⟨11, [], i6 (w64 (h.tdiv i))⟩, ⟨14, [], i6 (boundsS u0).1⟩, ⟨15, [], i6 (boundsS u0).2⟩] kP := d1.reg; clear d1
    refine sqB hu j [] [] [(16, i6 (w64 ((w64 ((w64 ((w64 (u1 - (w64 (u0.Add * u2)))).tdiv a)).tdiv f)) * (w64 (h.tdiv i)))))] ?_; intro pM hv; clear hu
    refine sqB hv j [] [] [(167, .bool ((decide ((w64 ((w64 ((w64 ((w64 (u1 - (w64 (u0.Add * u2)))).tdiv a)).tdiv f)) * (w64 (h.tdiv i)))) < (boundsS u0).1)) || (decide ((w64 ((w64 ((w64 ((w64 (u1 - (w64 (u0.Add * u2)))).tdiv a)).tdiv f)) * (w64 (h.tdiv i)))) > (boundsS u0).2))))] ?_; intro pN aj; clear hv
    refine cd aj (t := (decide ((w64 ((w64 ((w64 ((w64 (u1 - (w64 (u0.Add * u2)))).tdiv a)).tdiv f)) * (w64 (h.tdiv i)))) < (boundsS u0).1)) || (decide ((w64 ((w64 ((w64 ((w64 (u1 - (w64 (u0.Add * u2)))).tdiv a)).tdiv f)) * (w64 (h.tdiv i)))) > (boundsS u0).2))) (by kernel_rfl) (fun d2 => ?_) (fun d2 => ?_)
    ·
     have kQ := cE.1 d2; clear cE
     refine sqB aj j [] [] [(6, i6 0), (7, i6 3)] ?_; intro pO kR; clear aj
     refine wp_ret ?_
     refine thr ?_
     refine ra2 kR (.tuple #[i6 0, i6 3]) ?_
     exact ⟨(0, 3), rfl, kQ, j.below⟩
    have kS := cE.2 d2; clear cE
    refine wp_skip ?_
    refine thn ?_
    refine sqB aj j [] [] [(6, i6 (w64 ((w64 ((w64 ((w64 (u1 - (w64 (u0.Add * u2)))).tdiv a)).tdiv f)) * (w64 (h.tdiv i))))), (7, i6 0)] ?_; intro pP kT; clear aj
    refine wp_ret ?_
    refine ra2 kT (.tuple #[i6 (w64 ((w64 ((w64 ((w64 (u1 - (w64 (u0.Add * u2)))).tdiv a)).tdiv f)) * (w64 (h.tdiv i)))), i6 0]) ?_
    exact ⟨(w64 ((w64 ((w64 ((w64 (u1 - (w64 (u0.Add * u2)))).tdiv a)).tdiv f)) * (w64 (h.tdiv i))), 0), rfl, kS, j.below⟩
   have cF := ci.2 ae; clear ci
   have hw := cp.reval (d := 134) (c := []) (v := .bool ((decide ((w64 ((w64 ((w64 (u1 - (w64 (u0.Add * u2)))).tdiv a)).tdiv f)) > 0)) && (decide ((w64 (h.tdiv i)) < 0)))) (by kernel_rfl) (.bool false) (by rw [ae]); clear cp
   refine sk hw (b := false) rfl rfl (by kernel_rfl) (by kernel_rfl) rfl rfl (by kernel_rfl) ?_; intro pQ hx; clear hw
   refine sk hx (b := false) rfl rfl (by kernel_rfl) (by kernel_rfl) rfl rfl (by kernel_rfl) ?_; intro pR hy; clear hx
   refine sk hy (b := false) rfl rfl (by kernel_rfl) (by kernel_rfl) rfl rfl (by kernel_rfl) ?_; intro pS hz; clear hy
   refine sk hz (b := false) rfl rfl (by kernel_rfl) (by kernel_rfl) rfl rfl (by kernel_rfl) ?_; intro pT hA; clear hz
   refine sk hA (b := false) rfl rfl (by kernel_rfl) (by kernel_rfl) rfl rfl (by kernel_rfl) ?_; intro pU cG; clear hA
   refine st cG (.bool false) (by rw [wanted_of cG (b := false) rfl rfl (by kernel_rfl) (by kernel_rfl)]; rfl) rfl (by kernel_rfl) (p0 cG (by kernel_rfl)) ?_; intro pV hB; clear cG
   refine s1 hB 141 (.bool false) ?_; intro pW hD; clear hB
   refine s1 hD 142 (.bool false) ?_; intro pX cH; clear hD
   refine st cH (i6 (w64 ((w64 ((w64 (u1 - (w64 (u0.Add * u2)))).tdiv a)).tdiv f))) (by rw [wanted_of cH (b := false) rfl rfl (by kernel_rfl) (by kernel_rfl)]; rfl) rfl (by kernel_rfl) (p0 cH (by kernel_rfl)) ?_; intro pY cI; clear cH
   refine st cI (.bool (decide ((w64 ((w64 ((w64 (u1 - (w64 (u0.Add * u2)))).tdiv a)).tdiv f)) < 0))) (by rw [wanted_of cI (b := false) rfl rfl (by kernel_rfl) (by kernel_rfl)]; rfl) rfl (by kernel_rfl) (p0 cI (by kernel_rfl)) ?_; intro pZ cJ; clear cI
   refine st cJ (.bool (decide ((w64 ((w64 ((w64 (u1 - (w64 (u0.Add * u2)))).tdiv a)).tdiv f)) < 0))) (by rw [wanted_of cJ (b := false) rfl rfl (by kernel_rfl) (by kernel_rfl)]; rfl) rfl (by kernel_rfl) (p0 cJ (by kernel_rfl)) ?_; intro p1 hE; clear cJ
   have hF := hE.atom ((decide ((w64 ((w64 ((w64 (u1 - (w64 (u0.Add * u2)))).tdiv a)).tdiv f)) < 0)) == true) (by kernel_rfl); clear hE
   refine gp hF 146 1 [] (decide ((w64 ((w64 ((w64 (u1 - (w64 (u0.Add * u2)))).tdiv a)).tdiv f)) < 0)) (i6 (w64 (h.tdiv i))) rfl rfl ?_; intro p2 hG; clear hF
   refine gp hG 147 1 [] (decide ((w64 ((w64 ((w64 (u1 - (w64 (u0.Add * u2)))).tdiv a)).tdiv f)) < 0)) (.bool (decide ((w64 (h.tdiv i)) < 0))) rfl rfl ?_; intro p3 cK; clear hG
   refine st cK (.bool ((decide ((w64 ((w64 ((w64 (u1 - (w64 (u0.Add * u2)))).tdiv a)).tdiv f)) < 0)) && (decide ((w64 (h.tdiv i)) < 0)))) (by rw [wanted_of cK (b := false) rfl rfl (by kernel_rfl) (by kernel_rfl)]; rfl) rfl (by kernel_rfl) (pk_and cK (g := []) (m := 1) (b := decide ((w64 ((w64 ((w64 (u1 - (w64 (u0.Add * u2)))).tdiv a)).tdiv f)) < 0)) (v := decide ((w64 (h.tdiv i)) < 0)) rfl (by kernel_rfl) (by kernel_rfl) (by kernel_rfl) rfl) ?_; intro p4 cL; clear cK
   refine st cL (.bool ((decide ((w64 ((w64 ((w64 (u1 - (w64 (u0.Add * u2)))).tdiv a)).tdiv f)) < 0)) && (decide ((w64 (h.tdiv i)) < 0)))) (by rw [wanted_of cL (b := false) rfl rfl (by kernel_rfl) (by kernel_rfl)]; rfl) rfl (by kernel_rfl) (p0 cL (by kernel_rfl)) ?_; intro p5 cM; clear cL
   rcases Bool.eq_false_or_eq_true ((decide ((w64 ((w64 ((w64 (u1 - (w64 (u0.Add * u2)))).tdiv a)).tdiv f)) < 0)) && (decide ((w64 (h.tdiv i)) < 0))) with ak | ak
   ·
    have kU := cF.1 ak; clear cF
    have hH := cM.reval (d := 149) (c := []) (v := .bool ((decide ((w64 ((w64 ((w64 (u1 - (w64 (u0.Add * u2)))).tdiv a)).tdiv f)) < 0)) && (decide ((w64 (h.tdiv i)) < 0)))) (by kernel_rfl) (.bool true) (by rw [ak]); clear cM
    refine bt hH j 3 [] [150, 151, 152] [(150, i6 (w64 ((w64 ((w64 (u1 - (w64 (u0.Add * u2)))).tdiv a)).tdiv f))), (151, i6 (boundsS u0).2), (152, i6 (w64 (h.tdiv i)))] ?_; intro p6 cN; clear hH
    obtain ⟨kV, cO⟩ := kU
    refine st cN (i6 (w64 ((boundsS u0).2.tdiv (w64 (h.tdiv i))))) (by rw [wanted_of cN (b := true) rfl rfl (by kernel_rfl) (by kernel_rfl)]; rfl) rfl (by kernel_rfl) (quo_run cN (g := []) rfl (by kernel_rfl) (by kernel_rfl) kV rfl) ?_; intro p7 hI; clear cN
    refine bt hI j 3 [] [154, 155, 156] [(156, .bool (decide ((w64 ((w64 ((w64 (u1 - (w64 (u0.Add * u2)))).tdiv a)).tdiv f)) < (w64 ((boundsS u0).2.tdiv (w64 (h.tdiv i)))))))] ?_; intro hJ al; clear hI
    refine nlH (k _ _ ?_); clear k l
    refine cd al (t := decide ((w64 ((w64 ((w64 (u1 - (w64 (u0.Add * u2)))).tdiv a)).tdiv f)) < (w64 ((boundsS u0).2.tdiv (w64 (h.tdiv i)))))) (by kernel_rfl) (fun d3 => ?_) (fun d3 => ?_)
    ·
     have kW := cO.1 d3; clear cO
     have hK : Fr 171 [] [] hJ := al.reg; clear al
     refine sqB hK j [] [] [(6, i6 0), (7, i6 3)] ?_; intro p8 kX; clear hK
     refine wp_ret ?_
     refine thr ?_
     refine ra2 kX (.tuple #[i6 0, i6 3]) ?_
     exact ⟨(0, 3), rfl, kW, j.below⟩
    have cP := cO.2 d3; clear cO
    refine wp_skip ?_
    refine thn ?_
    refine wp_seq ?_
    have hL : Fr 171 [] [⟨9, [], i6 (w64 ((w64 ((w64 (u1 - (w64 (u0.Add * u2)))).tdiv a)).tdiv f))⟩, ⟨11, [], i6 (w64 (h.tdiv i))⟩, ⟨14, [], i6 (boundsS u0).1⟩, ⟨15, [], i6 (boundsS u0).2⟩] hJ := al.reg; clear al
    refine sqB hL j [] [] [(16, i6 (w64 ((w64 ((w64 ((w64 (u1 - (w64 (u0.Add * u2)))).tdiv a)).tdiv f)) * (w64 (h.tdiv i)))))] ?_; intro p9 hM; clear hL
    refine sqB hM j [] [] [(167, .bool ((decide ((w64 ((w64 ((w64 ((w64 (u1 - (w64 (u0.Add * u2)))).tdiv a)).tdiv f)) * (w64 (h.tdiv i)))) < (boundsS u0).1)) || (decide ((w64 ((w64 ((w64 ((w64 (u1 - (w64 (u0.Add * u2)))).tdiv a)).tdiv f)) * (w64 (h.tdiv i)))) > (boundsS u0).2))))] ?_; intro qa am; clear hM
    refine cd am (t := (decide ((w64 ((w64 ((w64 ((w64 (u1 - (w64 (u0.Add * u2)))).tdiv a)).tdiv f)) * (w64 (h.tdiv i)))) < (boundsS u0).1)) || (decide ((w64 ((w64 ((w64 ((w64 (u1 - (w64 (u0.Add * u2)))).tdiv a)).tdiv f)) * (w64 (h.tdiv i)))) > (boundsS u0).2))) (by kernel_rfl) (fun d4 => ?_) (fun d4 => ?_)
    ·
     have kY := cP.1 d4; clear cP
     refine sqB am j [] [] [(6, i6 0), (7, i6 3)] ?_; intro qb kZ; clear am
     refine wp_ret ?_
     refine thr ?_
     refine ra2 kZ (.tuple #[i6 0, i6 3]) ?_
     exact ⟨(0, 3), rfl, kY, j.below⟩
    have k0 := cP.2 d4; clear cP
    refine wp_skip ?_
    refine thn ?_
    refine sqB am j [] [] [(6, i6 (w64 ((w64 ((w64 ((w64 (u1 - (w64 (u0.Add * u2)))).tdiv a)).tdiv f)) * (w64 (h.tdiv i))))), (7, i6 0)] ?_; intro qc k1; clear am
    refine wp_ret ?_
    refine ra2 k1 (.tuple #[i6 (w64 ((w64 ((w64 ((w64 (u1 - (w64 (u0.Add * u2)))).tdiv a)).tdiv f)) * (w64 (h.tdiv i)))), i6 0]) ?_
    exact ⟨(w64 ((w64 ((w64 ((w64 (u1 - (w64 (u0.Add * u2)))).tdiv a)).tdiv f)) * (w64 (h.tdiv i))), 0), rfl, k0, j.below⟩
   have cQ := cF.2 ak; clear cF
   have hN := cM.reval (d := 149) (c := []) (v := .bool ((decide ((w64 ((w64 ((w64 (u1 - (w64 (u0.Add * u2)))).tdiv a)).tdiv f)) < 0)) && (decide ((w64 (h.tdiv i)) < 0)))) (by kernel_rfl) (.bool false) (by rw [ak]); clear cM
   refine bt hN j 7 [] [150, 151, 152, 153, 154, 155, 156] [(156, .bool false)] ?_; intro k2 d5; clear hN
   refine nlH (k _ _ ?_); clear k l
   refine cdF d5 (by kernel_rfl) ?_
   refine wp_skip ?_
   refine thn ?_
   refine wp_seq ?_
   have hO : Fr 171 [] [⟨9, [], i6 (w64 ((w64 ((w64 (u1 - (w64 (u0.Add * u2)))).tdiv a)).tdiv f))⟩, ⟨11, [], i6 (w64 (h.tdiv i))⟩, ⟨14, [], i6 (boundsS u0).1⟩, ⟨15, [], i6 (boundsS u0).2⟩] k2 := d5.reg; clear d5
   refine sqB hO j [] [] [(16, i6 (w64 ((w64 ((w64 ((w64 (u1 - (w64 (u0.Add * u2)))).tdiv a)).tdiv f)) * (w64 (h.tdiv i)))))] ?_; intro qd hP; clear hO
   refine sqB hP j [] [] [(167, .bool ((decide ((w64 ((w64 ((w64 ((w64 (u1 - (w64 (u0.Add * u2)))).tdiv a)).tdiv f)) * (w64 (h.tdiv i)))) < (boundsS u0).1)) || (decide ((w64 ((w64 ((w64 ((w64 (u1 - (w64 (u0.Add * u2)))).tdiv a)).tdiv f)) * (w64 (h.tdiv i)))) > (boundsS u0).2))))] ?_; intro qe an; clear hP
   refine cd an (t := (decide ((w64 ((w64 ((w64 ((w64 (u1 - (w64 (u0.Add * u2)))).tdiv a)).tdiv f)) * (w64 (h.tdiv i)))) < (boundsS u0).1)) || (decide ((w64 ((w64 ((w64 ((w64 (u1 - (w64 (u0.Add * u2)))).tdiv a)).tdiv f)) * (w64 (h.tdiv i)))) > (boundsS u0).2))) (by kernel_rfl) (fun d6 => ?_) (fun d6 => ?_)
   ·
    have k3 := cQ.1 d6; clear cQ
    refine sqB an j [] [] [(6, i6 0), (7, i6 3)] ?_; intro qf k4; clear an
    refine wp_ret ?_
    refine thr ?_
    refine ra2 k4 (.tuple #[i6 0, i6 3]) ?_
    exact ⟨(0, 3), rfl, k3, j.below⟩
   have k5 := cQ.2 d6; clear cQ
   refine wp_skip ?_
   refine thn ?_
   refine sqB an j [] [] [(6, i6 (w64 ((w64 ((w64 ((w64 (u1 - (w64 (u0.Add * u2)))).tdiv a)).tdiv f)) * (w64 (h.tdiv i))))), (7, i6 0)] ?_; intro qg k6; clear an
   refine wp_ret ?_
   refine ra2 k6 (.tuple #[i6 (w64 ((w64 ((w64 ((w64 (u1 - (w64 (u0.Add * u2)))).tdiv a)).tdiv f)) * (w64 (h.tdiv i)))), i6 0]) ?_
   exact ⟨(w64 ((w64 ((w64 ((w64 (u1 - (w64 (u0.Add * u2)))).tdiv a)).tdiv f)) * (w64 (h.tdiv i))), 0), rfl, k5, j.below⟩
  have cR := b7.2 ac; clear b7
  have hQ := ce.reval (d := 119) (c := []) (v := .bool ((decide ((w64 ((w64 ((w64 (u1 - (w64 (u0.Add * u2)))).tdiv a)).tdiv f)) < 0)) && (decide ((w64 (h.tdiv i)) > 0)))) (by kernel_rfl) (.bool false) (by rw [ac]); clear ce
  refine sk hQ (b := false) rfl rfl (by kernel_rfl) (by kernel_rfl) rfl rfl (by kernel_rfl) ?_; intro qh hR; clear hQ
  refine sk hR (b := false) rfl rfl (by kernel_rfl) (by kernel_rfl) rfl rfl (by kernel_rfl) ?_; intro qi hS; clear hR
  refine sk hS (b := false) rfl rfl (by kernel_rfl) (by kernel_rfl) rfl rfl (by kernel_rfl) ?_; intro qj hT; clear hS
  refine sk hT (b := false) rfl rfl (by kernel_rfl) (by kernel_rfl) rfl rfl (by kernel_rfl) ?_; intro qk hU; clear hT
  refine sk hU (b := false) rfl rfl (by kernel_rfl) (by kernel_rfl) rfl rfl (by kernel_rfl) ?_; intro ql cS; clear hU
  refine st cS (.bool false) (by rw [wanted_of cS (b := false) rfl rfl (by kernel_rfl) (by kernel_rfl)]; rfl) rfl (by kernel_rfl) (p0 cS (by kernel_rfl)) ?_; intro qm hV; clear cS
  refine s1 hV 126 (.bool false) ?_; intro qn hW; clear hV
  refine s1 hW 127 (.bool false) ?_; intro qo cT; clear hW
  refine st cT (i6 (w64 ((w64 ((w64 (u1 - (w64 (u0.Add * u2)))).tdiv a)).tdiv f))) (by rw [wanted_of cT (b := false) rfl rfl (by kernel_rfl) (by kernel_rfl)]; rfl) rfl (by kernel_rfl) (p0 cT (by kernel_rfl)) ?_; intro qp cU; clear cT
  refine st cU (.bool (decide ((w64 ((w64 ((w64 (u1 - (w64 (u0.Add * u2)))).tdiv a)).tdiv f)) > 0))) (by rw [wanted_of cU (b := false) rfl rfl (by kernel_rfl) (by kernel_rfl)]; rfl) rfl (by kernel_rfl) (p0 cU (by kernel_rfl)) ?_; intro qq cV; clear cU
  refine st cV (.bool (decide ((w64 ((w64 ((w64 (u1 - (w64 (u0.Add * u2)))).tdiv a)).tdiv f)) > 0))) (by rw [wanted_of cV (b := false) rfl rfl (by kernel_rfl) (by kernel_rfl)]; rfl) rfl (by kernel_rfl) (p0 cV (by kernel_rfl)) ?_; intro qr hX; clear cV
  have hY := hX.atom ((decide ((w64 ((w64 ((w64 (u1 - (w64 (u0.Add * u2)))).tdiv a)).tdiv f)) > 0)) == true) (by kernel_rfl); clear hX
  refine gp hY 131 1 [] (decide ((w64 ((w64 ((w64 (u1 - (w64 (u0.Add * u2)))).tdiv a)).tdiv f)) > 0)) (i6 (w64 (h.tdiv i))) rfl rfl ?_; intro qs h0; clear hY
  refine gp h0 132 1 [] (decide ((w64 ((w64 ((w64 (u1 - (w64 (u0.Add * u2)))).tdiv a)).tdiv f)) > 0)) (.bool (decide ((w64 (h.tdiv i)) < 0))) rfl rfl ?_; intro qt cW; clear h0
  refine st cW (.bool ((decide ((w64 ((w64 ((w64 (u1 - (w64 (u0.Add * u2)))).tdiv a)).tdiv f)) > 0)) && (decide ((w64 (h.tdiv i)) < 0)))) (by rw [wanted_of cW (b := false) rfl rfl (by kernel_rfl) (by kernel_rfl)]; rfl) rfl (by kernel_rfl) (pk_and cW (g := []) (m := 1) (b := decide ((w64 ((w64 ((w64 (u1 - (w64 (u0.Add * u2)))).tdiv a)).tdiv f)) > 0)) (v := decide ((w64 (h.tdiv i)) < 0)) rfl (by kernel_rfl) (by kernel_rfl) (by kernel_rfl) rfl) ?_; intro qu cX; clear cW
  refine st cX (.bool ((decide ((w64 ((w64 ((w64 (u1 - (w64 (u0.Add * u2)))).tdiv a)).tdiv f)) > 0)) && (decide ((w64 (h.tdiv i)) < 0)))) (by rw [wanted_of cX (b := false) rfl rfl (by kernel_rfl) (by kernel_rfl)]; rfl) rfl (by kernel_rfl) (p0 cX (by kernel_rfl)) ?_; intro qv cY; clear cX
  rcases Bool.eq_false_or_eq_true ((decide ((w64 ((w64 ((w64 (u1 - (w64 (u0.Add * u2)))).tdiv a)).tdiv f)) > 0)) && (decide ((w64 (h.tdiv i)) < 0))) with ao | ao
  ·
   have k7 := cR.1 ao; clear cR
   have h1 := cY.reval (d := 134) (c := []) (v := .bool ((decide ((w64 ((w64 ((w64 (u1 - (w64 (u0.Add * u2)))).tdiv a)).tdiv f)) > 0)) && (decide ((w64 (h.tdiv i)) < 0)))) (by kernel_rfl) (.bool true) (by rw [ao]); clear cY
   refine bt h1 j 3 [] [135, 136, 137] [(135, i6 (w64 ((w64 ((w64 (u1 - (w64 (u0.Add * u2)))).tdiv a)).tdiv f))), (136, i6 (boundsS u0).1), (137, i6 (w64 (h.tdiv i)))] ?_; intro qw cZ; clear h1
   obtain ⟨k8, c0⟩ := k7
   refine st cZ (i6 (w64 ((boundsS u0).1.tdiv (w64 (h.tdiv i))))) (by rw [wanted_of cZ (b := true) rfl rfl (by kernel_rfl) (by kernel_rfl)]; rfl) rfl (by kernel_rfl) (quo_run cZ (g := []) rfl (by kernel_rfl) (by kernel_rfl) k8 rfl) ?_; intro qx h2; clear cZ
   refine bt h2 j 4 [] [139, 140, 141] [(142, .bool (decide ((w64 ((w64 ((w64 (u1 - (w64 (u0.Add * u2)))).tdiv a)).tdiv f)) > (w64 ((boundsS u0).1.tdiv (w64 (h.tdiv i)))))))] ?_; intro qy c1; clear h2
   rcases Bool.eq_false_or_eq_true (decide ((w64 ((w64 ((w64 (u1 - (w64 (u0.Add * u2)))).tdiv a)).tdiv f)) > (w64 ((boundsS u0).1.tdiv (w64 (h.tdiv i)))))) with ap | ap
   ·
    have k9 := c0.1 ap; clear c0
    have h3 := c1.reval (d := 142) (c := []) (v := .bool (decide ((w64 ((w64 ((w64 (u1 - (w64 (u0.Add * u2)))).tdiv a)).tdiv f)) > (w64 ((boundsS u0).1.tdiv (w64 (h.tdiv i))))))) (by kernel_rfl) (.bool true) (by rw [ap]); clear c1
    refine bt h3 j 14 [] [143, 144, 145, 146, 147, 148, 149, 150, 151, 152, 153, 154, 155, 156] [(156, .bool true)] ?_; intro la d7; clear h3
    refine nlH (k _ _ ?_); clear k l
    refine cdT d7 (by kernel_rfl) ?_
    have h4 : Fr 171 [] [] la := d7.reg; clear d7
    refine sqB h4 j [] [] [(6, i6 0), (7, i6 3)] ?_; intro qz lb; clear h4
    refine wp_ret ?_
    refine thr ?_
    refine ra2 lb (.tuple #[i6 0, i6 3]) ?_
    exact ⟨(0, 3), rfl, k9, j.below⟩
   have c2 := c0.2 ap; clear c0
   have c3 := c1.reval (d := 142) (c := []) (v := .bool (decide ((w64 ((w64 ((w64 (u1 - (w64 (u0.Add * u2)))).tdiv a)).tdiv f)) > (w64 ((boundsS u0).1.tdiv (w64 (h.tdiv i))))))) (by kernel_rfl) (.bool false) (by rw [ap]); clear c1
   refine st c3 (i6 (w64 ((w64 ((w64 (u1 - (w64 (u0.Add * u2)))).tdiv a)).tdiv f))) (by rw [wanted_of c3 (b := false) rfl rfl (by kernel_rfl) (by kernel_rfl)]; rfl) rfl (by kernel_rfl) (p0 c3 (by kernel_rfl)) ?_; intro qA c4; clear c3
   refine st c4 (.bool (decide ((w64 ((w64 ((w64 (u1 - (w64 (u0.Add * u2)))).tdiv a)).tdiv f)) < 0))) (by rw [wanted_of c4 (b := false) rfl rfl (by kernel_rfl) (by kernel_rfl)]; rfl) rfl (by kernel_rfl) (p0 c4 (by kernel_rfl)) ?_; intro qB c5; clear c4
   refine st c5 (.bool (decide ((w64 ((w64 ((w64 (u1 - (w64 (u0.Add * u2)))).tdiv a)).tdiv f)) < 0))) (by rw [wanted_of c5 (b := false) rfl rfl (by kernel_rfl) (by kernel_rfl)]; rfl) rfl (by kernel_rfl) (p0 c5 (by kernel_rfl)) ?_; intro qC h5; clear c5
   have h6 := h5.atom ((decide ((w64 ((w64 ((w64 (u1 - (w64 (u0.Add * u2)))).tdiv a)).tdiv f)) < 0)) == true) (by kernel_rfl); clear h5
   refine gp h6 146 0 [] (decide ((w64 ((w64 ((w64 (u1 - (w64 (u0.Add * u2)))).tdiv a)).tdiv f)) < 0)) (i6 (w64 (h.tdiv i))) rfl rfl ?_; intro qD h7; clear h6
   refine gp h7 147 0 [] (decide ((w64 ((w64 ((w64 (u1 - (w64 (u0.Add * u2)))).tdiv a)).tdiv f)) < 0)) (.bool (decide ((w64 (h.tdiv i)) < 0))) rfl rfl ?_; intro qE c6; clear h7
   refine st c6 (.bool ((decide ((w64 ((w64 ((w64 (u1 - (w64 (u0.Add * u2)))).tdiv a)).tdiv f)) < 0)) && (decide ((w64 (h.tdiv i)) < 0)))) (by rw [wanted_of c6 (b := false) rfl rfl (by kernel_rfl) (by kernel_rfl)]; rfl) rfl (by kernel_rfl) (pk_and c6 (g := []) (m := 0) (b := decide ((w64 ((w64 ((w64 (u1 - (w64 (u0.Add * u2)))).tdiv a)).tdiv f)) < 0)) (v := decide ((w64 (h.tdiv i)) < 0)) rfl (by kernel_rfl) (by kernel_rfl) (by kernel_rfl) rfl) ?_; intro qF c7; clear c6
   refine st c7 (.bool ((decide ((w64 ((w64 ((w64 (u1 - (w64 (u0.Add * u2)))).tdiv a)).tdiv f)) < 0)) && (decide ((w64 (h.tdiv i)) < 0)))) (by rw [wanted_of c7 (b := false) rfl rfl (by kernel_rfl) (by kernel_rfl)]; rfl) rfl (by kernel_rfl) (p0 c7 (by kernel_rfl)) ?_; intro qG c8; clear c7
   rcases Bool.eq_false_or_eq_true ((decide ((w64 ((w64 ((w64 (u1 - (w64 (u0.Add * u2)))).tdiv a)).tdiv f)) < 0)) && (decide ((w64 (h.tdiv i)) < 0))) with aq | aq
   ·
    have lc := c2.1 aq; clear c2
    have h8 := c8.reval (d := 149) (c := []) (v := .bool ((decide ((w64 ((w64 ((w64 (u1 - (w64 (u0.Add * u2)))).tdiv a)).tdiv f)) < 0)) && (decide ((w64 (h.tdiv i)) < 0)))) (by kernel_rfl) (.bool true) (by rw [aq]); clear c8
    refine bt h8 j 3 [] [150, 151, 152] [(150, i6 (w64 ((w64 ((w64 (u1 - (w64 (u0.Add * u2)))).tdiv a)).tdiv f))), (151, i6 (boundsS u0).2), (152, i6 (w64 (h.tdiv i)))] ?_; intro qH c9; clear h8
    obtain ⟨lf, da⟩ := lc
    refine st c9 (i6 (w64 ((boundsS u0).2.tdiv (w64 (h.tdiv i))))) (by rw [wanted_of c9 (b := true) rfl rfl (by kernel_rfl) (by kernel_rfl)]; rfl) rfl (by kernel_rfl) (quo_run c9 (g := []) rfl (by kernel_rfl) (by kernel_rfl) lf rfl) ?_; intro qI h9; clear c9
    refine bt h9 j 3 [] [154, 155, 156] [(156, .bool (decide ((w64 ((w64 ((w64 (u1 - (w64 (u0.Add * u2)))).tdiv a)).tdiv f)) < (w64 ((boundsS u0).2.tdiv (w64 (h.tdiv i)))))))] ?_; intro ia ar; clear h9
    refine nlH (k _ _ ?_); clear k l
    refine cd ar (t := decide ((w64 ((w64 ((w64 (u1 - (w64 (u0.Add * u2)))).tdiv a)).tdiv f)) < (w64 ((boundsS u0).2.tdiv (w64 (h.tdiv i)))))) (by kernel_rfl) (fun d8 => ?_) (fun d8 => ?_)
    ·
     have lg := da.1 d8; clear da
     have ib : Fr 171 [] [] ia := ar.reg; clear ar
     refine sqB ib j [] [] [(6, i6 0), (7, i6 3)] ?_; intro qJ lh; clear ib
     refine wp_ret ?_
     refine thr ?_
     refine ra2 lh (.tuple #[i6 0, i6 3]) ?_
     exact ⟨(0, 3), rfl, lg, j.below⟩
    have db := da.2 d8; clear da
    refine wp_skip ?_
    refine thn ?_
    refine wp_seq ?_
    have ic : Fr 171 [] [⟨9, [], i6 (w64 ((w64 ((w64 (u1 - (w64 (u0.Add * u2)))).tdiv a)).tdiv f))⟩, ⟨11, [], i6 (w64 (h.tdiv i))⟩, ⟨14, [], i6 (boundsS u0).1⟩, ⟨15, [], i6 (boundsS u0).2⟩] ia := ar.reg; clear ar
    refine sqB ic j [] [] [(16, i6 (w64 ((w64 ((w64 ((w64 (u1 - (w64 (u0.Add * u2)))).tdiv a)).tdiv f)) * (w64 (h.tdiv i)))))] ?_; intro qK id; clear ic
    refine sqB id j [] [] [(167, .bool ((decide ((w64 ((w64 ((w64 ((w64 (u1 - (w64 (u0.Add * u2)))).tdiv a)).tdiv f)) * (w64 (h.tdiv i)))) < (boundsS u0).1)) || (decide ((w64 ((w64 ((w64 ((w64 (u1 - (w64 (u0.Add * u2)))).tdiv a)).tdiv f)) * (w64 (h.tdiv i)))) > (boundsS u0).2))))] ?_; intro qL au; clear id
    refine cd au (t := (decide ((w64 ((w64 ((w64 ((w64 (u1 - (w64 (u0.Add * u2)))).tdiv a)).tdiv f)) * (w64 (h.tdiv i)))) < (boundsS u0).1)) || (decide ((w64 ((w64 ((w64 ((w64 (u1 - (w64 (u0.Add * u2)))).tdiv a)).tdiv f)) * (w64 (h.tdiv i)))) > (boundsS u0).2))) (by kernel_rfl) (fun d9 => ?_) (fun d9 => ?_)
    ·
     have li := db.1 d9; clear db
     refine sqB au j [] [] [(6, i6 0), (7, i6 3)] ?_; intro qM lj; clear au
     refine wp_ret ?_
     refine thr ?_
     refine ra2 lj (.tuple #[i6 0, i6 3]) ?_
     exact ⟨(0, 3), rfl, li, j.below⟩
    have lk := db.2 d9; clear db
    refine wp_skip ?_
    refine thn ?_
    refine sqB au j [] [] [(6, i6 (w64 ((w64 ((w64 ((w64 (u1 - (w64 (u0.Add * u2)))).tdiv a)).tdiv f)) * (w64 (h.tdiv i))))), (7, i6 0)] ?_; intro qN ll; clear au
    refine wp_ret ?_
    refine ra2 ll (.tuple #[i6 (w64 ((w64 ((w64 ((w64 (u1 - (w64 (u0.Add * u2)))).tdiv a)).tdiv f)) * (w64 (h.tdiv i)))), i6 0]) ?_
    exact ⟨(w64 ((w64 ((w64 ((w64 (u1 - (w64 (u0.Add * u2)))).tdiv a)).tdiv f)) * (w64 (h.tdiv i))), 0), rfl, lk, j.below⟩
   have dc := c2.2 aq; clear c2
   have ie := c8.reval (d := 149) (c := []) (v := .bool ((decide ((w64 ((w64 ((w64 (u1 - (w64 (u0.Add * u2)))).tdiv a)).tdiv f)) < 0)) && (decide ((w64 (h.tdiv i)) < 0)))) (by kernel_rfl) (.bool false) (by rw [aq]); clear c8
   refine bt ie j 7 [] [150, 151, 152, 153, 154, 155, 156] [(156, .bool false)] ?_; intro lm ea; clear ie
   refine nlH (k _ _ ?_); clear k l
   refine cdF ea (by kernel_rfl) ?_
   refine wp_skip ?_
   refine thn ?_
   refine wp_seq ?_
   have ig : Fr 171 [] [⟨9, [], i6 (w64 ((w64 ((w64 (u1 - (w64 (u0.Add * u2)))).tdiv a)).tdiv f))⟩, ⟨11, [], i6 (w64 (h.tdiv i))⟩, ⟨14, [], i6 (boundsS u0).1⟩, ⟨15, [], i6 (boundsS u0).2⟩] lm := ea.reg; clear ea
   refine sqB ig j [] [] [(16, i6 (w64 ((w64 ((w64 ((w64 (u1 - (w64 (u0.Add * u2)))).tdiv a)).tdiv f)) * (w64 (h.tdiv i)))))] ?_; intro qO ih; clear ig
   refine sqB ih j [] [] [(167, .bool ((decide ((w64 ((w64 ((w64 ((w64 (u1 - (w64 (u0.Add * u2)))).tdiv a)).tdiv f)) * (w64 (h.tdiv i)))) < (boundsS u0).1)) || (decide ((w64 ((w64 ((w64 ((w64 (u1 - (w64 (u0.Add * u2)))).tdiv a)).tdiv f)) * (w64 (h.tdiv i)))) > (boundsS u0).2))))] ?_; intro qP av; clear ih
   refine cd av (t := (decide ((w64 ((w64 ((w64 ((w64 (u1 - (w64 (u0.Add * u2)))).tdiv a)).tdiv f)) * (w64 (h.tdiv i)))) < (boundsS u0).1)) || (decide ((w64 ((w64 ((w64 ((w64 (u1 - (w64 (u0.Add * u2)))).tdiv a)).tdiv f)) * (w64 (h.tdiv i)))) > (boundsS u0).2))) (by kernel_rfl) (fun eb => ?_) (fun eb => ?_)
   ·
    have ln := dc.1 eb; clear dc
    refine sqB av j [] [] [(6, i6 0), (7, i6 3)] ?_; intro qQ lo; clear av
    refine wp_ret ?_
    refine thr ?_
    refine ra2 lo (.tuple #[i6 0, i6 3]) ?_
    exact ⟨(0, 3), rfl, ln, j.below⟩
   have lp := dc.2 eb; clear dc
   refine wp_skip ?_
   refine thn ?_
   refine sqB av j [] [] [(6, i6 (w64 ((w64 ((w64 ((w64 (u1 - (w64 (u0.Add * u2)))).tdiv a)).tdiv f)) * (w64 (h.tdiv i))))), (7, i6 0)] ?_; intro qR lq; clear av
   refine wp_ret ?_
   refine ra2 lq (.tuple #[i6 (w64 ((w64 ((w64 ((w64 (u1 - (w64 (u0.Add * u2)))).tdiv a)).tdiv f)) * (w64 (h.tdiv i)))), i6 0]) ?_
   exact ⟨(w64 ((w64 ((w64 ((w64 (u1 - (w64 (u0.Add * u2)))).tdiv a)).tdiv f)) * (w64 (h.tdiv i))), 0), rfl, lp, j.below⟩
  have dd := cR.2 ao; clear cR
  have ii := cY.reval (d := 134) (c := []) (v := .bool ((decide ((w64 ((w64 ((w64 (u1 - (w64 (u0.Add * u2)))).tdiv a)).tdiv f)) > 0)) && (decide ((w64 (h.tdiv i)) < 0)))) (by kernel_rfl) (.bool false) (by rw [ao]); clear cY
  refine sk ii (b := false) rfl rfl (by kernel_rfl) (by kernel_rfl) rfl rfl (by kernel_rfl) ?_; intro qS ij; clear ii
  refine sk ij (b := false) rfl rfl (by kernel_rfl) (by kernel_rfl) rfl rfl (by kernel_rfl) ?_; intro qT ik; clear ij
  refine sk ik (b := false) rfl rfl (by kernel_rfl) (by kernel_rfl) rfl rfl (by kernel_rfl) ?_; intro qU il; clear ik
  refine sk il (b := false) rfl rfl (by kernel_rfl) (by kernel_rfl) rfl rfl (by kernel_rfl) ?_; intro qV im; clear il
  refine sk im (b := false) rfl rfl (by kernel_rfl) (by kernel_rfl) rfl rfl (by kernel_rfl) ?_; intro qW de; clear im
  refine st de (.bool false) (by rw [wanted_of de (b := false) rfl rfl (by kernel_rfl) (by kernel_rfl)]; rfl) rfl (by kernel_rfl) (p0 de (by kernel_rfl)) ?_; intro qX io; clear de
  refine s1 io 141 (.bool false) ?_; intro qY ip; clear io
  refine s1 ip 142 (.bool false) ?_; intro qZ df; clear ip
  refine st df (i6 (w64 ((w64 ((w64 (u1 - (w64 (u0.Add * u2)))).tdiv a)).tdiv f))) (by rw [wanted_of df (b := false) rfl rfl (by kernel_rfl) (by kernel_rfl)]; rfl) rfl (by kernel_rfl) (p0 df (by kernel_rfl)) ?_; intro q0 dg; clear df
  refine st dg (.bool (decide ((w64 ((w64 ((w64 (u1 - (w64 (u0.Add * u2)))).tdiv a)).tdiv f)) < 0))) (by rw [wanted_of dg (b := false) rfl rfl (by kernel_rfl) (by kernel_rfl)]; rfl) rfl (by kernel_rfl) (p0 dg (by kernel_rfl)) ?_; intro q2 dh; clear dg
  refine st dh (.bool (decide ((w64 ((w64 ((w64 (u1 - (w64 (u0.Add * u2)))).tdiv a)).tdiv f)) < 0))) (by rw [wanted_of dh (b := false) rfl rfl (by kernel_rfl) (by kernel_rfl)]; rfl) rfl (by kernel_rfl) (p0 dh (by kernel_rfl)) ?_; intro q3 iq; clear dh
  refine gp iq 146 0 [] (decide ((w64 ((w64 ((w64 (u1 - (w64 (u0.Add * u2)))).tdiv a)).tdiv f)) < 0)) (i6 (w64 (h.tdiv i))) rfl rfl ?_; intro q4 ir; clear iq
  refine gp ir 147 0 [] (decide ((w64 ((w64 ((w64 (u1 - (w64 (u0.Add * u2)))).tdiv a)).tdiv f)) < 0)) (.bool (decide ((w64 (h.tdiv i)) < 0))) rfl rfl ?_; intro q5 di; clear ir
  refine st di (.bool ((decide ((w64 ((w64 ((w64 (u1 - (w64 (u0.Add * u2)))).tdiv a)).tdiv f)) < 0)) && (decide ((w64 (h.tdiv i)) < 0)))) (by rw [wanted_of di (b := false) rfl rfl (by kernel_rfl) (by kernel_rfl)]; rfl) rfl (by kernel_rfl) (pk_and di (g := []) (m := 0) (b := decide ((w64 ((w64 ((w64 (u1 - (w64 (u0.Add * u2)))).tdiv a)).tdiv f)) < 0)) (v := decide ((w64 (h.tdiv i)) < 0)) rfl (by kernel_rfl) (by kernel_rfl) (by kernel_rfl) rfl) ?_; intro q6 dj; clear di
  refine st dj (.bool ((decide ((w64 ((w64 ((w64 (u1 - (w64 (u0.Add * u2)))).tdiv a)).tdiv f)) < 0)) && (decide ((w64 (h.tdiv i)) < 0)))) (by rw [wanted_of dj (b := false) rfl rfl (by kernel_rfl) (by kernel_rfl)]; rfl) rfl (by kernel_rfl) (p0 dj (by kernel_rfl)) ?_; intro q7 dk; clear dj
  rcases Bool.eq_false_or_eq_true ((decide ((w64 ((w64 ((w64 (u1 - (w64 (u0.Add * u2)))).tdiv a)).tdiv f)) < 0)) && (decide ((w64 (h.tdiv i)) < 0))) with aw | aw
  ·
   have lr := dd.1 aw; clear dd
   have it := dk.reval (d := 149) (c := []) (v := .bool ((decide ((w64 ((w64 ((w64 (u1 - (w64 (u0.Add * u2)))).tdiv a)).tdiv f)) < 0)) && (decide ((w64 (h.tdiv i)) < 0)))) (by kernel_rfl) (.bool true) (by rw [aw]); clear dk
   refine bt it j 3 [] [150, 151, 152] [(150, i6 (w64 ((w64 ((w64 (u1 - (w64 (u0.Add * u2)))).tdiv a)).tdiv f))), (151, i6 (boundsS u0).2), (152, i6 (w64 (h.tdiv i)))] ?_; intro q8 dl; clear it
   obtain ⟨ls, dm⟩ := lr
   refine st dl (i6 (w64 ((boundsS u0).2.tdiv (w64 (h.tdiv i))))) (by rw [wanted_of dl (b := true) rfl rfl (by kernel_rfl) (by kernel_rfl)]; rfl) rfl (by kernel_rfl) (quo_run dl (g := []) rfl (by kernel_rfl) (by kernel_rfl) ls rfl) ?_; intro q9 iu; clear dl
   refine bt iu j 3 [] [154, 155, 156] [(156, .bool (decide ((w64 ((w64 ((w64 (u1 - (w64 (u0.Add * u2)))).tdiv a)).tdiv f)) < (w64 ((boundsS u0).2.tdiv (w64 (h.tdiv i)))))))] ?_; intro iv ax; clear iu
   refine nlH (k _ _ ?_); clear k l
   refine cd ax (t := decide ((w64 ((w64 ((w64 (u1 - (w64 (u0.Add * u2)))).tdiv a)).tdiv f)) < (w64 ((boundsS u0).2.tdiv (w64 (h.tdiv i)))))) (by kernel_rfl) (fun ec => ?_) (fun ec => ?_)
   ·
    have lt := dm.1 ec; clear dm
    have iw : Fr 171 [] [] iv := ax.reg; clear ax
    refine sqB iw j [] [] [(6, i6 0), (7, i6 3)] ?_; intro ra lu; clear iw
    refine wp_ret ?_
    refine thr ?_
    refine ra2 lu (.tuple #[i6 0, i6 3]) ?_
    exact ⟨(0, 3), rfl, lt, j.below⟩
   have dn := dm.2 ec; clear dm
   refine wp_skip ?_
   refine thn ?_
   refine wp_seq ?_
   have ix : Fr 171 [] [⟨9, [], i6 (w64 ((w64 ((w64 (u1 - (w64 (u0.Add * u2)))).tdiv a)).tdiv f))⟩, ⟨11, [], i6 (w64 (h.tdiv i))⟩, ⟨14, [], i6 (boundsS u0).1⟩, ⟨15, [], i6 (boundsS u0).2⟩] iv := ax.reg; clear ax
   refine sqB ix j [] [] [(16, i6 (w64 ((w64 ((w64 ((w64 (u1 - (w64 (u0.Add * u2)))).tdiv a)).tdiv f)) * (w64 (h.tdiv i)))))] ?_; intro rb iy; clear ix
   refine sqB iy j [] [] [(167, .bool ((decide ((w64 ((w64 ((w64 ((w64 (u1 - (w64 (u0.Add * u2)))).tdiv a)).tdiv f)) * (w64 (h.tdiv i)))) < (boundsS u0).1)) || (decide ((w64 ((w64 ((w64 ((w64 (u1 - (w64 (u0.Add * u2)))).tdiv a)).tdiv f)) * (w64 (h.tdiv i)))) > (boundsS u0).2))))] ?_; intro rc ay; clear iy
   refine cd ay (t := (decide ((w64 ((w64 ((w64 ((w64 (u1 - (w64 (u0.Add * u2)))).tdiv a)).tdiv f)) * (w64 (h.tdiv i)))) < (boundsS u0).1)) || (decide ((w64 ((w64 ((w64 ((w64 (u1 - (w64 (u0.Add * u2)))).tdiv a)).tdiv f)) * (w64 (h.tdiv i)))) > (boundsS u0).2))) (by kernel_rfl) (fun ed => ?_) (fun ed => ?_)
   ·
    have lv := dn.1 ed; clear dn
    refine sqB ay j [] [] [(6, i6 0), (7, i6 3)] ?_; intro re lw; clear ay
    refine wp_ret ?_
    refine thr ?_
    refine ra2 lw (.tuple #[i6 0, i6 3]) ?_
    exact ⟨(0, 3), rfl, lv, j.below⟩
   have lx := dn.2 ed; clear dn
   refine wp_skip ?_
   refine thn ?_
   refine sqB ay j [] [] [(6, i6 (w64 ((w64 ((w64 ((w64 (u1 - (w64 (u0.Add * u2)))).tdiv a)).tdiv f)) * (w64 (h.tdiv i))))), (7, i6 0)] ?_; intro rf ly; clear ay
   refine wp_ret ?_
   refine ra2 ly (.tuple #[i6 (w64 ((w64 ((w64 ((w64 (u1 - (w64 (u0.Add * u2)))).tdiv a)).tdiv f)) * (w64 (h.tdiv i)))), i6 0]) ?_
   exact ⟨(w64 ((w64 ((w64 ((w64 (u1 - (w64 (u0.Add * u2)))).tdiv a)).tdiv f)) * (w64 (h.tdiv i))), 0), rfl, lx, j.below⟩
  have dp := dd.2 aw; clear dd
  have iz := dk.reval (d := 149) (c := []) (v := .bool ((decide ((w64 ((w64 ((w64 (u1 - (w64 (u0.Add * u2)))).tdiv a)).tdiv f)) < 0)) && (decide ((w64 (h.tdiv i)) < 0)))) (by kernel_rfl) (.bool false) (by rw [aw]); clear dk
  refine bt iz j 7 [] [150, 151, 152, 153, 154, 155, 156] [(156, .bool false)] ?_; intro lz ee; clear iz
  refine nlH (k _ _ ?_); clear k l
  refine cdF ee (by kernel_rfl) ?_
  refine wp_skip ?_
  refine thn ?_
  refine wp_seq ?_
  have iA : Fr 171 [] [⟨9, [], i6 (w64 ((w64 ((w64 (u1 - (w64 (u0.Add * u2)))).tdiv a)).tdiv f))⟩, ⟨11, [], i6 (w64 (h.tdiv i))⟩, ⟨14, [], i6 (boundsS u0).1⟩, ⟨15, [], i6 (boundsS u0).2⟩] lz := ee.reg; clear ee
  refine sqB iA j [] [] [(16, i6 (w64 ((w64 ((w64 ((w64 (u1 - (w64 (u0.Add * u2)))).tdiv a)).tdiv f)) * (w64 (h.tdiv i)))))] ?_; intro rg iB; clear iA
  refine sqB iB j [] [] [(167, .bool ((decide ((w64 ((w64 ((w64 ((w64 (u1 - (w64 (u0.Add * u2)))).tdiv a)).tdiv f)) * (w64 (h.tdiv i)))) < (boundsS u0).1)) || (decide ((w64 ((w64 ((w64 ((w64 (u1 - (w64 (u0.Add * u2)))).tdiv a)).tdiv f)) * (w64 (h.tdiv i)))) > (boundsS u0).2))))] ?_; intro rh az; clear iB
  refine cd az (t := (decide ((w64 ((w64 ((w64 ((w64 (u1 - (w64 (u0.Add * u2)))).tdiv a)).tdiv f)) * (w64 (h.tdiv i)))) < (boundsS u0).1)) || (decide ((w64 ((w64 ((w64 ((w64 (u1 - (w64 (u0.Add * u2)))).tdiv a)).tdiv f)) * (w64 (h.tdiv i)))) > (boundsS u0).2))) (by kernel_rfl) (fun ef => ?_) (fun ef => ?_)
  ·
   have lA := dp.1 ef; clear dp
   refine sqB az j [] [] [(6, i6 0), (7, i6 3)] ?_; intro ri lB; clear az
   refine wp_ret ?_
   refine thr ?_
   refine ra2 lB (.tuple #[i6 0, i6 3]) ?_
   exact ⟨(0, 3), rfl, lA, j.below⟩
  have lC := dp.2 ef; clear dp
  refine wp_skip ?_
  refine thn ?_
  refine sqB az j [] [] [(6, i6 (w64 ((w64 ((w64 ((w64 (u1 - (w64 (u0.Add * u2)))).tdiv a)).tdiv f)) * (w64 (h.tdiv i))))), (7, i6 0)] ?_; intro rj lD; clear az
  refine wp_ret ?_
  refine ra2 lD (.tuple #[i6 (w64 ((w64 ((w64 ((w64 (u1 - (w64 (u0.Add * u2)))).tdiv a)).tdiv f)) * (w64 (h.tdiv i)))), i6 0]) ?_
  exact ⟨(w64 ((w64 ((w64 ((w64 (u1 - (w64 (u0.Add * u2)))).tdiv a)).tdiv f)) * (w64 (h.tdiv i))), 0), rfl, lC, j.below⟩
 refine cd A (t := decide ((w64 (u0.Mul.tdiv n)) < 0)) (by kernel_rfl) (fun eg => ?_) (fun eg => ?_)
 ·
  have lE := aB.1 eg; clear aB
  refine rgB A z [] [] [(11, i6 (w64 (0 - (w64 (u0.Div.tdiv n))))), (12, i6 (w64 (0 - (w64 (u0.Mul.tdiv n)))))] ?_; intro rk lF; clear A
  refine rd ?_
  exact eH (w64 (0 - (w64 (u0.Div.tdiv n)))) (w64 (0 - (w64 (u0.Mul.tdiv n)))) lE _ _ ((lF.reg).anyβ _ (by kernel_rfl)) (z.keep (List.Sublist.cons_cons _ (List.Sublist.slnil)))
 have lG := aB.2 eg; clear aB
 refine wp_skip ?_
 refine rd ?_
 exact eH (w64 (u0.Div.tdiv n)) (w64 (u0.Mul.tdiv n)) lG _ _ ((A.reg).anyβ _ (by kernel_rfl)) (z.keep (List.Sublist.cons_cons _ (List.Sublist.slnil)))

end Go.Proofs.YtdndfbamhnchfaaDoor
set_option linter.unusedVariables false
set_option linter.unusedSimpArgs false
set_option maxRecDepth 100000
set_option maxHeartbeats 0
namespace Go.Proofs.YtdndfbamhnchfaaDoor
open Go.Sy Go.RowKit
abbrev e23D (X : Signal) : List Value := [str X.Name, i6 X.Start, i6 X.Size, .bool X.Back, .bool X.Signed, i6 X.Mul, i6 X.Div, i6 X.Add, i6 X.Key]
abbrev e26D (X : Reading) : List Value := [str X.Name, i6 X.Num, i6 X.Den]
theorem iisnan_walk (u0 : Int)  (Z : Fz) (w : World)  (hZ : Z.on w) {K : Bool → Prop} (hp : iisnan_vc u0 K) : Calls Tryd.prog 100 #[i6 u0] w fun e w' => ∃ r : Bool, e = .returned (.bool r) ∧ K r ∧ Below w.heap.size w w' := by
 refine enter0 Tryd.func100 rfl rfl (by kernel_rfl) ?_; intro f b; have a := Mem.start w Z hZ; have g := Fz.le.refl Z
 refine sqB b a [] [] [] ?_; intro h c; clear b
 refine sqB c a [] [] [(2, .bool (u0 != u0))] ?_; intro i d; clear c
 refine wp_ret ?_
 refine ra1 d (.bool (u0 != u0)) ?_
 exact ⟨u0 != u0, rfl, hp, a.below⟩
theorem iisnan_fun (u0 : Int)  (Z : Fz) (w : World)  (hZ : Z.on w) : Calls Tryd.prog 100 #[i6 u0] w fun e w' => e = .returned (.bool (iisnan u0)) ∧ Below w.heap.size w w' :=
  (iisnan_walk u0  Z w  hZ (iisnan_ok u0)).mono fun _ _ ⟨r, he, hk, hb⟩ => ⟨by subst hk; exact he, hb⟩

theorem sraw_fun (u0 : Signal) (u1 : Int) (u2 : Int)  (Z : Fz) (w : World)  (hZ : Z.on w) : Calls Tryd.prog 13 #[.agg #[str u0.Name, i6 u0.Start, i6 u0.Size, .bool u0.Back, .bool u0.Signed, i6 u0.Mul, i6 u0.Div, i6 u0.Add, i6 u0.Key], i6 u1, i6 u2] w fun e w' => e = .returned (.tuple #[i6 (rawS u0 u1 u2).1, i6 (rawS u0 u1 u2).2]) ∧ Below w.heap.size w w' :=
  (sraw_walk u0 u1 u2  Z w  hZ (sraw_ok u0 u1 u2)).mono fun _ _ ⟨r, he, hk, hb⟩ => ⟨by subst hk; exact he, hb⟩

theorem swrite_walk (u0 : Signal) (u1 : List Int) (u2 : Int) (u3 : Int) (ao1 : Option Addr) (cap2 : Nat) (Z : Fz) (w : World) (hs3 : SlR t8 Z ao1 cap2 u1) (hZ : Z.on w) {K : ((List Int) × Int) → Prop} (hp : swrite_vc u0 u1 u2 u3 K) : Calls Tryd.prog 14 #[.agg #[str u0.Name, i6 u0.Start, i6 u0.Size, .bool u0.Back, .bool u0.Signed, i6 u0.Mul, i6 u0.Div, i6 u0.Add, i6 u0.Key], .slice ao1 u1.length cap2, i6 u2, i6 u3] w fun e w' => ∃ (r : (List Int) × Int) (ao1001 : Option Addr) (cap1002 : Nat) (Z' : Fz), e = .returned (.tuple #[.slice ao1001 r.1.length cap1002, i6 r.2]) ∧ K r ∧ Mem w.heap.size [] w Z [.own t8 5 ao1001 cap1002 r.1] Z' w' := by
 refine enter0 Tryd.func14 rfl rfl (by kernel_rfl) ?_; intro a0 q; have s := Mem.start w Z hZ; have k := Fz.le.refl Z
 have l := hp (hs3.small); clear hp
 refine sqH ?_; intro W u
 refine nw q s pb (e23D u0) 23 ?_; intro f a7 ax v g; clear q s
 refine bt v g 2 [] [] [] ?_; intro ay x; clear v
 refine nlH (u _ _ ?_); clear u W
 refine wp_seq ?_
 refine sqH ?_; intro X y
 refine bt x g 3 [0] [] [(14, .agg (e23D u0).toArray), (16, i6 (u1.length : Int))] ?_; intro az z; clear x
 refine fc z g (scheck_fun u0 (u1.length : Int) _ _ g.fz) ?_; intro aA Y A c; clear z g
 refine s1 A 10 (i6 (checkS u0 (u1.length : Int))) ?_; intro aB B; clear A
 refine nlH (y _ _ ?_); clear y X
 refine sqB B c [] [] [(19, .bool ((checkS u0 (u1.length : Int)) != 0))] ?_; intro aC h; clear B
 refine cd h (t := (checkS u0 (u1.length : Int)) != 0) (by kernel_rfl) (fun n => ?_) (fun n => ?_)
 · -- yes
  have aa := l.1 n; clear l
  refine sqB h c [] [] [(8, .slice none 0 0), (9, i6 (checkS u0 (u1.length : Int)))] ?_; intro aD ab; clear h
  refine wp_ret ?_
  refine thr ?_
  have ac : Mem w.heap.size [] w Z [.own t8 5 none 0 ([] : List Int), .row f (e23D u0) 23] Z Y := c.addNil t8 5 (by decide); clear c
  refine ra2 ab (.tuple #[.slice none ([] : List Int).length 0, i6 (checkS u0 (u1.length : Int))]) ?_
  exact ⟨(([] : List Int), (checkS u0 (u1.length : Int))), none, 0, Z, rfl, aa, ac.keep (List.Sublist.cons_cons _ (List.Sublist.cons _ (List.Sublist.slnil)))⟩
 · -- no
  have m := l.2 n; clear l
  refine wp_skip ?_
  refine thn ?_
  refine sqH ?_; intro ad C
  refine bt h c 3 [0] [] [(22, .agg (e23D u0).toArray), (23, i6 u2), (24, i6 u3)] ?_; intro aE D; clear h
  refine fc D c (sraw_fun u0 u2 u3 _ _ c.fz) ?_; intro aF ae E d; clear D c
  refine bt E d 5 [] [] [(11, i6 (rawS u0 u2 u3).1), (12, i6 (rawS u0 u2 u3).2)] ?_; intro aG F; clear E
  refine nlH (C _ _ ?_); clear C ad
  refine wp_seq ?_
  refine sqB F d [] [] [(29, .bool ((rawS u0 u2 u3).2 != 0))] ?_; intro aH i; clear F
  refine cd i (t := (rawS u0 u2 u3).2 != 0) (by kernel_rfl) (fun o => ?_) (fun o => ?_)
  · -- yes
   have af := m.1 o; clear m
   refine sqB i d [] [] [(8, .slice none 0 0), (9, i6 (rawS u0 u2 u3).2)] ?_; intro aI ag; clear i
   refine wp_ret ?_
   refine thr ?_
   have ah : Mem w.heap.size [] w Z [.own t8 5 none 0 ([] : List Int), .row f (e23D u0) 23] Z ae := d.addNil t8 5 (by decide); clear d
   refine ra2 ag (.tuple #[.slice none ([] : List Int).length 0, i6 (rawS u0 u2 u3).2]) ?_
   exact ⟨(([] : List Int), (rawS u0 u2 u3).2), none, 0, Z, rfl, af, ah.keep (List.Sublist.cons_cons _ (List.Sublist.cons _ (List.Sublist.slnil)))⟩
  · -- no
   have ai := m.2 o; clear m
   refine wp_skip ?_
   refine thn ?_
   refine sqH ?_; intro aj G
   refine s1 i 31 (.slice ao1 u1.length cap2) ?_; intro aJ H; clear i
   obtain ⟨ak, I⟩ := ai
   refine ck H 12 #[.slice ao1 u1.length cap2] ?_
   refine (bclone_fun u1 ak ao1 cap2 _ _ hs3 d.fz).mono ?_; rintro _ al ⟨a, b, am, rfl, hm⟩; refine ⟨_, rfl, ?_⟩; intro aK J; have L := d.callZ hm; have M := hm.ext.le; clear hm d H
   replace hs3 := hs3.mono M
   replace k := Fz.le.trans k M
   have j : Mem w.heap.size [] w Z [.own t8 5 a b (bcloneS u1), .row f (e23D u0) 23] am al := L; clear L
   have an := I (j.ownSmall 0 rfl); clear I
   refine s1 J 13 (.slice a (bcloneS u1).length b) ?_; intro aL N; clear J
   refine nlH (G _ _ ?_); clear G aj
   refine sqH ?_; intro ao O
   refine bt N j 3 [1] [] [(33, .agg (e23D u0).toArray), (34, .slice a (bcloneS u1).length b), (35, i6 (rawS u0 u2 u3).1)] ?_; intro aM P; clear N
   obtain ⟨ap, Q⟩ := an
   refine ck P 47 #[.agg (e23D u0).toArray, .slice a (bcloneS u1).length b, i6 (rawS u0 u2 u3).1] ?_
   refine (sputd_fun u0 (bcloneS u1) (rawS u0 u2 u3).1 ap a b _ _ _ _ _ _ j j.fz).mono ?_; rintro _ aq ⟨R, rfl, S, ar, hm⟩; refine ⟨_, rfl, ?_⟩; intro au T; have U := hm; clear hm j P
   replace hs3 := hs3.mono S
   replace k := Fz.le.trans k S
   have V : Fr 38 [] [⟨0, [], .agg (e23D u0).toArray⟩, ⟨1, [], .slice ao1 u1.length cap2⟩, ⟨2, [], i6 u2⟩, ⟨3, [], i6 u3⟩, ⟨4, [], pt f 0⟩, ⟨10, [], i6 (checkS u0 (u1.length : Int))⟩, ⟨11, [], i6 (rawS u0 u2 u3).1⟩, ⟨12, [], i6 (rawS u0 u2 u3).2⟩, ⟨13, [], .slice a (putS u0 (bcloneS u1) (rawS u0 u2 u3).1).length b⟩, ⟨14, [], .agg (e23D u0).toArray⟩, ⟨16, [], i6 (u1.length : Int)⟩, ⟨17, [], i6 (checkS u0 (u1.length : Int))⟩, ⟨19, [], .bool ((checkS u0 (u1.length : Int)) != 0)⟩, ⟨22, [], .agg (e23D u0).toArray⟩, ⟨23, [], i6 u2⟩, ⟨24, [], i6 u3⟩, ⟨25, [], .tuple #[i6 (rawS u0 u2 u3).1, i6 (rawS u0 u2 u3).2]⟩, ⟨29, [], .bool ((rawS u0 u2 u3).2 != 0)⟩, ⟨31, [], .slice ao1 u1.length cap2⟩, ⟨32, [], .slice a (putS u0 (bcloneS u1) (rawS u0 u2 u3).1).length b⟩, ⟨33, [], .agg (e23D u0).toArray⟩, ⟨34, [], .slice a (putS u0 (bcloneS u1) (rawS u0 u2 u3).1).length b⟩, ⟨35, [], i6 (rawS u0 u2 u3).1⟩, ⟨36, [], .tuple #[]⟩] au := by rw [ar]; exact T.region (by kernel_rfl) (by kernel_rfl)
   clear T
   have p : Mem w.heap.size [] w Z [.own t8 5 a b (putS u0 (bcloneS u1) (rawS u0 u2 u3).1), .row f (e23D u0) 23] R aq := U; clear U
   have av := Q (p.ownSmall 0 rfl); clear Q
   refine nlH (O _ _ ?_); clear O ao
   refine sqB V p [] [] [(8, .slice a (putS u0 (bcloneS u1) (rawS u0 u2 u3).1).length b), (9, i6 0)] ?_; intro aN aw; clear V
   refine wp_ret ?_
   refine ra2 aw (.tuple #[.slice a (putS u0 (bcloneS u1) (rawS u0 u2 u3).1).length b, i6 0]) ?_
   exact ⟨((putS u0 (bcloneS u1) (rawS u0 u2 u3).1), 0), a, b, R, rfl, av, p.keep (List.Sublist.cons_cons _ (List.Sublist.cons _ (List.Sublist.slnil)))⟩

theorem sread_walk (u0 : Signal) (u1 : List Int) (ao1 : Option Addr) (cap2 : Nat) (Z : Fz) (w : World) (hs3 : SlR t8 Z ao1 cap2 u1) (hZ : Z.on w) {K : (Int × Reading × Int) → Prop} (hp : sread_vc u0 u1 K) : Calls Tryd.prog 7 #[.agg #[str u0.Name, i6 u0.Start, i6 u0.Size, .bool u0.Back, .bool u0.Signed, i6 u0.Mul, i6 u0.Div, i6 u0.Add, i6 u0.Key], .slice ao1 u1.length cap2] w fun e w' => ∃ r : Int × Reading × Int, e = .returned (.tuple #[i6 r.1, .agg #[str r.2.1.Name, i6 r.2.1.Num, i6 r.2.1.Den], i6 r.2.2]) ∧ K r ∧ Below w.heap.size w w' := by
 refine enter0 Tryd.func7 rfl rfl (by kernel_rfl) ?_; intro a0 m; have n := Mem.start w Z hZ; have ai := Fz.le.refl Z
 have f := hp (hs3.small); clear hp
 refine sqH ?_; intro T o
 refine nw m n pb (e23D u0) 23 ?_; intro p a7 aj q s; clear m n
 refine s1 q 4 (i6 0) ?_; intro ak u; clear q
 refine nw u s pb [str [], i6 0, i6 0] 26 ?_; intro c al am x g; clear u s
 refine s1 x 6 (i6 0) ?_; intro an y; clear x
 refine nlH (o _ _ ?_); clear o T
 refine wp_seq ?_
 refine sqH ?_; intro U z
 refine bt y g 3 [1] [] [(9, .agg (e23D u0).toArray), (11, i6 (u1.length : Int))] ?_; intro ao A; clear y
 refine fc A g (scheck_fun u0 (u1.length : Int) _ _ g.fz) ?_; intro ap aq B a; clear A g
 refine s1 B 7 (i6 (checkS u0 (u1.length : Int))) ?_; intro ar C; clear B
 refine nlH (z _ _ ?_); clear z U
 refine sqB C a [] [] [(14, .bool ((checkS u0 (u1.length : Int)) != 0))] ?_; intro au d; clear C
 refine cd d (t := (checkS u0 (u1.length : Int)) != 0) (by kernel_rfl) (fun i => ?_) (fun i => ?_)
 · -- yes
  have V := f.1 i; clear f
  refine sqH ?_; intro W D
  refine bt d a 3 [] [] [(4, i6 0), (15, .agg #[str [], i6 0, i6 0]), (16, i6 (checkS u0 (u1.length : Int)))] ?_; intro av j; clear d
  refine sx j a 0 [str [], i6 0, i6 0] 0 ?_; intro X E; clear a
  refine s1 j 6 (i6 (checkS u0 (u1.length : Int))) ?_; intro aw F; clear j
  have G : Mem w.heap.size [] w Z [.row c [str [], i6 0, i6 0] 26, .row p (e23D u0) 23] Z X := E; clear E
  refine nlH (D _ _ ?_); clear D W
  refine wp_ret ?_
  refine thr ?_
  refine rt (fn := Tryd.f7) (v := .tuple #[i6 0, .agg #[str [], i6 0, i6 0], i6 (checkS u0 (u1.length : Int))]) F (re3m F (fn := Tryd.f7) rfl (ad := ⟨c, 0, none⟩) (by kernel_rfl) (loadVar_run G 0 (b := c) (k := 3) (vs := [str [], i6 0, i6 0]) (ty := 26) rfl (by kernel_rfl) (by kernel_rfl)) (by kernel_rfl) (by kernel_rfl)) ?_
  exact ⟨(0, (⟨[], 0, 0⟩ : Reading), (checkS u0 (u1.length : Int))), rfl, V, G.below⟩
 · -- no
  have Y := f.2 i; clear f
  refine wp_skip ?_
  refine thn ?_
  refine sqH ?_; intro aa H
  refine bt d a 2 [1] [] [(17, .agg (e23D u0).toArray), (18, .slice ao1 u1.length cap2)] ?_; intro ax I; clear d
  obtain ⟨ab, ac⟩ := Y
  refine fc I a (sget_fun u0 u1 ab ao1 cap2 _ _ hs3 a.fz) ?_; intro ay az J h; clear I a
  refine s1 J 8 (i6 (getS u0 u1)) ?_; intro aA L; clear J
  refine nlH (H _ _ ?_); clear H aa
  refine sqH ?_; intro ae M
  refine bt L h 3 [1] [] [(20, i6 (getS u0 u1)), (21, .agg (e23D u0).toArray), (22, i6 (getS u0 u1))] ?_; intro aB N; clear L
  obtain ⟨af, ag⟩ := ac
  refine fc N h (smean_fun u0 (getS u0 u1) af _ _ h.fz) ?_; intro aC aD O P; clear N h
  refine s1 O 4 (i6 (getS u0 u1)) ?_; intro aE l; clear O
  refine sx l P 0 (e26D (meanS u0 (getS u0 u1))) 0 ?_; intro ah Q; clear P
  refine s1 l 6 (i6 0) ?_; intro aF R; clear l
  have S : Mem w.heap.size [] w Z [.row c (e26D (meanS u0 (getS u0 u1))) 26, .row p (e23D u0) 23] Z ah := Q; clear Q
  refine nlH (M _ _ ?_); clear M ae
  refine wp_ret ?_
  refine rt (fn := Tryd.f7) (v := .tuple #[i6 (getS u0 u1), .agg (e26D (meanS u0 (getS u0 u1))).toArray, i6 0]) R (re3m R (fn := Tryd.f7) rfl (ad := ⟨c, 0, none⟩) (by kernel_rfl) (loadVar_run S 0 (b := c) (k := 3) (vs := (e26D (meanS u0 (getS u0 u1)))) (ty := 26) rfl (by kernel_rfl) (by kernel_rfl)) (by kernel_rfl) (by kernel_rfl)) ?_
  exact ⟨((getS u0 u1), (meanS u0 (getS u0 u1)), 0), rfl, ag, S.below⟩

end Go.Proofs.YtdndfbamhnchfaaDoor
