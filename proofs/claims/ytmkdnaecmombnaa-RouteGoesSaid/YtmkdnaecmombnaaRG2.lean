/- Texts put together (pure ones, or walks made by program). -/
import Derived.Test.YtmkdnaecmombnaaRG0
import Derived.Test.YtmkdnaecmombnaaRG1
import Derived.Test.YtmkdnaecmombnaaRows
set_option linter.unusedVariables false
set_option linter.unusedSimpArgs false
set_option linter.defProp false
set_option maxRecDepth 100000
set_option maxHeartbeats 0
namespace Go.Proofs.Ytmkdnaecmombnaa
open Go.Sy Go.RowKit
abbrev e29A (X : Route) : List Value := [i6 X.From, i6 X.To, i6 X.F.Want, i6 X.F.Mask, .bool X.F.Long, i6 X.Add, i6 X.Every]
abbrev e27A (X : Filter) : List Value := [i6 X.Want, i6 X.Mask, .bool X.Long]
abbrev e75A (X : Key) : List Value := [i6 X.bus, i6 X.id, .bool X.long]
theorem mixed : Try.prog.follows .mixedOrders = true := by kernel_rfl
theorem rdFilter : Rd Try.prog 27 tyFilter okFilter := by
  refine ⟨fun enc w fuel cs x h hw => ?_⟩
  have hu : Try.prog.underlying 27 = some (.struct _) := Try.underlying27
  have hl := rd_len hu h (m := 3) (by kernel_rfl)
  obtain ⟨c, e, f⟩ := rd_field hu h hw 0 rfl (rd_int (P := Try.prog) (t := 3) (k := .i64) (by kernel_rfl)) (m := 1) (by kernel_rfl) (off := 0) rfl
  have g : (cs.drop 0).take 1 = [i6 c] := e
  obtain ⟨b, i, j⟩ := rd_field hu h hw 1 rfl (rd_int (P := Try.prog) (t := 3) (k := .i64) (by kernel_rfl)) (m := 1) (by kernel_rfl) (off := 1) rfl
  have l : (cs.drop 1).take 1 = [i6 b] := i
  obtain ⟨a, n, o⟩ := rd_field hu h hw 2 rfl (rd_bool (P := Try.prog) (t := 4) (by kernel_rfl)) (m := 1) (by kernel_rfl) (off := 2) rfl
  have p : (cs.drop 2).take 1 = [.bool a] := n
  have z : cs.drop 3 = [] := List.drop_eq_nil_of_le (by omega)
  have q : cs.drop 2 = [.bool a] := by rw [show cs.drop 2 = (cs.drop 2).take 1 ++ cs.drop 3 from cut_at cs 2 1, p, z]; rfl
  have r : cs.drop 1 = [i6 b, .bool a] := by rw [show cs.drop 1 = (cs.drop 1).take 1 ++ cs.drop 2 from cut_at cs 1 1, l, q]; rfl
  have d : cs.drop 0 = [i6 c, i6 b, .bool a] := by rw [show cs.drop 0 = (cs.drop 0).take 1 ++ cs.drop 1 from cut_at cs 0 1, g, r]; rfl
  refine ⟨⟨c, b, a⟩, ?_, f, j, o⟩
  rw [List.drop_zero] at d
  exact d

theorem rdFrame : Rd Try.prog 25 tyFrame okFrame := by
  refine ⟨fun enc w fuel cs x h hw => ?_⟩
  have hu : Try.prog.underlying 25 = some (.struct _) := Try.underlying25
  have hl := rd_len hu h (m := 6) (by kernel_rfl)
  obtain ⟨j, o, p⟩ := rd_field hu h hw 0 rfl (rd_int (P := Try.prog) (t := 3) (k := .i64) (by kernel_rfl)) (m := 1) (by kernel_rfl) (off := 0) rfl
  have q : (cs.drop 0).take 1 = [i6 j] := o
  obtain ⟨i, r, s⟩ := rd_field hu h hw 1 rfl (rd_bool (P := Try.prog) (t := 4) (by kernel_rfl)) (m := 1) (by kernel_rfl) (off := 1) rfl
  have u : (cs.drop 1).take 1 = [.bool i] := r
  obtain ⟨g, v, y⟩ := rd_field hu h hw 2 rfl (rd_bool (P := Try.prog) (t := 4) (by kernel_rfl)) (m := 1) (by kernel_rfl) (off := 2) rfl
  have A : (cs.drop 2).take 1 = [.bool g] := v
  obtain ⟨f, B, C⟩ := rd_field hu h hw 3 rfl (rd_bool (P := Try.prog) (t := 4) (by kernel_rfl)) (m := 1) (by kernel_rfl) (off := 3) rfl
  have D : (cs.drop 3).take 1 = [.bool f] := B
  obtain ⟨d, E, F⟩ := rd_field hu h hw 4 rfl (rd_int (P := Try.prog) (t := 3) (k := .i64) (by kernel_rfl)) (m := 1) (by kernel_rfl) (off := 4) rfl
  have G : (cs.drop 4).take 1 = [i6 d] := E
  obtain ⟨a, l, H⟩ := rd_field hu h hw 5 rfl (rd_slice (P := Try.prog) (t := 23) (e := 5) (bytes := 1) (by kernel_rfl) (rd_int (P := Try.prog) (t := 5) (k := .u8) (by kernel_rfl))) (m := 1) (by kernel_rfl) (off := 5) rfl
  obtain ⟨b, c, l, I⟩ := l
  have J : (cs.drop 5).take 1 = [.slice b a.length c] := l
  have z : cs.drop 6 = [] := List.drop_eq_nil_of_le (by omega)
  have K : cs.drop 5 = [.slice b a.length c] := by rw [show cs.drop 5 = (cs.drop 5).take 1 ++ cs.drop 6 from cut_at cs 5 1, J, z]; rfl
  have L : cs.drop 4 = [i6 d, .slice b a.length c] := by rw [show cs.drop 4 = (cs.drop 4).take 1 ++ cs.drop 5 from cut_at cs 4 1, G, K]; rfl
  have M : cs.drop 3 = [.bool f, i6 d, .slice b a.length c] := by rw [show cs.drop 3 = (cs.drop 3).take 1 ++ cs.drop 4 from cut_at cs 3 1, D, L]; rfl
  have N : cs.drop 2 = [.bool g, .bool f, i6 d, .slice b a.length c] := by rw [show cs.drop 2 = (cs.drop 2).take 1 ++ cs.drop 3 from cut_at cs 2 1, A, M]; rfl
  have O : cs.drop 1 = [.bool i, .bool g, .bool f, i6 d, .slice b a.length c] := by rw [show cs.drop 1 = (cs.drop 1).take 1 ++ cs.drop 2 from cut_at cs 1 1, u, N]; rfl
  have n : cs.drop 0 = [i6 j, .bool i, .bool g, .bool f, i6 d, .slice b a.length c] := by rw [show cs.drop 0 = (cs.drop 0).take 1 ++ cs.drop 1 from cut_at cs 0 1, q, O]; rfl
  refine ⟨⟨j, i, g, f, d, a⟩, ?_, p, s, y, C, F, H⟩
  rw [List.drop_zero] at n
  exact ⟨b, c, n, I⟩

theorem rdRoute : Rd Try.prog 29 tyRoute okRoute := by
  refine ⟨fun enc w fuel cs x h hw => ?_⟩
  have hu : Try.prog.underlying 29 = some (.struct _) := Try.underlying29
  have hl := rd_len hu h (m := 7) (by kernel_rfl)
  obtain ⟨e, g, i⟩ := rd_field hu h hw 0 rfl (rd_int (P := Try.prog) (t := 3) (k := .i64) (by kernel_rfl)) (m := 1) (by kernel_rfl) (off := 0) rfl
  have j : (cs.drop 0).take 1 = [i6 e] := g
  obtain ⟨d, l, n⟩ := rd_field hu h hw 1 rfl (rd_int (P := Try.prog) (t := 3) (k := .i64) (by kernel_rfl)) (m := 1) (by kernel_rfl) (off := 1) rfl
  have o : (cs.drop 1).take 1 = [i6 d] := l
  obtain ⟨a, p, q⟩ := rd_field hu h hw 2 rfl rdFilter (m := 3) (by kernel_rfl) (off := 2) rfl
  have r : (cs.drop 2).take 3 = [i6 a.Want, i6 a.Mask, .bool a.Long] := p
  obtain ⟨c, s, u⟩ := rd_field hu h hw 3 rfl (rd_int (P := Try.prog) (t := 3) (k := .i64) (by kernel_rfl)) (m := 1) (by kernel_rfl) (off := 5) rfl
  have v : (cs.drop 5).take 1 = [i6 c] := s
  obtain ⟨b, y, A⟩ := rd_field hu h hw 4 rfl (rd_int (P := Try.prog) (t := 3) (k := .i64) (by kernel_rfl)) (m := 1) (by kernel_rfl) (off := 6) rfl
  have B : (cs.drop 6).take 1 = [i6 b] := y
  have z : cs.drop 7 = [] := List.drop_eq_nil_of_le (by omega)
  have C : cs.drop 6 = [i6 b] := by rw [show cs.drop 6 = (cs.drop 6).take 1 ++ cs.drop 7 from cut_at cs 6 1, B, z]; rfl
  have D : cs.drop 5 = [i6 c, i6 b] := by rw [show cs.drop 5 = (cs.drop 5).take 1 ++ cs.drop 6 from cut_at cs 5 1, v, C]; rfl
  have E : cs.drop 2 = [i6 a.Want, i6 a.Mask, .bool a.Long, i6 c, i6 b] := by rw [show cs.drop 2 = (cs.drop 2).take 3 ++ cs.drop 5 from cut_at cs 2 3, r, D]; rfl
  have F : cs.drop 1 = [i6 d, i6 a.Want, i6 a.Mask, .bool a.Long, i6 c, i6 b] := by rw [show cs.drop 1 = (cs.drop 1).take 1 ++ cs.drop 2 from cut_at cs 1 1, o, E]; rfl
  have f : cs.drop 0 = [i6 e, i6 d, i6 a.Want, i6 a.Mask, .bool a.Long, i6 c, i6 b] := by rw [show cs.drop 0 = (cs.drop 0).take 1 ++ cs.drop 1 from cut_at cs 0 1, j, F]; rfl
  refine ⟨⟨e, d, a, c, b⟩, ?_, i, n, q, u, A⟩
  rw [List.drop_zero] at f
  exact f

theorem rdGate : Rd Try.prog 37 tyGate okGate := by
  refine ⟨fun enc w fuel cs x h hw => ?_⟩
  have hu : Try.prog.underlying 37 = some (.struct _) := Try.underlying37
  have hl := rd_len hu h (m := 2) (by kernel_rfl)
  obtain ⟨d, f, n⟩ := rd_field hu h hw 0 rfl (rd_slice (P := Try.prog) (t := 22) (e := 29) (bytes := 56) (by kernel_rfl) rdRoute) (m := 1) (by kernel_rfl) (off := 0) rfl
  obtain ⟨g, i, f, o⟩ := f
  have p : (cs.drop 0).take 1 = [.slice g d.length i] := f
  obtain ⟨a, j, q⟩ := rd_field hu h hw 1 rfl (rd_slice (P := Try.prog) (t := 35) (e := 3) (bytes := 8) (by kernel_rfl) (rd_int (P := Try.prog) (t := 3) (k := .i64) (by kernel_rfl))) (m := 1) (by kernel_rfl) (off := 1) rfl
  obtain ⟨b, c, j, r⟩ := j
  have s : (cs.drop 1).take 1 = [.slice b a.length c] := j
  have z : cs.drop 2 = [] := List.drop_eq_nil_of_le (by omega)
  have u : cs.drop 1 = [.slice b a.length c] := by rw [show cs.drop 1 = (cs.drop 1).take 1 ++ cs.drop 2 from cut_at cs 1 1, s, z]; rfl
  have l : cs.drop 0 = [.slice g d.length i, .slice b a.length c] := by rw [show cs.drop 0 = (cs.drop 0).take 1 ++ cs.drop 1 from cut_at cs 0 1, p, u]; rfl
  refine ⟨⟨d, a⟩, ?_, n, q⟩
  rw [List.drop_zero] at l
  exact ⟨g, i, b, c, l, o, r⟩

theorem rdLine : Rd Try.prog 42 tyLine okLine := by
  refine ⟨fun enc w fuel cs x h hw => ?_⟩
  have hu : Try.prog.underlying 42 = some (.struct _) := Try.underlying42
  have hl := rd_len hu h (m := 8) (by kernel_rfl)
  obtain ⟨e, i, j⟩ := rd_field hu h hw 0 rfl (rd_int (P := Try.prog) (t := 3) (k := .i64) (by kernel_rfl)) (m := 1) (by kernel_rfl) (off := 0) rfl
  have l : (cs.drop 0).take 1 = [i6 e] := i
  obtain ⟨d, n, o⟩ := rd_field hu h hw 1 rfl (rd_int (P := Try.prog) (t := 3) (k := .i64) (by kernel_rfl)) (m := 1) (by kernel_rfl) (off := 1) rfl
  have p : (cs.drop 1).take 1 = [i6 d] := n
  obtain ⟨a, f, q⟩ := rd_field hu h hw 2 rfl rdFrame (m := 6) (by kernel_rfl) (off := 2) rfl
  obtain ⟨b, c, f, r⟩ := f
  have s : (cs.drop 2).take 6 = [i6 a.ID, .bool a.Long, .bool a.Fast, .bool a.Remote, i6 a.Size, .slice b a.Data.length c] := f
  have z : cs.drop 8 = [] := List.drop_eq_nil_of_le (by omega)
  have u : cs.drop 2 = [i6 a.ID, .bool a.Long, .bool a.Fast, .bool a.Remote, i6 a.Size, .slice b a.Data.length c] := by rw [show cs.drop 2 = (cs.drop 2).take 6 ++ cs.drop 8 from cut_at cs 2 6, s, z]; rfl
  have v : cs.drop 1 = [i6 d, i6 a.ID, .bool a.Long, .bool a.Fast, .bool a.Remote, i6 a.Size, .slice b a.Data.length c] := by rw [show cs.drop 1 = (cs.drop 1).take 1 ++ cs.drop 2 from cut_at cs 1 1, p, u]; rfl
  have g : cs.drop 0 = [i6 e, i6 d, i6 a.ID, .bool a.Long, .bool a.Fast, .bool a.Remote, i6 a.Size, .slice b a.Data.length c] := by rw [show cs.drop 0 = (cs.drop 0).take 1 ++ cs.drop 1 from cut_at cs 0 1, l, v]; rfl
  refine ⟨⟨e, d, a⟩, ?_, j, o, q⟩
  rw [List.drop_zero] at g
  exact ⟨b, c, g, r⟩

theorem sindex_walk (u0 : List Int) (u1 : Int) (ao1 : Option Addr) (cap2 : Nat) (Z : Fz) (w : World) (hs3 : SlR t6 Z ao1 cap2 u0) (hZ : Z.on w) {K : Int → Prop} (hp : sindex_vc u0 u1 K) : Calls Try.prog 59 #[.slice ao1 u0.length cap2, i6 u1] w fun e w' => ∃ r : Int, e = .returned (i6 r) ∧ K r ∧ Below w.heap.size w w' := by
 refine enter0 Try.func59 rfl rfl (by kernel_rfl) ?_; intro a0 m; have g := Mem.start w Z hZ
 have G := hp (hs3.small)
 refine sqB m g [] [] [] ?_; intro a6 n
 refine s_ (sqB n g [] [] [(7, i6 (u0.length : Int)), (8, i6 0)] ?_); intro o p
 apply b_
 have q : Fr 19 [] [⟨0, [], .slice ao1 u0.length cap2⟩, ⟨1, [], i6 u1⟩, ⟨7, [], i6 (u0.length : Int)⟩, ⟨8, [], i6 0⟩] o := p.reg
 obtain ⟨H, I, J, L⟩ := G
 refine lp (ι := Int) (fun s => [⟨0, [], .slice ao1 u0.length cap2⟩, ⟨1, [], i6 u1⟩, ⟨7, [], i6 (u0.length : Int)⟩, ⟨8, [], i6 s⟩]) (fun s => []) (fun s => Z) (fun s => H s) (fun s => I s) 0 J (by exact q.reg) (by exact g) ?_
 rintro a M N O v x
 have h := L a M
 refine sqB v x [] [] [(9, .bool (decide (a < (u0.length : Int))))] ?_; intro ae c
 refine s_ (c_ c h (fun _ P => ?_) fun _ ab => ?_)
 ·
  refine k_ (s_ (b_ (sqB c x [] [] [(5, i6 a)] ?_))); intro af z
  refine sqH ?_; intro Q A
  refine bt z x 3 [] [] [(11, i6 u1), (12, .slice ao1 u0.length cap2), (13, i6 a)] ?_; intro ag B
  obtain ⟨R, C⟩ := P
  refine ix_ B hs3 a R .i64 3 8 ?_; intro ah ai S d aj U V W D
  have i := C d U
  obtain rfl : S = ([i6 d] : List Value) := W
  refine z1 D x 15 V 0 (i6 d) rfl ?_; intro ak E
  refine s1 E 16 (.bool (u1 == d)) ?_; intro al f
  apply A
  refine c_ f i (fun _ X => ?_) fun _ F => ?_
  ·
   refine sqB f x [] [] [(4, i6 a)] ?_; intro am Y
   exact r_ (i_ (h_ (h_ (i_ (h_ (ra1 Y (i6 a) ⟨a, rfl, X, x.below⟩))))))
  refine l_ (j_ (t_ (rgB f x [] [] [(8, i6 (w64 (a + 1)))] ?_))); intro an aa
  exact d_ ⟨w64 (a + 1), F.1, F.2, (aa.reg).anyβ _ (by kernel_rfl), x.kp⟩
 refine x_ (y_ (y_ (z_ (t_ (sqB c x [] [] [(4, i6 (-1))] ?_))))); intro ao ac
 exact r_ (ra1 ac (i6 (-1)) ⟨-1, rfl, ab, x.below⟩)

theorem scontains_walk (u0 : List Int) (u1 : Int) (ao1 : Option Addr) (cap2 : Nat) (Z : Fz) (w : World) (hs3 : SlR t6 Z ao1 cap2 u0) (hZ : Z.on w) {K : Bool → Prop} (hp : scontains_vc u0 u1 K) : Calls Try.prog 40 #[.slice ao1 u0.length cap2, i6 u1] w fun e w' => ∃ r : Bool, e = .returned (.bool r) ∧ K r ∧ Below w.heap.size w w' := by
 refine enter0 Try.func40 rfl rfl (by kernel_rfl) ?_; intro n c; have a := Mem.start w Z hZ
 have j := hp (hs3.small)
 refine sqB c a [] [] [] ?_; intro p d
 refine sqH ?_; intro k f
 refine bt d a 2 [] [] [(5, .slice ao1 u0.length cap2), (6, i6 u1)] ?_; intro q g
 refine ck g 59 #[.slice ao1 u0.length cap2, i6 u1] ?_
 refine (sindex_walk u0 u1 ao1 cap2 _ _ hs3 a.fz j).mono ?_; rintro _ s ⟨b, rfl, l, hb⟩; refine ⟨_, rfl, ?_⟩; intro t h; have i := a.call hb
 refine bt h i 2 [] [] [(4, .bool (decide (b ≥ 0)))] ?_; intro u m
 apply f
 exact r_ (ra1 m (.bool (decide (b ≥ 0))) ⟨decide (b ≥ 0), rfl, l, i.below⟩)

theorem fsizes_walk   (Z : Fz) (w : World)  (hZ : Z.on w) {K : (List Int) → Prop} (hp : fsizes_vc  K) : Calls Try.prog 50 #[] w fun e w' => ∃ (r : (List Int)) (ao1001 : Option Addr) (cap1002 : Nat) (Z' : Fz), e = .returned (.slice ao1001 r.length cap1002) ∧ K r ∧ Mem w.heap.size [] w Z [.own t6 3 ao1001 cap1002 r] Z' w' := by
 refine enter0 Try.func50 rfl rfl (by kernel_rfl) ?_; intro n d; have c := Mem.start w Z hZ
 refine sqB d c [] [] [] ?_; intro p f
 refine sqH ?_; intro j g
 refine nw f c (fun b => .slice (sm b) 16 16) [i6 0, i6 1, i6 2, i6 3, i6 4, i6 5, i6 6, i6 7, i6 8, i6 12, i6 16, i6 20, i6 24, i6 32, i6 48, i6 64] 3 ?_; intro a q k h i
 refine s1 h 0 (.slice (sm a) 16 16) ?_; intro s l
 apply g
 apply r_
 have m : Mem w.heap.size [] w Z [.own t6 3 (sm a) 16 ([0, 1, 2, 3, 4, 5, 6, 7, 8, 12, 16, 20, 24, 32, 48, 64] : List Int)] Z k := i.rowOwn (T := t6) (xs := ([0, 1, 2, 3, 4, 5, 6, 7, 8, 12, 16, 20, 24, 32, 48, 64] : List Int)) 0 rfl (by decide) (by show 16 ≤ lim; decide) ((RepAll.one (T := t6) (x := 0) rfl).append ((RepAll.one (T := t6) (x := 1) rfl).append ((RepAll.one (T := t6) (x := 2) rfl).append ((RepAll.one (T := t6) (x := 3) rfl).append ((RepAll.one (T := t6) (x := 4) rfl).append ((RepAll.one (T := t6) (x := 5) rfl).append ((RepAll.one (T := t6) (x := 6) rfl).append ((RepAll.one (T := t6) (x := 7) rfl).append ((RepAll.one (T := t6) (x := 8) rfl).append ((RepAll.one (T := t6) (x := 12) rfl).append ((RepAll.one (T := t6) (x := 16) rfl).append ((RepAll.one (T := t6) (x := 20) rfl).append ((RepAll.one (T := t6) (x := 24) rfl).append ((RepAll.one (T := t6) (x := 32) rfl).append ((RepAll.one (T := t6) (x := 48) rfl).append (RepAll.one (T := t6) (x := 64) rfl))))))))))))))))
 exact ra1 l (.slice (sm a) ([0, 1, 2, 3, 4, 5, 6, 7, 8, 12, 16, 20, 24, 32, 48, 64] : List Int).length 16) ⟨([0, 1, 2, 3, 4, 5, 6, 7, 8, 12, 16, 20, 24, 32, 48, 64] : List Int), (sm a), 16, Z, rfl, hp, m.kp⟩
def fsizes_fun   (Z : Fz) (w : World)  (hZ : Z.on w) := fc_ (fsizes_walk   Z w  hZ (fsizes_ok ))
theorem rsizes_walk   (Z : Fz) (w : World)  (hZ : Z.on w) {K : (List Int) → Prop} (hp : rsizes_vc  K) : Calls Try.prog 41 #[] w fun e w' => ∃ (r : (List Int)) (ao1001 : Option Addr) (cap1002 : Nat) (Z' : Fz), e = .returned (.slice ao1001 r.length cap1002) ∧ K r ∧ Mem w.heap.size [] w Z [.own t6 3 ao1001 cap1002 r] Z' w' := by
 refine enter0 Try.func41 rfl rfl (by kernel_rfl) ?_; intro n d; have c := Mem.start w Z hZ
 refine sqB d c [] [] [] ?_; intro p f
 refine sqH ?_; intro j g
 refine nw f c (fun b => .slice (sm b) 16 16) [i6 0, i6 1, i6 2, i6 3, i6 4, i6 5, i6 6, i6 7, i6 8, i6 12, i6 16, i6 20, i6 24, i6 32, i6 48, i6 64] 3 ?_; intro a q k h i
 refine s1 h 0 (.slice (sm a) 16 16) ?_; intro s l
 apply g
 apply r_
 have m : Mem w.heap.size [] w Z [.own t6 3 (sm a) 16 ([0, 1, 2, 3, 4, 5, 6, 7, 8, 12, 16, 20, 24, 32, 48, 64] : List Int)] Z k := i.rowOwn (T := t6) (xs := ([0, 1, 2, 3, 4, 5, 6, 7, 8, 12, 16, 20, 24, 32, 48, 64] : List Int)) 0 rfl (by decide) (by show 16 ≤ lim; decide) ((RepAll.one (T := t6) (x := 0) rfl).append ((RepAll.one (T := t6) (x := 1) rfl).append ((RepAll.one (T := t6) (x := 2) rfl).append ((RepAll.one (T := t6) (x := 3) rfl).append ((RepAll.one (T := t6) (x := 4) rfl).append ((RepAll.one (T := t6) (x := 5) rfl).append ((RepAll.one (T := t6) (x := 6) rfl).append ((RepAll.one (T := t6) (x := 7) rfl).append ((RepAll.one (T := t6) (x := 8) rfl).append ((RepAll.one (T := t6) (x := 12) rfl).append ((RepAll.one (T := t6) (x := 16) rfl).append ((RepAll.one (T := t6) (x := 20) rfl).append ((RepAll.one (T := t6) (x := 24) rfl).append ((RepAll.one (T := t6) (x := 32) rfl).append ((RepAll.one (T := t6) (x := 48) rfl).append (RepAll.one (T := t6) (x := 64) rfl))))))))))))))))
 exact ra1 l (.slice (sm a) ([0, 1, 2, 3, 4, 5, 6, 7, 8, 12, 16, 20, 24, 32, 48, 64] : List Int).length 16) ⟨([0, 1, 2, 3, 4, 5, 6, 7, 8, 12, 16, 20, 24, 32, 48, 64] : List Int), (sm a), 16, Z, rfl, hp, m.kp⟩
def rsizes_fun   (Z : Fz) (w : World)  (hZ : Z.on w) := fc_ (rsizes_walk   Z w  hZ (rsizes_ok ))
theorem ftop_walk (u0 : Bool)  (Z : Fz) (w : World)  (hZ : Z.on w) {K : Int → Prop} (hp : ftop_vc u0 K) : Calls Try.prog 58 #[.bool u0] w fun e w' => ∃ r : Int, e = .returned (i6 r) ∧ K r ∧ Below w.heap.size w w' := by
 refine enter0 Try.func58 rfl rfl (by kernel_rfl) ?_; intro k d; have a := Mem.start w Z hZ
 refine sqB d a [] [] [] ?_; intro m f
 refine s_ (sqB f a [] [] [(3, .bool u0)] ?_); intro n b
 refine c_ b hp (fun _ g => ?_) fun _ i => ?_
 ·
  refine sqB b a [] [] [(2, i6 536870911)] ?_; intro o h
  exact r_ (h_ (ra1 h (i6 536870911) ⟨536870911, rfl, g, a.below⟩))
 refine k_ (sqB b a [] [] [(2, i6 2047)] ?_); intro p j
 exact r_ (ra1 j (i6 2047) ⟨2047, rfl, i, a.below⟩)
def ftop_fun (u0 : Bool)  (Z : Fz) (w : World)  (hZ : Z.on w) := f_ (ftop_walk u0  Z w  hZ (ftop_ok u0))
theorem fcheck_walk (u0 : List Filter) (ao1 : Option Addr) (cap2 : Nat) (Z : Fz) (w : World) (hs3 : SlR tyFilter Z ao1 cap2 u0) (hZ : Z.on w) {K : Int → Prop} (hp : fcheck_vc u0 K) : Calls Try.prog 37 #[.slice ao1 u0.length cap2] w fun e w' => ∃ r : Int, e = .returned (i6 r) ∧ K r ∧ Below w.heap.size w w' := by
 refine enter0 Try.func37 rfl rfl (by kernel_rfl) ?_; intro a0 V; have f := Mem.start w Z hZ
 have n := hp (hs3.small)
 refine sqB V f [] [] [] ?_; intro a6 W
 refine s_ (sqB W f [] [] [(7, .bool (decide ((u0.length : Int) > 16)))] ?_); intro a2 i
 refine c_ i n (fun _ aB => ?_) fun _ aD => ?_
 ·
  refine sqB i f [] [] [(2, i6 2)] ?_; intro a3 aC
  exact r_ (h_ (ra1 aC (i6 2) ⟨2, rfl, aB, f.below⟩))
 refine k_ (s_ (sqB i f [] [] [(8, .slice ao1 u0.length cap2), (9, i6 (u0.length : Int)), (10, i6 0)] ?_)); intro X Y
 apply b_
 have aa : Fr 39 [] [⟨8, [], .slice ao1 u0.length cap2⟩, ⟨9, [], i6 (u0.length : Int)⟩, ⟨10, [], i6 0⟩] X := Y.reg
 obtain ⟨aE, aF, aG, aH⟩ := aD
 refine lp (ι := Int) (fun s => [⟨8, [], .slice ao1 u0.length cap2⟩, ⟨9, [], i6 (u0.length : Int)⟩, ⟨10, [], i6 s⟩]) (fun s => []) (fun s => Z) (fun s => aE s) (fun s => aF s) 0 aG (by exact aa.reg) (by exact f) ?_
 rintro d aI aJ aK ac ad
 have o := aH d aI
 refine sqB ac ad [] [] [(11, .bool (decide (d < (u0.length : Int))))] ?_; intro a4 j
 refine s_ (c_ j o (fun _ aL => ?_) fun _ aY => ?_)
 ·
  refine k_ (s_ (b_ (sqH ?_))); intro aM af
  obtain ⟨aN, ag⟩ := aL
  refine ix_ j hs3 d aN .i64 27 24 ?_; intro a5 a7 aO a a8 aP aQ aR ah
  have p := ag a aP
  obtain rfl : aO = ((e27A a) : List Value) := aR
  refine z2 ah ad 13 aQ 0 3 (e27A a) rfl ?_; intro a9 ai
  refine nw ai ad pb [i6 0, i6 0, .bool false] 27 ?_; intro c aS ba y aj
  refine sx y aj 0 (e27A a) 0 ?_; intro aT ak
  have al : Mem w.heap.size [] w Z [.row c (e27A a) 27] Z aT := ak
  apply af
  have am : Fr 39 [] [⟨4, [], pt c 0⟩, ⟨8, [], .slice ao1 u0.length cap2⟩, ⟨9, [], i6 (u0.length : Int)⟩, ⟨10, [], i6 d⟩] aS := y.reg
  refine sqQH mixed (by kernel_rfl) al ?_; intro aU an
  refine q1 am 14 (pt c 0) ?_; intro bb z
  refine ql_ z 0 0 (i6 a.Want) rfl rfl ?_; intro bc ao
  refine q1 ao 16 (.bool (decide (a.Want < 0))) ?_; intro bd ap
  refine q1 ap 17 (.bool (decide (a.Want < 0))) ?_; intro be aq
  have A := aq.atom ((decide (a.Want < 0)) == false) (by kernel_rfl)
  refine qgd A (pt c 0) (m := 0) (cj := []) (bj := decide (a.Want < 0)) rfl rfl (by kernel_rfl) rfl (by kernel_rfl) (by kernel_rfl) (by kernel_rfl) (fun hg => qat_ok (fun v85 hC => pu A (g := [0]) (by kernel_rfl) hg)) ?_; intro bf B
  refine qgd B (i6 a.Want) (m := 0) (cj := []) (bj := decide (a.Want < 0)) rfl rfl (by kernel_rfl) rfl (by kernel_rfl) (by kernel_rfl) (by kernel_rfl) (fun hg => qat_ok (fun v88 hC => ld B hC 0 (g := [0]) (b := c) (off := 0) (cs := (e27A a)) (ty := 27) rfl (by kernel_rfl) (by kernel_rfl) (by kernel_rfl) (by kernel_rfl) hg)) ?_; intro bg C
  refine qgd C (pt c 2) (m := 0) (cj := []) (bj := decide (a.Want < 0)) rfl rfl (by kernel_rfl) rfl (by kernel_rfl) (by kernel_rfl) (by kernel_rfl) (fun hg => qat_ok (fun v91 hC => pu C (g := [0]) (by kernel_rfl) hg)) ?_; intro bh D
  refine qgd D (.bool a.Long) (m := 0) (cj := []) (bj := decide (a.Want < 0)) rfl rfl (by kernel_rfl) rfl (by kernel_rfl) (by kernel_rfl) (by kernel_rfl) (fun hg => qat_ok (fun v94 hC => ld D hC 0 (g := [0]) (b := c) (off := 2) (cs := (e27A a)) (ty := 27) rfl (by kernel_rfl) (by kernel_rfl) (by kernel_rfl) (by kernel_rfl) hg)) ?_; intro bi E
  refine qgd E (i6 (ftop a.Long)) (m := 0) (cj := []) (bj := decide (a.Want < 0)) rfl rfl (by kernel_rfl) rfl (by kernel_rfl) (by kernel_rfl) (by kernel_rfl) (fun hg => qat_cl E (g := [0]) 58 #[.bool a.Long] hg (fun _ => by kernel_rfl) (qfc fun w hC => ftop_fun a.Long _ _ hC.fz)) ?_; intro bk F
  refine qgd F (.bool (decide (a.Want > (ftop a.Long)))) (m := 0) (cj := []) (bj := decide (a.Want < 0)) rfl rfl (by kernel_rfl) rfl (by kernel_rfl) (by kernel_rfl) (by kernel_rfl) (fun hg => qat_ok (fun v100 hC => pu F (g := [0]) (by kernel_rfl) hg)) ?_; intro bl G
  refine qu_ G (.bool ((decide (a.Want < 0)) || (decide (a.Want > (ftop a.Long))))) (fun v103 hC => pk_or G (g := []) (m := 0) (b := decide (a.Want < 0)) (v := decide (a.Want > (ftop a.Long))) rfl (by kernel_rfl) (by kernel_rfl) (by kernel_rfl) rfl) ?_; intro bm ar
  refine q1 ar 25 (.bool ((decide (a.Want < 0)) || (decide (a.Want > (ftop a.Long))))) ?_; intro bn au
  have H := au.atom (((decide (a.Want < 0)) || (decide (a.Want > (ftop a.Long)))) == false) (by kernel_rfl)
  refine qgd H (pt c 1) (m := 1) (cj := []) (bj := (decide (a.Want < 0)) || (decide (a.Want > (ftop a.Long)))) rfl rfl (by kernel_rfl) rfl (by kernel_rfl) (by kernel_rfl) (by kernel_rfl) (fun hg => qat_ok (fun v110 hC => pu H (g := [1]) (by kernel_rfl) hg)) ?_; intro bo I
  refine qgd I (i6 a.Mask) (m := 1) (cj := []) (bj := (decide (a.Want < 0)) || (decide (a.Want > (ftop a.Long)))) rfl rfl (by kernel_rfl) rfl (by kernel_rfl) (by kernel_rfl) (by kernel_rfl) (fun hg => qat_ok (fun v113 hC => ld I hC 0 (g := [1]) (b := c) (off := 1) (cs := (e27A a)) (ty := 27) rfl (by kernel_rfl) (by kernel_rfl) (by kernel_rfl) (by kernel_rfl) hg)) ?_; intro bp J
  refine qgd J (.bool (decide (a.Mask < 0))) (m := 1) (cj := []) (bj := (decide (a.Want < 0)) || (decide (a.Want > (ftop a.Long)))) rfl rfl (by kernel_rfl) rfl (by kernel_rfl) (by kernel_rfl) (by kernel_rfl) (fun hg => qat_ok (fun v116 hC => pu J (g := [1]) (by kernel_rfl) hg)) ?_; intro bq L
  refine qu_ L (.bool (((decide (a.Want < 0)) || (decide (a.Want > (ftop a.Long)))) || (decide (a.Mask < 0)))) (fun v119 hC => pk_or L (g := []) (m := 1) (b := (decide (a.Want < 0)) || (decide (a.Want > (ftop a.Long)))) (v := decide (a.Mask < 0)) rfl (by kernel_rfl) (by kernel_rfl) (by kernel_rfl) rfl) ?_; intro br av
  refine q1 av 30 (.bool (((decide (a.Want < 0)) || (decide (a.Want > (ftop a.Long)))) || (decide (a.Mask < 0)))) ?_; intro bs aw
  have M := aw.atom ((((decide (a.Want < 0)) || (decide (a.Want > (ftop a.Long)))) || (decide (a.Mask < 0))) == false) (by kernel_rfl)
  refine qgd M (pt c 1) (m := 2) (cj := []) (bj := ((decide (a.Want < 0)) || (decide (a.Want > (ftop a.Long)))) || (decide (a.Mask < 0))) rfl rfl (by kernel_rfl) rfl (by kernel_rfl) (by kernel_rfl) (by kernel_rfl) (fun hg => qat_ok (fun v126 hC => pu M (g := [2]) (by kernel_rfl) hg)) ?_; intro bt N
  refine qgd N (i6 a.Mask) (m := 2) (cj := []) (bj := ((decide (a.Want < 0)) || (decide (a.Want > (ftop a.Long)))) || (decide (a.Mask < 0))) rfl rfl (by kernel_rfl) rfl (by kernel_rfl) (by kernel_rfl) (by kernel_rfl) (fun hg => qat_ok (fun v129 hC => ld N hC 0 (g := [2]) (b := c) (off := 1) (cs := (e27A a)) (ty := 27) rfl (by kernel_rfl) (by kernel_rfl) (by kernel_rfl) (by kernel_rfl) hg)) ?_; intro bu O
  refine qgd O (pt c 2) (m := 2) (cj := []) (bj := ((decide (a.Want < 0)) || (decide (a.Want > (ftop a.Long)))) || (decide (a.Mask < 0))) rfl rfl (by kernel_rfl) rfl (by kernel_rfl) (by kernel_rfl) (by kernel_rfl) (fun hg => qat_ok (fun v132 hC => pu O (g := [2]) (by kernel_rfl) hg)) ?_; intro bv P
  refine qgd P (.bool a.Long) (m := 2) (cj := []) (bj := ((decide (a.Want < 0)) || (decide (a.Want > (ftop a.Long)))) || (decide (a.Mask < 0))) rfl rfl (by kernel_rfl) rfl (by kernel_rfl) (by kernel_rfl) (by kernel_rfl) (fun hg => qat_ok (fun v135 hC => ld P hC 0 (g := [2]) (b := c) (off := 2) (cs := (e27A a)) (ty := 27) rfl (by kernel_rfl) (by kernel_rfl) (by kernel_rfl) (by kernel_rfl) hg)) ?_; intro bw Q
  refine qgd Q (i6 (ftop a.Long)) (m := 2) (cj := []) (bj := ((decide (a.Want < 0)) || (decide (a.Want > (ftop a.Long)))) || (decide (a.Mask < 0))) rfl rfl (by kernel_rfl) rfl (by kernel_rfl) (by kernel_rfl) (by kernel_rfl) (fun hg => qat_cl Q (g := [2]) 58 #[.bool a.Long] hg (fun _ => by kernel_rfl) (qfc fun w hC => ftop_fun a.Long _ _ hC.fz)) ?_; intro bx R
  refine qgd R (.bool (decide (a.Mask > (ftop a.Long)))) (m := 2) (cj := []) (bj := ((decide (a.Want < 0)) || (decide (a.Want > (ftop a.Long)))) || (decide (a.Mask < 0))) rfl rfl (by kernel_rfl) rfl (by kernel_rfl) (by kernel_rfl) (by kernel_rfl) (fun hg => qat_ok (fun v141 hC => pu R (g := [2]) (by kernel_rfl) hg)) ?_; intro bz S
  refine qu_ S (.bool ((((decide (a.Want < 0)) || (decide (a.Want > (ftop a.Long)))) || (decide (a.Mask < 0))) || (decide (a.Mask > (ftop a.Long))))) (fun v144 hC => pk_or S (g := []) (m := 2) (b := ((decide (a.Want < 0)) || (decide (a.Want > (ftop a.Long)))) || (decide (a.Mask < 0))) (v := decide (a.Mask > (ftop a.Long))) rfl (by kernel_rfl) (by kernel_rfl) (by kernel_rfl) rfl) ?_; intro ax l
  refine qnl (an _ ?_); intro bA q
  refine c_ l p (fun _ aV => ?_) fun _ az => ?_
  ·
   have ay : Fr 39 [] [] ax := l.reg
   refine sqB ay q [] [] [(2, i6 3)] ?_; intro bB aW
   exact r_ (i_ (h_ (h_ (i_ (h_ (ra1 aW (i6 3) ⟨3, rfl, aV, q.below⟩))))))
  refine l_ (j_ (t_ ?_))
  have aA : Fr 39 [] [⟨8, [], .slice ao1 u0.length cap2⟩, ⟨9, [], i6 (u0.length : Int)⟩, ⟨10, [], i6 d⟩] ax := l.reg
  refine rgB aA q [] [] [(10, i6 (w64 (d + 1)))] ?_; intro bC aX
  exact d_ ⟨w64 (d + 1), az.1, az.2, (aX.reg).anyβ _ (by kernel_rfl), q.kp⟩
 refine x_ (y_ (y_ (z_ (t_ (sqB j ad [] [] [(2, i6 0)] ?_))))); intro bD aZ
 exact r_ (ra1 aZ (i6 0) ⟨0, rfl, aY, ad.below⟩)

theorem rcheckf_walk (u0 : List Filter) (ao1 : Option Addr) (cap2 : Nat) (Z : Fz) (w : World) (hs3 : SlR tyFilter Z ao1 cap2 u0) (hZ : Z.on w) {K : Int → Prop} (hp : rcheckf_vc u0 K) : Calls Try.prog 36 #[.slice ao1 u0.length cap2] w fun e w' => ∃ r : Int, e = .returned (i6 r) ∧ K r ∧ Below w.heap.size w w' := by
 refine enter0 Try.func36 rfl rfl (by kernel_rfl) ?_; intro a0 B; have d := Mem.start w Z hZ
 have m := hp (hs3.small)
 refine sqB B d [] [] [] ?_; intro a6 C
 refine s_ (sqB C d [] [] [(8, .bool (decide ((u0.length : Int) > 16)))] ?_); intro aB g
 refine c_ g m (fun _ W => ?_) fun _ Y => ?_
 ·
  refine sqB g d [] [] [(2, i6 2)] ?_; intro aC X
  exact r_ (h_ (ra1 X (i6 2) ⟨2, rfl, W, d.below⟩))
 refine k_ (s_ (sqB g d [] [] [(9, .slice ao1 u0.length cap2), (10, i6 (u0.length : Int)), (11, i6 0)] ?_)); intro D E
 apply b_
 have F : Fr 33 [] [⟨9, [], .slice ao1 u0.length cap2⟩, ⟨10, [], i6 (u0.length : Int)⟩, ⟨11, [], i6 0⟩] D := E.reg
 obtain ⟨aa, ab, ac, ad⟩ := Y
 refine lp (ι := Int) (fun s => [⟨9, [], .slice ao1 u0.length cap2⟩, ⟨10, [], i6 (u0.length : Int)⟩, ⟨11, [], i6 s⟩]) (fun s => []) (fun s => Z) (fun s => aa s) (fun s => ab s) 0 ac (by exact F.reg) (by exact d) ?_
 rintro c ae af ag H I
 have n := ad c ae
 refine sqB H I [] [] [(12, .bool (decide (c < (u0.length : Int))))] ?_; intro aD h
 refine s_ (c_ h n (fun _ ah => ?_) fun _ ay => ?_)
 ·
  refine k_ (s_ (b_ (sqH ?_))); intro ai L
  obtain ⟨aj, M⟩ := ah
  refine ix_ h hs3 c aj .i64 27 24 ?_; intro aE aF ak a aG al am an N
  have o := M a al
  obtain rfl : ak = ((e27A a) : List Value) := an
  refine z2 N I 14 am 0 3 (e27A a) rfl ?_; intro aH O
  refine nw O I pb [i6 0, i6 0, .bool false] 27 ?_; intro ao aI aJ x P
  refine sx x P 0 (e27A a) 0 ?_; intro ap Q
  have b : Mem w.heap.size [] w Z [.row ao (e27A a) 27] Z ap := Q
  apply L
  refine sqB x b [] [] [(5, i6 2047)] ?_; intro aK R
  refine s_ (sqB R b [0] [] [(16, .bool a.Long)] ?_); intro aL i
  refine c_ i o (fun _ p => ?_) fun _ q => ?_
  ·
   refine rgB i b [] [] [(5, i6 536870911)] ?_; intro aM S
   refine t_ (sqB S b [0, 0, 0, 0] [] [(31, .bool ((decide ((min a.Want a.Mask) < 0)) || (decide ((max a.Want a.Mask) > 536870911))))] ?_); intro aN j
   refine c_ j p (fun _ aq => ?_) fun _ U => ?_
   ·
    refine sqB j b [] [] [(2, i6 3)] ?_; intro aO ar
    exact r_ (i_ (h_ (h_ (i_ (h_ (ra1 ar (i6 3) ⟨3, rfl, aq, b.below⟩))))))
   refine l_ (j_ (t_ (rgB j b [] [] [(11, i6 (w64 (c + 1)))] ?_))); intro aP au
   exact d_ ⟨w64 (c + 1), U.1, U.2, (au.reg).anyβ _ (by kernel_rfl), b.kp⟩
  refine k_ (sqB i b [0, 0, 0, 0] [] [(31, .bool ((decide ((min a.Want a.Mask) < 0)) || (decide ((max a.Want a.Mask) > 2047))))] ?_); intro aQ l
  refine c_ l q (fun _ av => ?_) fun _ V => ?_
  ·
   refine sqB l b [] [] [(2, i6 3)] ?_; intro aR aw
   exact r_ (i_ (h_ (h_ (i_ (h_ (ra1 aw (i6 3) ⟨3, rfl, av, b.below⟩))))))
  refine l_ (j_ (t_ (rgB l b [] [] [(11, i6 (w64 (c + 1)))] ?_))); intro aS ax
  exact d_ ⟨w64 (c + 1), V.1, V.2, (ax.reg).anyβ _ (by kernel_rfl), b.kp⟩
 refine x_ (y_ (y_ (z_ (t_ (sqB h I [] [] [(2, i6 0)] ?_))))); intro aT az
 exact r_ (ra1 az (i6 0) ⟨0, rfl, ay, I.below⟩)

theorem letsin_walk (u0 : Filter) (u1 : Frame) (ao1 : Option Addr) (cap2 : Nat) (Z : Fz) (w : World) (hs3 : SlR t8 Z ao1 cap2 u1.Data) (hZ : Z.on w) {K : Bool → Prop} (hp : letsin_vc u0 u1 K) : Calls Try.prog 43 #[.agg #[i6 u0.Want, i6 u0.Mask, .bool u0.Long], .agg #[i6 u1.ID, .bool u1.Long, .bool u1.Fast, .bool u1.Remote, i6 u1.Size, .slice ao1 u1.Data.length cap2]] w fun e w' => ∃ r : Bool, e = .returned (.bool r) ∧ K r ∧ Below w.heap.size w w' := by
 refine enter0 Try.func43 rfl rfl (by kernel_rfl) ?_; intro m a; have b := Mem.start w Z hZ
 have j := hp (hs3.small)
 refine sqH ?_; intro k c
 refine nw a b pb (e27A u0) 27 ?_; intro o p q d f
 refine nw d f pb [i6 u1.ID, .bool u1.Long, .bool u1.Fast, .bool u1.Remote, i6 u1.Size, .slice ao1 u1.Data.length cap2] 25 ?_; intro s t u g h
 refine s1 g 4 (.bool false) ?_; intro v i
 apply c
 refine sqB i h [1, 0, 1, 1, 0, 1] [] [(4, .bool ((u0.Long == u1.Long) && ((bAnd .i64 u0.Want u0.Mask) == (bAnd .i64 u1.ID u0.Mask))))] ?_; intro x l
 exact r_ (ra1 l (.bool ((u0.Long == u1.Long) && ((bAnd .i64 u0.Want u0.Mask) == (bAnd .i64 u1.ID u0.Mask)))) ⟨(u0.Long == u1.Long) && ((bAnd .i64 u0.Want u0.Mask) == (bAnd .i64 u1.ID u0.Mask)), rfl, j, h.below⟩)
def letsin_fun (u0 : Filter) (u1 : Frame) (ao1 : Option Addr) (cap2 : Nat) (Z : Fz) (w : World) (hs3 : SlR t8 Z ao1 cap2 u1.Data) (hZ : Z.on w) := f_ (letsin_walk u0 u1 ao1 cap2 Z w hs3 hZ (letsin_ok u0 u1))
theorem lets1_walk (u0 : Filter) (u1 : Frame) (cb4 co5 : Nat) (ao1 : Option Addr) (cap2 : Nat) (Z : Fz) (w : World) (hP6 : PtR Z cb4 co5 [i6 u1.ID, .bool u1.Long, .bool u1.Fast, .bool u1.Remote, i6 u1.Size, .slice ao1 u1.Data.length cap2]) (hs3 : SlR t8 Z ao1 cap2 u1.Data) (hZ : Z.on w) {K : Bool → Prop} (hp : lets1_vc u0 u1 K) : Calls Try.prog 72 #[.agg #[i6 u0.Want, i6 u0.Mask, .bool u0.Long], pt cb4 co5] w fun e w' => ∃ r : Bool, e = .returned (.bool r) ∧ K r ∧ Below w.heap.size w w' := by
 refine enter0 Try.func72 rfl rfl (by kernel_rfl) ?_; intro H j; have k := Mem.start w Z hZ
 refine sqH ?_; intro E l
 refine nw j k pb (e27A u0) 27 ?_; intro c J L n a
 refine s1 n 3 (.bool false) ?_; intro M o
 apply l
 refine sqH ?_; intro F p
 refine bt o a 3 [0] [] [(5, .bool u0.Long), (6, .pointer (some ⟨cb4, co5 + 1, none⟩))] ?_; intro N q
 refine z1 q a 7 hP6 1 (.bool u1.Long) rfl ?_; intro O s
 refine s1 s 8 (.bool (u0.Long == u1.Long)) ?_; intro P t
 refine s1 t 9 (.bool (u0.Long == u1.Long)) ?_; intro Q u
 have x := u.atom ((u0.Long == u1.Long) == true) (by kernel_rfl)
 refine gp x 10 0 [] (u0.Long == u1.Long) (pt cb4 co5) rfl rfl ?_; intro R d
 refine gd d (i6 u1.ID) (m := 0) (cj := []) (bj := u0.Long == u1.Long) rfl rfl (by kernel_rfl) rfl (by kernel_rfl) (by kernel_rfl) (by kernel_rfl) (fun hg => lz d a.fz hP6 0 (g := [0]) rfl (by kernel_rfl) (by kernel_rfl) (by kernel_rfl) hg) ?_; intro S y
 refine gp y 12 0 [] (u0.Long == u1.Long) (pt c 0) rfl rfl ?_; intro T f
 refine gd f (i6 u0.Want) (m := 0) (cj := []) (bj := u0.Long == u1.Long) rfl rfl (by kernel_rfl) rfl (by kernel_rfl) (by kernel_rfl) (by kernel_rfl) (fun hg => ld f a 0 (g := [0]) (b := c) (off := 0) (cs := (e27A u0)) (ty := 27) rfl (by kernel_rfl) (by kernel_rfl) (by kernel_rfl) (by kernel_rfl) hg) ?_; intro U z
 refine gp z 14 0 [] (u0.Long == u1.Long) (i6 (bXor .i64 u1.ID u0.Want)) rfl rfl ?_; intro V A
 refine gp A 15 0 [] (u0.Long == u1.Long) (pt c 1) rfl rfl ?_; intro W h
 refine gd h (i6 u0.Mask) (m := 0) (cj := []) (bj := u0.Long == u1.Long) rfl rfl (by kernel_rfl) rfl (by kernel_rfl) (by kernel_rfl) (by kernel_rfl) (fun hg => ld h a 0 (g := [0]) (b := c) (off := 1) (cs := (e27A u0)) (ty := 27) rfl (by kernel_rfl) (by kernel_rfl) (by kernel_rfl) (by kernel_rfl) hg) ?_; intro X B
 refine gp B 17 0 [] (u0.Long == u1.Long) (i6 (bAnd .i64 (bXor .i64 u1.ID u0.Want) u0.Mask)) rfl rfl ?_; intro Y C
 refine gp C 18 0 [] (u0.Long == u1.Long) (.bool ((bAnd .i64 (bXor .i64 u1.ID u0.Want) u0.Mask) == 0)) rfl rfl ?_; intro aa i
 refine u_ i (.bool ((u0.Long == u1.Long) && ((bAnd .i64 (bXor .i64 u1.ID u0.Want) u0.Mask) == 0))) (pk_and i (g := []) (m := 0) (b := u0.Long == u1.Long) (v := (bAnd .i64 (bXor .i64 u1.ID u0.Want) u0.Mask) == 0) rfl (by kernel_rfl) (by kernel_rfl) (by kernel_rfl) rfl) ?_; intro ab D
 refine s1 D 3 (.bool ((u0.Long == u1.Long) && ((bAnd .i64 (bXor .i64 u1.ID u0.Want) u0.Mask) == 0))) ?_; intro ac G
 apply p
 exact r_ (ra1 G (.bool ((u0.Long == u1.Long) && ((bAnd .i64 (bXor .i64 u1.ID u0.Want) u0.Mask) == 0))) ⟨(u0.Long == u1.Long) && ((bAnd .i64 (bXor .i64 u1.ID u0.Want) u0.Mask) == 0), rfl, hp, a.below⟩)
def lets1_fun (u0 : Filter) (u1 : Frame) (cb4 co5 : Nat) (ao1 : Option Addr) (cap2 : Nat) (Z : Fz) (w : World) (hP6 : PtR Z cb4 co5 [i6 u1.ID, .bool u1.Long, .bool u1.Fast, .bool u1.Remote, i6 u1.Size, .slice ao1 u1.Data.length cap2]) (hs3 : SlR t8 Z ao1 cap2 u1.Data) (hZ : Z.on w) := f_ (lets1_walk u0 u1 cb4 co5 ao1 cap2 Z w hP6 hs3 hZ (lets1_ok u0 u1))
theorem findexf_walk (u0 : List Filter) (u1 : Filter → Bool) (ao1 : Option Addr) (cap2 : Nat) (fid4 : Nat) (caps5 : Array Value) (Z : Fz) (w : World) (hs3 : SlR tyFilter Z ao1 cap2 u0) (hf6 : ∀ (Z1 : Fz) (w1 : World), Z.le Z1 → Z1.on w1 → ∀ (x0 : Filter), Calls Try.prog fid4 (#[.agg #[i6 x0.Want, i6 x0.Mask, .bool x0.Long]] ++ caps5) w1 fun e w2 => e = .returned (.bool (u1 x0)) ∧ Below w1.heap.size w1 w2) (hg7 : ∀ x w, Sem.run Try.prog (callFunc fid4 x) w = .ok (.enter fid4 x) w) (hZ : Z.on w) {K : Int → Prop} (hp : findexf_vc u0 u1 K) : Calls Try.prog 80 #[.slice ao1 u0.length cap2, .func (.func fid4) #[] caps5] w fun e w' => ∃ r : Int, e = .returned (i6 r) ∧ K r ∧ Below w.heap.size w w' := by
 refine enter0 Try.func80 rfl rfl (by kernel_rfl) ?_; intro a0 n; have g := Mem.start w Z hZ; have I := Fz.le.refl Z
 have J := hp (hs3.small)
 refine sqB n g [] [] [] ?_; intro ah o
 refine s_ (sqB o g [] [] [(7, i6 (u0.length : Int)), (8, i6 0)] ?_); intro p q
 apply b_
 have u : Fr 19 [] [⟨0, [], .slice ao1 u0.length cap2⟩, ⟨1, [], .func (.func fid4) #[] caps5⟩, ⟨7, [], i6 (u0.length : Int)⟩, ⟨8, [], i6 0⟩] p := q.reg
 obtain ⟨L, M, N, O⟩ := J
 refine lp (ι := Int) (fun s => [⟨0, [], .slice ao1 u0.length cap2⟩, ⟨1, [], .func (.func fid4) #[] caps5⟩, ⟨7, [], i6 (u0.length : Int)⟩, ⟨8, [], i6 s⟩]) (fun s => []) (fun s => Z) (fun s => L s) (fun s => M s) 0 N (by exact u.reg) (by exact g) ?_
 rintro b P Q R y z
 have h := O b P
 refine sqB y z [] [] [(9, .bool (decide (b < (u0.length : Int))))] ?_; intro ai d
 refine s_ (c_ d h (fun _ S => ?_) fun _ af => ?_)
 ·
  refine k_ (s_ (b_ (sqB d z [] [] [(5, i6 b)] ?_))); intro aj B
  refine sqH ?_; intro U C
  refine bt B z 3 [] [] [(11, .func (.func fid4) #[] caps5), (12, .slice ao1 u0.length cap2), (13, i6 b)] ?_; intro ak D
  obtain ⟨V, E⟩ := S
  refine ix_ D hs3 b V .i64 27 24 ?_; intro al am W a an X Y aa F
  have i := E a X
  obtain rfl : W = ((e27A a) : List Value) := aa
  refine z2 F z 15 Y 0 3 (e27A a) rfl ?_; intro ao G
  have ab := hf6 _ _ I z.fz a
  refine fcl G z (.bool (u1 a)) fid4 (#[.agg (e27A a).toArray] ++ caps5) (nog rfl _) rfl (by kernel_rfl) ?h1 ?h2 ?_
  case h1 => exact fv_run rfl (by kernel_rfl) (by kernel_rfl) hg7
  case h2 => exact ab
  intro ap aq f j
  apply C
  refine c_ f i (fun _ ac => ?_) fun _ H => ?_
  ·
   refine sqB f j [] [] [(4, i6 b)] ?_; intro ar ad
   exact r_ (i_ (h_ (h_ (i_ (h_ (ra1 ad (i6 b) ⟨b, rfl, ac, j.below⟩))))))
  refine l_ (j_ (t_ (rgB f j [] [] [(8, i6 (w64 (b + 1)))] ?_))); intro au ae
  exact d_ ⟨w64 (b + 1), H.1, H.2, (ae.reg).anyβ _ (by kernel_rfl), j.kp⟩
 refine x_ (y_ (y_ (z_ (t_ (sqB d z [] [] [(4, i6 (-1))] ?_))))); intro av ag
 exact r_ (ra1 ag (i6 (-1)) ⟨-1, rfl, af, z.below⟩)

theorem fcontf_walk (u0 : List Filter) (u1 : Filter → Bool) (ao1 : Option Addr) (cap2 : Nat) (fid4 : Nat) (caps5 : Array Value) (Z : Fz) (w : World) (hs3 : SlR tyFilter Z ao1 cap2 u0) (hf6 : ∀ (Z1 : Fz) (w1 : World), Z.le Z1 → Z1.on w1 → ∀ (x0 : Filter), Calls Try.prog fid4 (#[.agg #[i6 x0.Want, i6 x0.Mask, .bool x0.Long]] ++ caps5) w1 fun e w2 => e = .returned (.bool (u1 x0)) ∧ Below w1.heap.size w1 w2) (hg7 : ∀ x w, Sem.run Try.prog (callFunc fid4 x) w = .ok (.enter fid4 x) w) (hZ : Z.on w) {K : Bool → Prop} (hp : fcontf_vc u0 u1 K) : Calls Try.prog 71 #[.slice ao1 u0.length cap2, .func (.func fid4) #[] caps5] w fun e w' => ∃ r : Bool, e = .returned (.bool r) ∧ K r ∧ Below w.heap.size w w' := by
 refine enter0 Try.func71 rfl rfl (by kernel_rfl) ?_; intro o c; have a := Mem.start w Z hZ; have j := Fz.le.refl Z
 have k := hp (hs3.small)
 refine sqB c a [] [] [] ?_; intro p d
 refine sqH ?_; intro l f
 refine bt d a 2 [] [] [(5, .slice ao1 u0.length cap2), (6, .func (.func fid4) #[] caps5)] ?_; intro q g
 refine ck g 80 #[.slice ao1 u0.length cap2, .func (.func fid4) #[] caps5] ?_
 refine (findexf_walk u0 u1 ao1 cap2 fid4 caps5 _ _ hs3 (fun Z1 w1 h1 h2 => hf6 Z1 w1 (j.trans h1) h2) hg7 a.fz k).mono ?_; rintro _ s ⟨b, rfl, m, hb⟩; refine ⟨_, rfl, ?_⟩; intro t h; have i := a.call hb
 refine bt h i 2 [] [] [(4, .bool (decide (b ≥ 0)))] ?_; intro u n
 apply f
 exact r_ (ra1 n (.bool (decide (b ≥ 0))) ⟨decide (b ≥ 0), rfl, m, i.below⟩)

theorem bclone_walk (u0 : List Int) (ao1 : Option Addr) (cap2 : Nat) (Z : Fz) (w : World) (hs3 : SlR t8 Z ao1 cap2 u0) (hZ : Z.on w) {K : (List Int) → Prop} (hp : bclone_vc u0 K) : Calls Try.prog 53 #[.slice ao1 u0.length cap2] w fun e w' => ∃ (r : (List Int)) (ao1001 : Option Addr) (cap1002 : Nat) (Z' : Fz), e = .returned (.slice ao1001 r.length cap1002) ∧ K r ∧ Mem w.heap.size [] w Z [.own t8 5 ao1001 cap1002 r] Z' w' := by
 refine enter0 Try.func53 rfl rfl (by kernel_rfl) ?_; intro N l; have a := Mem.start w Z hZ
 have m := hp (hs3.small)
 refine sqB l a [] [] [] ?_; intro P n
 refine s_ (sqH ?_); intro A o
 refine s1 n 3 (.slice ao1 u0.length cap2) ?_; intro Q h
 obtain ⟨i, p⟩ : ∃ b, ao1.isNone = b := ⟨_, rfl⟩; have d := m i (by rw [← p]; exact hs3.isNone)
 refine u_ h (.bool i) (re_ (r := .ok (.value (.bool ao1.isNone)) w) (by cases ao1 <;> exact p0 h (by kernel_rfl)) (by rw [p])) ?_; intro R c
 apply o
 refine c_ c d (fun _ B => ?_) fun _ E => ?_
 ·
  refine sqB c a [] [] [(2, .slice none 0 0)] ?_; intro S C
  refine r_ (h_ ?_)
  have D : Mem w.heap.size [] w Z [.own t8 5 none 0 ([] : List Int)] Z w := a.addNil t8 5 (by decide)
  exact ra1 C (.slice none ([] : List Int).length 0) ⟨([] : List Int), none, 0, Z, rfl, B, D.kp⟩
 refine k_ (sqH ?_); intro F q
 refine nw c a (fun b => .slice (sm b) 0 0) [] 5 ?_; intro s U G u v
 refine s1 u 6 (.slice ao1 u0.length cap2) ?_; intro V x
 have k : Mem w.heap.size [] w Z [.own t8 5 (sm s) 0 ([] : List Int)] Z G := v.rowOwn (T := t8) (xs := ([] : List Int)) 0 rfl (by decide) (by show 0 ≤ lim; decide) (RepAll.nil _ _)
 obtain ⟨H, I⟩ := E
 refine ap x k 0 (T := t8) (xs := ([] : List Int)) (ys := u0) (ao := (sm s)) (cap := 0) (ao2 := ao1) (cap2 := cap2) (t := 23) (e := 5) (bytes := 1) (nog rfl _) rfl (by kernel_rfl) rfl (by kernel_rfl) (by kernel_rfl) (by kernel_rfl) rfl (Src.fz (by decide) k.fz hs3) H ?_; intro f g W J X y z
 have L : Mem w.heap.size [] w Z [.own t8 5 f g (([] : List Int) ++ u0)] Z J := z
 refine s1 y 2 (.slice f (([] : List Int) ++ u0).length g) ?_; intro Y M
 apply q
 exact r_ (ra1 M (.slice f (([] : List Int) ++ u0).length g) ⟨([] : List Int) ++ u0, f, g, Z, rfl, I, L.kp⟩)

theorem iclone_walk (u0 : List Int) (ao1 : Option Addr) (cap2 : Nat) (Z : Fz) (w : World) (hs3 : SlR t6 Z ao1 cap2 u0) (hZ : Z.on w) {K : (List Int) → Prop} (hp : iclone_vc u0 K) : Calls Try.prog 21 #[.slice ao1 u0.length cap2] w fun e w' => ∃ (r : (List Int)) (ao1001 : Option Addr) (cap1002 : Nat) (Z' : Fz), e = .returned (.slice ao1001 r.length cap1002) ∧ K r ∧ Mem w.heap.size [] w Z [.own t6 3 ao1001 cap1002 r] Z' w' := by
 refine enter0 Try.func21 rfl rfl (by kernel_rfl) ?_; intro N l; have a := Mem.start w Z hZ
 have m := hp (hs3.small)
 refine sqB l a [] [] [] ?_; intro P n
 refine s_ (sqH ?_); intro A o
 refine s1 n 3 (.slice ao1 u0.length cap2) ?_; intro Q h
 obtain ⟨i, p⟩ : ∃ b, ao1.isNone = b := ⟨_, rfl⟩; have d := m i (by rw [← p]; exact hs3.isNone)
 refine u_ h (.bool i) (re_ (r := .ok (.value (.bool ao1.isNone)) w) (by cases ao1 <;> exact p0 h (by kernel_rfl)) (by rw [p])) ?_; intro R c
 apply o
 refine c_ c d (fun _ B => ?_) fun _ E => ?_
 ·
  refine sqB c a [] [] [(2, .slice none 0 0)] ?_; intro S C
  refine r_ (h_ ?_)
  have D : Mem w.heap.size [] w Z [.own t6 3 none 0 ([] : List Int)] Z w := a.addNil t6 3 (by decide)
  exact ra1 C (.slice none ([] : List Int).length 0) ⟨([] : List Int), none, 0, Z, rfl, B, D.kp⟩
 refine k_ (sqH ?_); intro F q
 refine nw c a (fun b => .slice (sm b) 0 0) [] 3 ?_; intro s U G u v
 refine s1 u 6 (.slice ao1 u0.length cap2) ?_; intro V x
 have k : Mem w.heap.size [] w Z [.own t6 3 (sm s) 0 ([] : List Int)] Z G := v.rowOwn (T := t6) (xs := ([] : List Int)) 0 rfl (by decide) (by show 0 ≤ lim; decide) (RepAll.nil _ _)
 obtain ⟨H, I⟩ := E
 refine ap x k 0 (T := t6) (xs := ([] : List Int)) (ys := u0) (ao := (sm s)) (cap := 0) (ao2 := ao1) (cap2 := cap2) (t := 35) (e := 3) (bytes := 8) (nog rfl _) rfl (by kernel_rfl) rfl (by kernel_rfl) (by kernel_rfl) (by kernel_rfl) rfl (Src.fz (by decide) k.fz hs3) H ?_; intro f g W J X y z
 have L : Mem w.heap.size [] w Z [.own t6 3 f g (([] : List Int) ++ u0)] Z J := z
 refine s1 y 2 (.slice f (([] : List Int) ++ u0).length g) ?_; intro Y M
 apply q
 exact r_ (ra1 M (.slice f (([] : List Int) ++ u0).length g) ⟨([] : List Int) ++ u0, f, g, Z, rfl, I, L.kp⟩)

theorem rclone_walk (u0 : List Route) (ao1 : Option Addr) (cap2 : Nat) (Z : Fz) (w : World) (hs3 : SlR tyRoute Z ao1 cap2 u0) (hZ : Z.on w) {K : (List Route) → Prop} (hp : rclone_vc u0 K) : Calls Try.prog 11 #[.slice ao1 u0.length cap2] w fun e w' => ∃ (r : (List Route)) (ao1001 : Option Addr) (cap1002 : Nat) (Z' : Fz), e = .returned (.slice ao1001 r.length cap1002) ∧ K r ∧ Mem w.heap.size [] w Z [.own tyRoute 29 ao1001 cap1002 r] Z' w' := by
 refine enter0 Try.func11 rfl rfl (by kernel_rfl) ?_; intro N l; have a := Mem.start w Z hZ
 have m := hp (hs3.small)
 refine sqB l a [] [] [] ?_; intro P n
 refine s_ (sqH ?_); intro A o
 refine s1 n 3 (.slice ao1 u0.length cap2) ?_; intro Q h
 obtain ⟨i, p⟩ : ∃ b, ao1.isNone = b := ⟨_, rfl⟩; have d := m i (by rw [← p]; exact hs3.isNone)
 refine u_ h (.bool i) (re_ (r := .ok (.value (.bool ao1.isNone)) w) (by cases ao1 <;> exact p0 h (by kernel_rfl)) (by rw [p])) ?_; intro R c
 apply o
 refine c_ c d (fun _ B => ?_) fun _ E => ?_
 ·
  refine sqB c a [] [] [(2, .slice none 0 0)] ?_; intro S C
  refine r_ (h_ ?_)
  have D : Mem w.heap.size [] w Z [.own tyRoute 29 none 0 ([] : List Route)] Z w := a.addNil tyRoute 29 (by decide)
  exact ra1 C (.slice none ([] : List Route).length 0) ⟨([] : List Route), none, 0, Z, rfl, B, D.kp⟩
 refine k_ (sqH ?_); intro F q
 refine nw c a (fun b => .slice (sm b) 0 0) [] 29 ?_; intro s U G u v
 refine s1 u 6 (.slice ao1 u0.length cap2) ?_; intro V x
 have k : Mem w.heap.size [] w Z [.own tyRoute 29 (sm s) 0 ([] : List Route)] Z G := v.rowOwn (T := tyRoute) (xs := ([] : List Route)) 0 rfl (by decide) (by show 0 ≤ lim; decide) (RepAll.nil _ _)
 obtain ⟨H, I⟩ := E
 refine ap x k 0 (T := tyRoute) (xs := ([] : List Route)) (ys := u0) (ao := (sm s)) (cap := 0) (ao2 := ao1) (cap2 := cap2) (t := 22) (e := 29) (bytes := 56) (nog rfl _) rfl (by kernel_rfl) rfl (by kernel_rfl) (by kernel_rfl) (by kernel_rfl) rfl (Src.fz (by decide) k.fz hs3) H ?_; intro f g W J X y z
 have L : Mem w.heap.size [] w Z [.own tyRoute 29 f g (([] : List Route) ++ u0)] Z J := z
 refine s1 y 2 (.slice f (([] : List Route) ++ u0).length g) ?_; intro Y M
 apply q
 exact r_ (ra1 M (.slice f (([] : List Route) ++ u0).length g) ⟨([] : List Route) ++ u0, f, g, Z, rfl, I, L.kp⟩)

theorem ieq_walk (u0 : List Int) (u1 : List Int) (ao1 : Option Addr) (cap2 : Nat) (ao4 : Option Addr) (cap5 : Nat) (Z : Fz) (w : World) (hs3 : SlR t6 Z ao1 cap2 u0) (hs6 : SlR t6 Z ao4 cap5 u1) (hZ : Z.on w) {K : Bool → Prop} (hp : ieq_vc u0 u1 K) : Calls Try.prog 39 #[.slice ao1 u0.length cap2, .slice ao4 u1.length cap5] w fun e w' => ∃ r : Bool, e = .returned (.bool r) ∧ K r ∧ Below w.heap.size w w' := by
 refine enter0 Try.func39 rfl rfl (by kernel_rfl) ?_; intro a0 y; have b := Mem.start w Z hZ
 have l := hp (hs3.small) (hs6.small)
 refine sqB y b [] [] [] ?_; intro aD A
 refine s_ (sqB A b [] [] [(10, .bool ((u0.length : Int) != (u1.length : Int)))] ?_); intro aE d
 refine c_ d l (fun _ W => ?_) fun _ Y => ?_
 ·
  refine sqB d b [] [] [(4, .bool false)] ?_; intro aF X
  exact r_ (h_ (ra1 X (.bool false) ⟨false, rfl, W, b.below⟩))
 refine k_ (s_ (sqB d b [] [] [(12, i6 (u0.length : Int)), (13, i6 0)] ?_)); intro B C
 apply b_
 have D : Fr 26 [] [⟨0, [], .slice ao1 u0.length cap2⟩, ⟨1, [], .slice ao4 u1.length cap5⟩, ⟨12, [], i6 (u0.length : Int)⟩, ⟨13, [], i6 0⟩] B := C.reg
 obtain ⟨aa, ab, ac, ad⟩ := Y
 refine lp (ι := Int) (fun s => [⟨0, [], .slice ao1 u0.length cap2⟩, ⟨1, [], .slice ao4 u1.length cap5⟩, ⟨12, [], i6 (u0.length : Int)⟩, ⟨13, [], i6 s⟩]) (fun s => []) (fun s => Z) (fun s => aa s) (fun s => ab s) 0 ac (by exact D.reg) (by exact b) ?_
 rintro a ae af ag F G
 have m := ad a ae
 refine sqB F G [] [] [(14, .bool (decide (a < (u0.length : Int))))] ?_; intro aG f
 refine s_ (c_ f m (fun _ ah => ?_) fun _ aA => ?_)
 ·
  refine k_ (s_ (b_ (sqB f G [] [] [(5, i6 a)] ?_))); intro ai I
  have J : Fr 26 [] [⟨0, [], .slice ao1 u0.length cap2⟩, ⟨1, [], .slice ao4 u1.length cap5⟩, ⟨5, [], i6 a⟩, ⟨12, [], i6 (u0.length : Int)⟩, ⟨13, [], i6 a⟩] ai := I.reg
  refine sqQH mixed (by kernel_rfl) G ?_; intro aj L
  refine q1 J 16 (.slice ao1 u0.length cap2) ?_; intro aH M
  refine q1 M 17 (i6 a) ?_; intro aI N
  obtain ⟨ak, O⟩ := ah
  refine qx_ N hs3 a ak .i64 3 8 ?_; intro aJ aK al h aL am an ao u
  have ap := O h am
  obtain rfl : al = ([i6 h] : List Value) := ao
  refine qz_ u an 0 (i6 h) rfl ?_; intro aM P
  refine q1 P 20 (.slice ao4 u1.length cap5) ?_; intro aN Q
  refine q1 Q 21 (i6 a) ?_; intro aO R
  obtain ⟨aq, S⟩ := ap
  refine qx_ R hs6 a aq .i64 3 8 ?_; intro aP aQ ar i aR au av aw v
  have n := S i au
  obtain rfl : ar = ([i6 i] : List Value) := aw
  refine qz_ v av 0 (i6 i) rfl ?_; intro aS U
  refine q1 U 24 (.bool (h != i)) ?_; intro aT j
  refine qnl (L _ ?_); intro aU o
  refine c_ j n (fun _ ax => ?_) fun _ V => ?_
  ·
   refine sqB j o [] [] [(4, .bool false)] ?_; intro aV ay
   exact r_ (i_ (h_ (h_ (i_ (h_ (ra1 ay (.bool false) ⟨false, rfl, ax, o.below⟩))))))
  refine l_ (j_ (t_ (rgB j o [] [] [(13, i6 (w64 (a + 1)))] ?_))); intro aW az
  exact d_ ⟨w64 (a + 1), V.1, V.2, (az.reg).anyβ _ (by kernel_rfl), o.kp⟩
 refine x_ (y_ (y_ (z_ (t_ (sqB f G [] [] [(4, .bool true)] ?_))))); intro aX aB
 exact r_ (ra1 aB (.bool true) ⟨true, rfl, aA, G.below⟩)

theorem req_walk (u0 : List Route) (u1 : List Route) (ao1 : Option Addr) (cap2 : Nat) (ao4 : Option Addr) (cap5 : Nat) (Z : Fz) (w : World) (hs3 : SlR tyRoute Z ao1 cap2 u0) (hs6 : SlR tyRoute Z ao4 cap5 u1) (hZ : Z.on w) {K : Bool → Prop} (hp : req_vc u0 u1 K) : Calls Try.prog 38 #[.slice ao1 u0.length cap2, .slice ao4 u1.length cap5] w fun e w' => ∃ r : Bool, e = .returned (.bool r) ∧ K r ∧ Below w.heap.size w w' := by
 refine enter0 Try.func38 rfl rfl (by kernel_rfl) ?_; intro a0 B; have f := Mem.start w Z hZ
 have n := hp (hs3.small) (hs6.small)
 refine sqB B f [] [] [] ?_; intro aG D
 refine s_ (sqB D f [] [] [(10, .bool ((u0.length : Int) != (u1.length : Int)))] ?_); intro aH i
 refine c_ i n (fun _ aa => ?_) fun _ ac => ?_
 ·
  refine sqB i f [] [] [(4, .bool false)] ?_; intro aI ab
  exact r_ (h_ (ra1 ab (.bool false) ⟨false, rfl, aa, f.below⟩))
 refine k_ (s_ (sqB i f [] [] [(12, i6 (u0.length : Int)), (13, i6 0)] ?_)); intro E G
 apply b_
 have H : Fr 26 [] [⟨0, [], .slice ao1 u0.length cap2⟩, ⟨1, [], .slice ao4 u1.length cap5⟩, ⟨12, [], i6 (u0.length : Int)⟩, ⟨13, [], i6 0⟩] E := G.reg
 obtain ⟨ad, ae, af, ag⟩ := ac
 refine lp (ι := Int) (fun s => [⟨0, [], .slice ao1 u0.length cap2⟩, ⟨1, [], .slice ao4 u1.length cap5⟩, ⟨12, [], i6 (u0.length : Int)⟩, ⟨13, [], i6 s⟩]) (fun s => []) (fun s => Z) (fun s => ad s) (fun s => ae s) 0 af (by exact H.reg) (by exact f) ?_
 rintro d ah ai aj J L
 have o := ag d ah
 refine sqB J L [] [] [(14, .bool (decide (d < (u0.length : Int))))] ?_; intro aJ j
 refine s_ (c_ j o (fun _ ak => ?_) fun _ aD => ?_)
 ·
  refine k_ (s_ (b_ (sqB j L [] [] [(5, i6 d)] ?_))); intro al N
  have O : Fr 26 [] [⟨0, [], .slice ao1 u0.length cap2⟩, ⟨1, [], .slice ao4 u1.length cap5⟩, ⟨5, [], i6 d⟩, ⟨12, [], i6 (u0.length : Int)⟩, ⟨13, [], i6 d⟩] al := N.reg
  refine sqQH mixed (by kernel_rfl) L ?_; intro am P
  refine q1 O 16 (.slice ao1 u0.length cap2) ?_; intro aK Q
  refine q1 Q 17 (i6 d) ?_; intro aL R
  obtain ⟨an, S⟩ := ak
  refine qx_ R hs3 d an .i64 29 56 ?_; intro aM aN ao a aO ap aq ar x
  have au := S a ap
  obtain rfl : ao = ((e29A a) : List Value) := ar
  refine qu_ x (.agg (e29A a).toArray) (fun v81 hC => lza x hC.fz aq 0 (g := []) (m := 7) (vs := (e29A a)) rfl (by kernel_rfl) (by kernel_rfl) (by kernel_rfl) (by kernel_rfl) rfl) ?_; intro aP U
  refine q1 U 20 (.slice ao4 u1.length cap5) ?_; intro aQ V
  refine q1 V 21 (i6 d) ?_; intro aR W
  obtain ⟨av, X⟩ := au
  refine qx_ W hs6 d av .i64 29 56 ?_; intro aS aT aw c aU ax ay az y
  have p := X c ax
  obtain rfl : aw = ((e29A c) : List Value) := az
  refine qu_ y (.agg (e29A c).toArray) (fun v103 hC => lza y hC.fz ay 0 (g := []) (m := 7) (vs := (e29A c)) rfl (by kernel_rfl) (by kernel_rfl) (by kernel_rfl) (by kernel_rfl) rfl) ?_; intro aV z
  refine qu_ z (.bool (!((a.From == c.From) && ((a.To == c.To) && (((a.F.Want == c.F.Want) && ((a.F.Mask == c.F.Mask) && ((a.F.Long == c.F.Long) && true))) && ((a.Add == c.Add) && ((a.Every == c.Every) && true))))))) (fun v106 hC => nes2_run z (g := []) (xs := (e29A a).toArray) (ys := (e29A c).toArray) (b := (a.From == c.From) && ((a.To == c.To) && (((a.F.Want == c.F.Want) && ((a.F.Mask == c.F.Mask) && ((a.F.Long == c.F.Long) && true))) && ((a.Add == c.Add) && ((a.Every == c.Every) && true))))) rfl (by kernel_rfl) (by kernel_rfl) (by kernel_rfl) (by kernel_rfl) rfl) ?_; intro aW l
  refine qnl (P _ ?_); intro aX q
  refine c_ l p (fun _ aA => ?_) fun _ Y => ?_
  ·
   refine sqB l q [] [] [(4, .bool false)] ?_; intro aY aB
   exact r_ (i_ (h_ (h_ (i_ (h_ (ra1 aB (.bool false) ⟨false, rfl, aA, q.below⟩))))))
  refine l_ (j_ (t_ (rgB l q [] [] [(13, i6 (w64 (d + 1)))] ?_))); intro aZ aC
  exact d_ ⟨w64 (d + 1), Y.1, Y.2, (aC.reg).anyβ _ (by kernel_rfl), q.kp⟩
 refine x_ (y_ (y_ (z_ (t_ (sqB j L [] [] [(4, .bool true)] ?_))))); intro a1 aE
 exact r_ (ra1 aE (.bool true) ⟨true, rfl, aD, L.below⟩)

theorem beq_walk (u0 : List Int) (u1 : List Int) (ao1 : Option Addr) (cap2 : Nat) (ao4 : Option Addr) (cap5 : Nat) (Z : Fz) (w : World) (hs3 : SlR t8 Z ao1 cap2 u0) (hs6 : SlR t8 Z ao4 cap5 u1) (hZ : Z.on w) {K : Bool → Prop} (hp : beq_vc u0 u1 K) : Calls Try.prog 35 #[.slice ao1 u0.length cap2, .slice ao4 u1.length cap5] w fun e w' => ∃ r : Bool, e = .returned (.bool r) ∧ K r ∧ Below w.heap.size w w' := by
 refine enter0 Try.func35 rfl rfl (by kernel_rfl) ?_; intro a0 y; have b := Mem.start w Z hZ
 have l := hp (hs3.small) (hs6.small)
 refine sqB y b [] [] [] ?_; intro aD A
 refine s_ (sqB A b [] [] [(10, .bool ((u0.length : Int) != (u1.length : Int)))] ?_); intro aE d
 refine c_ d l (fun _ W => ?_) fun _ Y => ?_
 ·
  refine sqB d b [] [] [(4, .bool false)] ?_; intro aF X
  exact r_ (h_ (ra1 X (.bool false) ⟨false, rfl, W, b.below⟩))
 refine k_ (s_ (sqB d b [] [] [(12, i6 (u0.length : Int)), (13, i6 0)] ?_)); intro B C
 apply b_
 have D : Fr 26 [] [⟨0, [], .slice ao1 u0.length cap2⟩, ⟨1, [], .slice ao4 u1.length cap5⟩, ⟨12, [], i6 (u0.length : Int)⟩, ⟨13, [], i6 0⟩] B := C.reg
 obtain ⟨aa, ab, ac, ad⟩ := Y
 refine lp (ι := Int) (fun s => [⟨0, [], .slice ao1 u0.length cap2⟩, ⟨1, [], .slice ao4 u1.length cap5⟩, ⟨12, [], i6 (u0.length : Int)⟩, ⟨13, [], i6 s⟩]) (fun s => []) (fun s => Z) (fun s => aa s) (fun s => ab s) 0 ac (by exact D.reg) (by exact b) ?_
 rintro a ae af ag F G
 have m := ad a ae
 refine sqB F G [] [] [(14, .bool (decide (a < (u0.length : Int))))] ?_; intro aG f
 refine s_ (c_ f m (fun _ ah => ?_) fun _ aA => ?_)
 ·
  refine k_ (s_ (b_ (sqB f G [] [] [(5, i6 a)] ?_))); intro ai I
  have J : Fr 26 [] [⟨0, [], .slice ao1 u0.length cap2⟩, ⟨1, [], .slice ao4 u1.length cap5⟩, ⟨5, [], i6 a⟩, ⟨12, [], i6 (u0.length : Int)⟩, ⟨13, [], i6 a⟩] ai := I.reg
  refine sqQH mixed (by kernel_rfl) G ?_; intro aj L
  refine q1 J 16 (.slice ao1 u0.length cap2) ?_; intro aH M
  refine q1 M 17 (i6 a) ?_; intro aI N
  obtain ⟨ak, O⟩ := ah
  refine qx_ N hs3 a ak .i64 5 1 ?_; intro aJ aK al h aL am an ao u
  have ap := O h am
  obtain rfl : al = ([y8 h] : List Value) := ao
  refine qz_ u an 0 (y8 h) rfl ?_; intro aM P
  refine q1 P 20 (.slice ao4 u1.length cap5) ?_; intro aN Q
  refine q1 Q 21 (i6 a) ?_; intro aO R
  obtain ⟨aq, S⟩ := ap
  refine qx_ R hs6 a aq .i64 5 1 ?_; intro aP aQ ar i aR au av aw v
  have n := S i au
  obtain rfl : ar = ([y8 i] : List Value) := aw
  refine qz_ v av 0 (y8 i) rfl ?_; intro aS U
  refine q1 U 24 (.bool (h != i)) ?_; intro aT j
  refine qnl (L _ ?_); intro aU o
  refine c_ j n (fun _ ax => ?_) fun _ V => ?_
  ·
   refine sqB j o [] [] [(4, .bool false)] ?_; intro aV ay
   exact r_ (i_ (h_ (h_ (i_ (h_ (ra1 ay (.bool false) ⟨false, rfl, ax, o.below⟩))))))
  refine l_ (j_ (t_ (rgB j o [] [] [(13, i6 (w64 (a + 1)))] ?_))); intro aW az
  exact d_ ⟨w64 (a + 1), V.1, V.2, (az.reg).anyβ _ (by kernel_rfl), o.kp⟩
 refine x_ (y_ (y_ (z_ (t_ (sqB f G [] [] [(4, .bool true)] ?_))))); intro aX aB
 exact r_ (ra1 aB (.bool true) ⟨true, rfl, aA, G.below⟩)

theorem kindex_walk (u0 : List Key) (u1 : Key) (ao1 : Option Addr) (cap2 : Nat) (Z : Fz) (w : World) (hs3 : SlR tyKey Z ao1 cap2 u0) (hZ : Z.on w) {K : Int → Prop} (hp : kindex_vc u0 u1 K) : Calls Try.prog 51 #[.slice ao1 u0.length cap2, .agg #[i6 u1.bus, i6 u1.id, .bool u1.long]] w fun e w' => ∃ r : Int, e = .returned (i6 r) ∧ K r ∧ Below w.heap.size w w' := by
 refine enter0 Try.func51 rfl rfl (by kernel_rfl) ?_; intro a0 y; have z := Mem.start w Z hZ
 have S := hp (hs3.small)
 refine sqH ?_; intro U A
 refine nw y z pb (e75A u1) 75 ?_; intro d a7 ar B o
 refine s1 B 4 (i6 0) ?_; intro au C
 apply A
 refine s_ (sqB C o [] [] [(7, i6 (u0.length : Int)), (8, i6 0)] ?_); intro D E
 apply b_
 have F : Fr 19 [] [⟨0, [], .slice ao1 u0.length cap2⟩, ⟨3, [], pt d 0⟩, ⟨7, [], i6 (u0.length : Int)⟩, ⟨8, [], i6 0⟩] D := E.reg
 obtain ⟨V, W, X, Y⟩ := S
 refine lp (ι := Int) (fun s => [⟨0, [], .slice ao1 u0.length cap2⟩, ⟨3, [], pt d 0⟩, ⟨7, [], i6 (u0.length : Int)⟩, ⟨8, [], i6 s⟩]) (fun s => [.row d (e75A u1) 75]) (fun s => Z) (fun s => V s) (fun s => W s) 0 X (by exact F.reg) (by exact o) ?_
 rintro c aa ab ac H I
 have j := Y c aa
 refine sqB H I [] [] [(9, .bool (decide (c < (u0.length : Int))))] ?_; intro av h
 refine s_ (c_ h j (fun _ ad => ?_) fun _ ao => ?_)
 ·
  refine k_ (s_ (b_ (sqB h I [] [] [(5, i6 c)] ?_))); intro ae L
  have q : Fr 19 [] [⟨0, [], .slice ao1 u0.length cap2⟩, ⟨3, [], pt d 0⟩, ⟨5, [], i6 c⟩, ⟨7, [], i6 (u0.length : Int)⟩, ⟨8, [], i6 c⟩] ae := L.reg
  refine sqQH mixed (by kernel_rfl) I ?_; intro af M
  refine qu_ q (.agg (e75A u1).toArray) (fun v46 hC => lda q hC 0 (g := []) (b := d) (off := 0) (k := 3) (cs := (e75A u1)) (vs := (e75A u1)) (ty := 75) rfl (by kernel_rfl) (by kernel_rfl) (by kernel_rfl) (by kernel_rfl) (by kernel_rfl) rfl) ?_; intro aw N
  refine q1 N 12 (.slice ao1 u0.length cap2) ?_; intro ax O
  refine q1 O 13 (i6 c) ?_; intro ay P
  obtain ⟨ag, Q⟩ := ad
  refine qx_ P hs3 c ag .i64 75 24 ?_; intro az aA ah a aB ai aj ak u
  have l := Q a ai
  obtain rfl : ah = ((e75A a) : List Value) := ak
  refine qu_ u (.agg (e75A a).toArray) (fun v68 hC => lza u hC.fz aj 0 (g := []) (m := 3) (vs := (e75A a)) rfl (by kernel_rfl) (by kernel_rfl) (by kernel_rfl) (by kernel_rfl) rfl) ?_; intro aC v
  refine qu_ v (.bool ((u1.bus == a.bus) && ((u1.id == a.id) && ((u1.long == a.long) && true)))) (fun v71 hC => eqs_run v (g := []) (xs := (e75A u1).toArray) (ys := (e75A a).toArray) (b := (u1.bus == a.bus) && ((u1.id == a.id) && ((u1.long == a.long) && true))) rfl (by kernel_rfl) (by kernel_rfl) (by kernel_rfl) (by kernel_rfl) rfl) ?_; intro aD i
  refine qnl (M _ ?_); intro aE n
  refine c_ i l (fun _ al => ?_) fun _ R => ?_
  ·
   refine sqB i n [] [] [(4, i6 c)] ?_; intro aF am
   exact r_ (i_ (h_ (h_ (i_ (h_ (ra1 am (i6 c) ⟨c, rfl, al, n.below⟩))))))
  refine l_ (j_ (t_ (rgB i n [] [] [(8, i6 (w64 (c + 1)))] ?_))); intro aG an
  exact d_ ⟨w64 (c + 1), R.1, R.2, (an.reg).anyβ _ (by kernel_rfl), n.kp⟩
 refine x_ (y_ (y_ (z_ (t_ (sqB h I [] [] [(4, i6 (-1))] ?_))))); intro aH ap
 exact r_ (ra1 ap (i6 (-1)) ⟨-1, rfl, ao, I.below⟩)

theorem kcontains_walk (u0 : List Key) (u1 : Key) (ao1 : Option Addr) (cap2 : Nat) (Z : Fz) (w : World) (hs3 : SlR tyKey Z ao1 cap2 u0) (hZ : Z.on w) {K : Bool → Prop} (hp : kcontains_vc u0 u1 K) : Calls Try.prog 29 #[.slice ao1 u0.length cap2, .agg #[i6 u1.bus, i6 u1.id, .bool u1.long]] w fun e w' => ∃ r : Bool, e = .returned (.bool r) ∧ K r ∧ Below w.heap.size w w' := by
 refine enter0 Try.func29 rfl rfl (by kernel_rfl) ?_; intro s c; have d := Mem.start w Z hZ
 have m := hp (hs3.small)
 refine sqH ?_; intro n f
 refine nw c d pb (e75A u1) 75 ?_; intro u v x g a
 refine s1 g 4 (.bool false) ?_; intro y h
 apply f
 refine sqH ?_; intro o i
 refine bt h a 2 [0] [] [(5, .slice ao1 u0.length cap2), (6, .agg (e75A u1).toArray)] ?_; intro z j
 refine ck j 51 #[.slice ao1 u0.length cap2, .agg (e75A u1).toArray] ?_
 refine (kindex_walk u0 u1 ao1 cap2 _ _ hs3 a.fz m).mono ?_; rintro _ A ⟨b, rfl, p, hb⟩; refine ⟨_, rfl, ?_⟩; intro B k; have l := a.call hb
 refine bt k l 2 [] [] [(4, .bool (decide (b ≥ 0)))] ?_; intro C q
 apply i
 exact r_ (ra1 q (.bool (decide (b ≥ 0))) ⟨decide (b ≥ 0), rfl, p, l.below⟩)

end Go.Proofs.Ytmkdnaecmombnaa
set_option linter.unusedVariables false
set_option linter.unusedSimpArgs false
set_option linter.defProp false
set_option maxRecDepth 100000
set_option maxHeartbeats 0
namespace Go.Proofs.Ytmkdnaecmombnaa
open Go.Sy Go.RowKit
abbrev e42B (X : Line) (A0 : Option Addr) (C0 : Nat) : List Value := [i6 X.Time, i6 X.Bus, i6 X.F.ID, .bool X.F.Long, .bool X.F.Fast, .bool X.F.Remote, i6 X.F.Size, .slice A0 X.F.Data.length C0]
abbrev e25B (X : Frame) (A0 : Option Addr) (C0 : Nat) : List Value := [i6 X.ID, .bool X.Long, .bool X.Fast, .bool X.Remote, i6 X.Size, .slice A0 X.Data.length C0]
abbrev e29B (X : Route) : List Value := [i6 X.From, i6 X.To, i6 X.F.Want, i6 X.F.Mask, .bool X.F.Long, i6 X.Add, i6 X.Every]
def scontains_fun (u0 : List Int) (u1 : Int) (ao1 : Option Addr) (cap2 : Nat) (Z : Fz) (w : World) (hs3 : SlR t6 Z ao1 cap2 u0) (hZ : Z.on w) := f_ (scontains_walk u0 u1 ao1 cap2 Z w hs3 hZ (scontains_ok u0 u1))
def fcheck_fun (u0 : List Filter) (ao1 : Option Addr) (cap2 : Nat) (Z : Fz) (w : World) (hs3 : SlR tyFilter Z ao1 cap2 u0) (hZ : Z.on w) := f_ (fcheck_walk u0 ao1 cap2 Z w hs3 hZ (fcheck_ok u0))
def rcheckf_fun (u0 : List Filter) (ao1 : Option Addr) (cap2 : Nat) (Z : Fz) (w : World) (hs3 : SlR tyFilter Z ao1 cap2 u0) (hZ : Z.on w) := f_ (rcheckf_walk u0 ao1 cap2 Z w hs3 hZ (rcheckf_ok u0))
def fcontf_fun (u0 : List Filter) (u1 : Filter → Bool) (ao1 : Option Addr) (cap2 : Nat) (fid4 : Nat) (caps5 : Array Value) (Z : Fz) (w : World) (hs3 : SlR tyFilter Z ao1 cap2 u0) (hf6 : ∀ (Z1 : Fz) (w1 : World), Z.le Z1 → Z1.on w1 → ∀ (x0 : Filter), Calls Try.prog fid4 (#[.agg #[i6 x0.Want, i6 x0.Mask, .bool x0.Long]] ++ caps5) w1 fun e w2 => e = .returned (.bool (u1 x0)) ∧ Below w1.heap.size w1 w2) (hg7 : ∀ x w, Sem.run Try.prog (callFunc fid4 x) w = .ok (.enter fid4 x) w) (hZ : Z.on w) := f_ (fcontf_walk u0 u1 ao1 cap2 fid4 caps5 Z w hs3 hf6 hg7 hZ (fcontf_ok u0 u1))
def bclone_fun (u0 : List Int) (hpre : u0.length ≤ 140737488355328) (ao1 : Option Addr) (cap2 : Nat) (Z : Fz) (w : World) (hs3 : SlR t8 Z ao1 cap2 u0) (hZ : Z.on w) := fc_ (bclone_walk u0 ao1 cap2 Z w hs3 hZ (bclone_ok u0 hpre))
def beq_fun (u0 : List Int) (u1 : List Int) (ao1 : Option Addr) (cap2 : Nat) (ao4 : Option Addr) (cap5 : Nat) (Z : Fz) (w : World) (hs3 : SlR t8 Z ao1 cap2 u0) (hs6 : SlR t8 Z ao4 cap5 u1) (hZ : Z.on w) := f_ (beq_walk u0 u1 ao1 cap2 ao4 cap5 Z w hs3 hs6 hZ (beq_ok u0 u1))
theorem fcheckfr_walk (u0 : Frame) (ao1 : Option Addr) (cap2 : Nat) (Z : Fz) (w : World) (hs3 : SlR t8 Z ao1 cap2 u0.Data) (hZ : Z.on w) {K : Int → Prop} (hp : fcheckfr_vc u0 K) : Calls Try.prog 27 #[.agg #[i6 u0.ID, .bool u0.Long, .bool u0.Fast, .bool u0.Remote, i6 u0.Size, .slice ao1 u0.Data.length cap2]] w fun e w' => ∃ r : Int, e = .returned (i6 r) ∧ K r ∧ Below w.heap.size w w' := by
 refine enter0 Try.func27 rfl rfl (by kernel_rfl) ?_; intro a0 C; have D := Mem.start w Z hZ
 have k := hp (hs3.small)
 refine sqH ?_; intro V E
 refine nw C D pb (e25B u0 ao1 cap2) 25 ?_; intro l a7 aq F a
 refine s1 F 2 (i6 0) ?_; intro ar G
 apply E
 refine s_ (b_ (sqB G a [0, 0, 0, 0] [] [(3, .bool (((decide (u0.ID < 0)) || ((!u0.Long) && (decide (u0.ID > 2047)))) || (decide (u0.ID > 536870911))))] ?_)); intro au c
 refine c_ c k (fun _ W => ?_) fun _ m => ?_
 ·
  refine sqB c a [] [] [(2, i6 3)] ?_; intro av X
  exact r_ (i_ (h_ (ra1 X (i6 3) ⟨3, rfl, W, a.below⟩)))
 refine sqB c a [0, 0, 0] [] [(22, .bool (u0.Remote && (u0.Fast || (decide ((u0.Data.length : Int) > 0)))))] ?_; intro aw d
 refine c_ d m (fun _ Y => ?_) fun _ n => ?_
 ·
  refine sqB d a [] [] [(2, i6 4)] ?_; intro ax aa
  exact r_ (i_ (h_ (ra1 aa (i6 4) ⟨4, rfl, Y, a.below⟩)))
 refine sqB d a [0, 0, 0, 0] [] [(35, .bool (((decide (u0.Size < 0)) || (decide (u0.Size > 8))) || ((!u0.Remote) && (u0.Size != 0))))] ?_; intro ay f
 refine c_ f n (fun _ ab => ?_) fun _ o => ?_
 ·
  refine sqB f a [] [] [(2, i6 3)] ?_; intro az ac
  exact r_ (i_ (h_ (ra1 ac (i6 3) ⟨3, rfl, ab, a.below⟩)))
 refine sqB f a [0, 0, 0] [] [(54, .bool ((decide ((u0.Data.length : Int) > 64)) || ((!u0.Fast) && (decide ((u0.Data.length : Int) > 8)))))] ?_; intro ad g
 refine c_ g o (fun _ ae => ?_) fun _ p => ?_
 ·
  refine sqB g a [] [] [(2, i6 2)] ?_; intro aA af
  exact r_ (i_ (h_ (ra1 af (i6 2) ⟨2, rfl, ae, a.below⟩)))
 have H : Fr 77 [] [⟨1, [], pt l 0⟩] ad := g.reg
 refine wp_seq (rgS mixed a [(1, true), (2, true), (3, true), (0, false), (4, false), (5, true), (6, true)] [] [0] [.row l (e25B u0 ao1 cap2) 25] ?_)
 intro ag I aB x
 have b := Fz.le.refl Z
 refine cS H 3 [0] [] [(74, i6 (u0.Data.length : Int))] ?_; intro aC J
 refine eS rfl ?_; intro ah L
 refine ck J 50 #[] ?_
 refine (fsizes_fun  _ _ x.fz).mono ?_; rintro _ M ⟨N, O, ai, rfl, hm⟩; refine ⟨_, rfl, ?_⟩; intro aD P; have Q := x.callZ hm; have y := hm.ext.le
 replace b := b.mono y
 have R : Mem w.heap.size [] w Z [.own t6 3 N O fsizes, .row l (e25B u0 ao1 cap2) 25] ai M := Q
 refine nl (qnI (L _ _ (R.cst b [1]) ?_))
 refine eS rfl ?_; intro aj S
 obtain ⟨ak, z, T, al⟩ := R.freeze 0 rfl
 replace b := b.mono z
 have A : Mem w.heap.size [] w Z [.row l (e25B u0 ao1 cap2) 25] ak M := T
 refine fc P A (scontains_fun fsizes (u0.Data.length : Int) N O _ _ al A.fz) ?_; intro aE aF U h
 refine nl (qnI (S _ _ (h.cst b [0]) ?_))
 refine cS U 2 [] [] [(70, .bool (!(scontainsS fsizes (u0.Data.length : Int))))] ?_; intro aG i
 refine nS (I _ _ ?_)
 refine t_ (c_ i p (fun _ am => ?_) fun _ ao => ?_)
 ·
  refine sqB i h [] [] [(2, i6 4)] ?_; intro aH an
  exact r_ (i_ (h_ (ra1 an (i6 4) ⟨4, rfl, am, h.below⟩)))
 refine l_ (j_ (t_ (sqB i h [] [] [(2, i6 0)] ?_))); intro aI ap
 exact r_ (ra1 ap (i6 0) ⟨0, rfl, ao, h.below⟩)
def fcheckfr_fun (u0 : Frame) (ao1 : Option Addr) (cap2 : Nat) (Z : Fz) (w : World) (hs3 : SlR t8 Z ao1 cap2 u0.Data) (hZ : Z.on w) := f_ (fcheckfr_walk u0 ao1 cap2 Z w hs3 hZ (fcheckfr_ok u0))
theorem rcheckfr_walk (u0 : Frame) (ao1 : Option Addr) (cap2 : Nat) (Z : Fz) (w : World) (hs3 : SlR t8 Z ao1 cap2 u0.Data) (hZ : Z.on w) {K : Int → Prop} (hp : rcheckfr_vc u0 K) : Calls Try.prog 18 #[.agg #[i6 u0.ID, .bool u0.Long, .bool u0.Fast, .bool u0.Remote, i6 u0.Size, .slice ao1 u0.Data.length cap2]] w fun e w' => ∃ r : Int, e = .returned (i6 r) ∧ K r ∧ Below w.heap.size w w' := by
 refine enter0 Try.func18 rfl rfl (by kernel_rfl) ?_; intro a0 ac; have ad := Mem.start w Z hZ
 have v := hp (hs3.small)
 refine sqH ?_; intro aL ae
 refine nw ac ad pb (e25B u0 ao1 cap2) 25 ?_; intro c a7 bq af a
 refine s1 af 2 (i6 0) ?_; intro br ag
 apply ae
 refine sqB ag a [] [] [(3, i6 2047)] ?_; intro bs ah
 refine s_ (sqB ah a [0] [] [(5, .bool u0.Long)] ?_); intro bt g
 refine c_ g v (fun _ x => ?_) fun _ C => ?_
 ·
  refine rgB g a [] [] [(3, i6 536870911)] ?_; intro bu ai
  refine t_ (s_ (sqB ai a [0, 0] [] [(14, .bool ((decide (u0.ID < 0)) || (decide (u0.ID > 536870911))))] ?_)); intro bv h
  refine c_ h x (fun _ aM => ?_) fun _ y => ?_
  ·
   refine sqB h a [] [] [(2, i6 3)] ?_; intro bw aN
   exact r_ (h_ (ra1 aN (i6 3) ⟨3, rfl, aM, a.below⟩))
  refine k_ (s_ (sqB h a [0, 0, 0] [] [(26, .bool (u0.Remote && (u0.Fast || ((u0.Data.length : Int) != 0))))] ?_)); intro bx i
  refine c_ i y (fun _ aO => ?_) fun _ z => ?_
  ·
   refine sqB i a [] [] [(2, i6 4)] ?_; intro bz aP
   exact r_ (h_ (ra1 aP (i6 4) ⟨4, rfl, aO, a.below⟩))
  refine k_ (s_ (sqB i a [0, 0, 0, 0] [] [(44, .bool (((decide (u0.Size < 0)) || (decide (u0.Size > 8))) || ((decide (u0.Size > 0)) && (!u0.Remote))))] ?_)); intro bA j
  refine c_ j z (fun _ aQ => ?_) fun _ A => ?_
  ·
   refine sqB j a [] [] [(2, i6 3)] ?_; intro bB aR
   exact r_ (h_ (ra1 aR (i6 3) ⟨3, rfl, aQ, a.below⟩))
  refine k_ (s_ (sqB j a [0, 0, 0] [] [(59, .bool ((decide ((u0.Data.length : Int) > 64)) || ((decide ((u0.Data.length : Int) > 8)) && (!u0.Fast))))] ?_)); intro aS k
  refine c_ k A (fun _ aT => ?_) fun _ B => ?_
  ·
   refine sqB k a [] [] [(2, i6 2)] ?_; intro bC aU
   exact r_ (h_ (ra1 aU (i6 2) ⟨2, rfl, aT, a.below⟩))
  refine k_ (s_ ?_)
  have aj : Fr 66 [] [⟨1, [], pt c 0⟩] aS := k.reg
  refine wp_seq (rgS mixed a [(1, true), (2, true), (3, true), (0, false), (4, false), (5, true)] [] [0] [.row c (e25B u0 ao1 cap2) 25] ?_)
  intro aV ak bD N
  have d := Fz.le.refl Z
  refine cS aj 3 [0] [] [(63, i6 (u0.Data.length : Int))] ?_; intro bE al
  refine eS rfl ?_; intro aW am
  refine ck al 41 #[] ?_
  refine (rsizes_fun  _ _ N.fz).mono ?_; rintro _ an ⟨ao, ap, aX, rfl, hm⟩; refine ⟨_, rfl, ?_⟩; intro bF aq; have ar := N.callZ hm; have O := hm.ext.le
  replace d := d.mono O
  have au : Mem w.heap.size [] w Z [.own t6 3 ao ap rsizes, .row c (e25B u0 ao1 cap2) 25] aX an := ar
  refine nl (qnI (am _ _ (au.cst d [1]) ?_))
  refine eS rfl ?_; intro aY av
  obtain ⟨aZ, P, aw, a1⟩ := au.freeze 0 rfl
  replace d := d.mono P
  have Q : Mem w.heap.size [] w Z [.row c (e25B u0 ao1 cap2) 25] aZ an := aw
  refine fc aq Q (scontains_fun rsizes (u0.Data.length : Int) ao ap _ _ a1 Q.fz) ?_; intro bG bH ax l
  refine nl (qnI (av _ _ (l.cst d [0]) ?_))
  refine cS ax 1 [] [] [(65, .bool (!(scontainsS rsizes (u0.Data.length : Int))))] ?_; intro bI m
  refine nS (ak _ _ ?_)
  refine t_ (c_ m B (fun _ a2 => ?_) fun _ a4 => ?_)
  ·
   refine sqB m l [] [] [(2, i6 4)] ?_; intro bJ a3
   exact r_ (h_ (ra1 a3 (i6 4) ⟨4, rfl, a2, l.below⟩))
  refine k_ (sqB m l [] [] [(2, i6 0)] ?_); intro bK a5
  exact r_ (ra1 a5 (i6 0) ⟨0, rfl, a4, l.below⟩)
 refine k_ (s_ (sqB g a [0, 0] [] [(14, .bool ((decide (u0.ID < 0)) || (decide (u0.ID > 2047))))] ?_)); intro bL n
 refine c_ n C (fun _ a6 => ?_) fun _ D => ?_
 ·
  refine sqB n a [] [] [(2, i6 3)] ?_; intro bM a8
  exact r_ (h_ (ra1 a8 (i6 3) ⟨3, rfl, a6, a.below⟩))
 refine k_ (s_ (sqB n a [0, 0, 0] [] [(26, .bool (u0.Remote && (u0.Fast || ((u0.Data.length : Int) != 0))))] ?_)); intro bN o
 refine c_ o D (fun _ a9 => ?_) fun _ E => ?_
 ·
  refine sqB o a [] [] [(2, i6 4)] ?_; intro bO ba
  exact r_ (h_ (ra1 ba (i6 4) ⟨4, rfl, a9, a.below⟩))
 refine k_ (s_ (sqB o a [0, 0, 0, 0] [] [(44, .bool (((decide (u0.Size < 0)) || (decide (u0.Size > 8))) || ((decide (u0.Size > 0)) && (!u0.Remote))))] ?_)); intro bP p
 refine c_ p E (fun _ bb => ?_) fun _ F => ?_
 ·
  refine sqB p a [] [] [(2, i6 3)] ?_; intro bQ bc
  exact r_ (h_ (ra1 bc (i6 3) ⟨3, rfl, bb, a.below⟩))
 refine k_ (s_ (sqB p a [0, 0, 0] [] [(59, .bool ((decide ((u0.Data.length : Int) > 64)) || ((decide ((u0.Data.length : Int) > 8)) && (!u0.Fast))))] ?_)); intro bd q
 refine c_ q F (fun _ be => ?_) fun _ G => ?_
 ·
  refine sqB q a [] [] [(2, i6 2)] ?_; intro bR bf
  exact r_ (h_ (ra1 bf (i6 2) ⟨2, rfl, be, a.below⟩))
 refine k_ (s_ ?_)
 have ay : Fr 66 [] [⟨1, [], pt c 0⟩] bd := q.reg
 refine wp_seq (rgS mixed a [(1, true), (2, true), (3, true), (0, false), (4, false), (5, true)] [] [0] [.row c (e25B u0 ao1 cap2) 25] ?_)
 intro bg az bS W
 have f := Fz.le.refl Z
 refine cS ay 3 [0] [] [(63, i6 (u0.Data.length : Int))] ?_; intro bT aA
 refine eS rfl ?_; intro bh aB
 refine ck aA 41 #[] ?_
 refine (rsizes_fun  _ _ W.fz).mono ?_; rintro _ aC ⟨aD, aE, bi, rfl, hm⟩; refine ⟨_, rfl, ?_⟩; intro bU aF; have aG := W.callZ hm; have X := hm.ext.le
 replace f := f.mono X
 have aH : Mem w.heap.size [] w Z [.own t6 3 aD aE rsizes, .row c (e25B u0 ao1 cap2) 25] bi aC := aG
 refine nl (qnI (aB _ _ (aH.cst f [1]) ?_))
 refine eS rfl ?_; intro bj aI
 obtain ⟨bk, Y, aJ, bl⟩ := aH.freeze 0 rfl
 replace f := f.mono Y
 have aa : Mem w.heap.size [] w Z [.row c (e25B u0 ao1 cap2) 25] bk aC := aJ
 refine fc aF aa (scontains_fun rsizes (u0.Data.length : Int) aD aE _ _ bl aa.fz) ?_; intro bV bW aK s
 refine nl (qnI (aI _ _ (s.cst f [0]) ?_))
 refine cS aK 1 [] [] [(65, .bool (!(scontainsS rsizes (u0.Data.length : Int))))] ?_; intro bX u
 refine nS (az _ _ ?_)
 refine t_ (c_ u G (fun _ bm => ?_) fun _ bo => ?_)
 ·
  refine sqB u s [] [] [(2, i6 4)] ?_; intro bY bn
  exact r_ (h_ (ra1 bn (i6 4) ⟨4, rfl, bm, s.below⟩))
 refine k_ (sqB u s [] [] [(2, i6 0)] ?_); intro bZ bp
 exact r_ (ra1 bp (i6 0) ⟨0, rfl, bo, s.below⟩)

theorem lets_walk (u0 : List Filter) (u1 : Frame) (ao1 : Option Addr) (cap2 : Nat) (ao4 : Option Addr) (cap5 : Nat) (Z : Fz) (w : World) (hs3 : SlR tyFilter Z ao1 cap2 u0) (hs6 : SlR t8 Z ao4 cap5 u1.Data) (hZ : Z.on w) {K : Bool → Prop} (hp : lets_vc u0 u1 K) : Calls Try.prog 52 #[.slice ao1 u0.length cap2, .agg #[i6 u1.ID, .bool u1.Long, .bool u1.Fast, .bool u1.Remote, i6 u1.Size, .slice ao4 u1.Data.length cap5]] w fun e w' => ∃ r : Bool, e = .returned (.bool r) ∧ K r ∧ Below w.heap.size w w' := by
 refine enter0 Try.func52 rfl rfl (by kernel_rfl) ?_; intro A d; have f := Mem.start w Z hZ
 have q := hp (hs3.small) (hs6.small)
 refine sqH ?_; intro s i
 refine nw d f pb (e25B u1 ao4 cap5) 25 ?_; intro a B t j k
 refine s1 j 4 (.bool false) ?_; intro C l
 apply i
 refine sqH ?_; intro u m
 refine bt l k 2 [] [] [(5, .slice ao1 u0.length cap2), (6, .func (.func 72) #[] #[pt a 0])] ?_; intro D n
 obtain ⟨v, b, o, x⟩ := k.freezeRow 0 rfl
 replace hs3 := hs3.mono b
 replace hs6 := hs6.mono b
 have c : Mem w.heap.size [] w Z [] v t := o
 refine fc n c (fcontf_fun u0 (fun x0 => lets1 x0 u1) ao1 cap2 72 #[pt a 0] _ _ hs3 (fun Z1 w1 h1 h2 x0 => lets1_fun x0 u1 a 0 ao4 cap5 Z1 w1 (x.mono h1) (SlR.mono hs6 h1) h2) (fun _ _ => by kernel_rfl) c.fz) ?_; intro E F p y
 refine s1 p 4 (.bool (fcontfS u0 (fun x0 => lets1 x0 u1))) ?_; intro G z
 apply m
 exact r_ (ra1 z (.bool (fcontfS u0 (fun x0 => lets1 x0 u1))) ⟨(fcontfS u0 (fun x0 => lets1 x0 u1)), rfl, q, y.below⟩)
def lets_fun (u0 : List Filter) (u1 : Frame) (ao1 : Option Addr) (cap2 : Nat) (ao4 : Option Addr) (cap5 : Nat) (Z : Fz) (w : World) (hs3 : SlR tyFilter Z ao1 cap2 u0) (hs6 : SlR t8 Z ao4 cap5 u1.Data) (hZ : Z.on w) := f_ (lets_walk u0 u1 ao1 cap2 ao4 cap5 Z w hs3 hs6 hZ (lets_ok u0 u1))
theorem fcopy_walk (u0 : Frame) (ao1 : Option Addr) (cap2 : Nat) (Z : Fz) (w : World) (hs3 : SlR t8 Z ao1 cap2 u0.Data) (hZ : Z.on w) {K : Frame → Prop} (hp : fcopy_vc u0 K) : Calls Try.prog 31 #[.agg #[i6 u0.ID, .bool u0.Long, .bool u0.Fast, .bool u0.Remote, i6 u0.Size, .slice ao1 u0.Data.length cap2]] w fun e w' => ∃ (r : Frame) (ao1001 : Option Addr) (cap1002 : Nat) (Z' : Fz), e = .returned (.agg #[i6 r.ID, .bool r.Long, .bool r.Fast, .bool r.Remote, i6 r.Size, .slice ao1001 r.Data.length cap1002]) ∧ K r ∧ SlR t8 Z' ao1001 cap1002 r.Data ∧ Mem w.heap.size [] w Z [] Z' w' := by
 refine enter0 Try.func31 rfl rfl (by kernel_rfl) ?_; intro W o; have p := Mem.start w Z hZ
 have M := hp (hs3.small)
 refine sqH ?_; intro N q
 refine nw o p pb (e25B u0 ao1 cap2) 25 ?_; intro f X Y s t
 refine nw s t pb [i6 0, .bool false, .bool false, .bool false, i6 0, .slice none 0 0] 25 ?_; intro d aa ab u h
 apply q
 refine sqH ?_; intro O x
 refine bt u h 2 [1] [] [(4, .slice ao1 u0.Data.length cap2)] ?_; intro ac y
 obtain ⟨P, z⟩ := M
 refine ck y 53 #[.slice ao1 u0.Data.length cap2] ?_
 refine (bclone_fun u0.Data P ao1 cap2 _ _ hs3 h.fz).mono ?_; rintro _ Q ⟨a, c, i, rfl, hm⟩; refine ⟨_, rfl, ?_⟩; intro ae A; have B := h.callZ hm
 have j : Mem w.heap.size [] w Z [.own t8 5 a c (bcloneS u0.Data), .row d [i6 0, .bool false, .bool false, .bool false, i6 0, .slice none 0 0] 25, .row f (e25B u0 ao1 cap2) 25] i Q := B
 have R := z (j.ownSmall 0 rfl)
 refine s1 A 6 (pt f 5) ?_; intro af l
 refine sx l j 2 [i6 u0.ID, .bool u0.Long, .bool u0.Fast, .bool u0.Remote, i6 u0.Size, .slice a (bcloneS u0.Data).length c] 5 ?_; intro S D
 have m : Mem w.heap.size [] w Z [.own t8 5 a c (bcloneS u0.Data), .row d [i6 0, .bool false, .bool false, .bool false, i6 0, .slice none 0 0] 25, .row f [i6 u0.ID, .bool u0.Long, .bool u0.Fast, .bool u0.Remote, i6 u0.Size, .slice a (bcloneS u0.Data).length c] 25] i S := D
 apply x
 refine sqH ?_; intro T E
 refine l2 l m 7 2 0 6 [i6 u0.ID, .bool u0.Long, .bool u0.Fast, .bool u0.Remote, i6 u0.Size, .slice a (bcloneS u0.Data).length c] rfl rfl ?_; intro ag n
 refine sx n m 1 [i6 u0.ID, .bool u0.Long, .bool u0.Fast, .bool u0.Remote, i6 u0.Size, .slice a (bcloneS u0.Data).length c] 0 ?_; intro F G
 have U : Mem w.heap.size [] w Z [.own t8 5 a c (bcloneS u0.Data), .row d [i6 u0.ID, .bool u0.Long, .bool u0.Fast, .bool u0.Remote, i6 u0.Size, .slice a (bcloneS u0.Data).length c] 25, .row f [i6 u0.ID, .bool u0.Long, .bool u0.Fast, .bool u0.Remote, i6 u0.Size, .slice a (bcloneS u0.Data).length c] 25] i F := G
 apply E
 apply r_
 obtain ⟨H, I, J, V⟩ := U.freeze 0 rfl
 have L : Mem w.heap.size [] w Z [.row d [i6 u0.ID, .bool u0.Long, .bool u0.Fast, .bool u0.Remote, i6 u0.Size, .slice a (bcloneS u0.Data).length c] 25, .row f [i6 u0.ID, .bool u0.Long, .bool u0.Fast, .bool u0.Remote, i6 u0.Size, .slice a (bcloneS u0.Data).length c] 25] H F := J
 refine rt (fn := Try.f31) (v := .agg #[i6 u0.ID, .bool u0.Long, .bool u0.Fast, .bool u0.Remote, i6 u0.Size, .slice a (bcloneS u0.Data).length c]) n (re1c n (fn := Try.f31) rfl (ad := ⟨d, 0, none⟩) (by kernel_rfl) (loadVar_run L 0 (b := d) (k := 6) (vs := [i6 u0.ID, .bool u0.Long, .bool u0.Fast, .bool u0.Remote, i6 u0.Size, .slice a (bcloneS u0.Data).length c]) (ty := 25) rfl (by kernel_rfl) (by kernel_rfl)) ) ?_
 exact ⟨(⟨u0.ID, u0.Long, u0.Fast, u0.Remote, u0.Size, (bcloneS u0.Data)⟩ : Frame), a, c, H, rfl, R, V, L.kp⟩

theorem gcheck_walk (u0 : Gate) (ao1 : Option Addr) (cap2 : Nat) (ao4 : Option Addr) (cap5 : Nat) (Z : Fz) (w : World) (hs3 : SlR tyRoute Z ao1 cap2 u0.Routes) (hs6 : SlR t6 Z ao4 cap5 u0.Last) (hZ : Z.on w) {K : Int → Prop} (hp : gcheck_vc u0 K) : Calls Try.prog 16 #[.agg #[.slice ao1 u0.Routes.length cap2, .slice ao4 u0.Last.length cap5]] w fun e w' => ∃ r : Int, e = .returned (i6 r) ∧ K r ∧ Below w.heap.size w w' := by
 refine enter0 Try.func16 rfl rfl (by kernel_rfl) ?_; intro a0 ar; have au := Mem.start w Z hZ
 have I := hp (hs3.small) (hs6.small)
 refine sqH ?_; intro bb aw
 refine nw ar au pb [.slice ao1 u0.Routes.length cap2, .slice ao4 u0.Last.length cap5] 37 ?_; intro i bX bY ax j
 refine s1 ax 2 (i6 0) ?_; intro bZ ay
 apply aw
 refine s_ (sqB ay j [0] [] [(9, .bool (decide ((u0.Routes.length : Int) > 20)))] ?_); intro b0 y
 refine c_ y I (fun _ bc => ?_) fun _ J => ?_
 ·
  refine sqB y j [] [] [(2, i6 2)] ?_; intro b1 bd
  exact r_ (h_ (ra1 bd (i6 2) ⟨2, rfl, bc, j.below⟩))
 refine k_ (s_ (sqB y j [0, 0] [] [(16, .bool ((u0.Last.length : Int) != (u0.Routes.length : Int)))] ?_)); intro b2 z
 refine c_ z J (fun _ be => ?_) fun _ bg => ?_
 ·
  refine sqB z j [] [] [(2, i6 4)] ?_; intro b3 bf
  exact r_ (h_ (ra1 bf (i6 4) ⟨4, rfl, be, j.below⟩))
 refine k_ (s_ (sqB z j [0] [] [(18, .slice ao1 u0.Routes.length cap2), (19, i6 (u0.Routes.length : Int)), (20, i6 0)] ?_)); intro az aA
 apply b_
 have aB : Fr 92 [] [⟨1, [], pt i 0⟩, ⟨18, [], .slice ao1 u0.Routes.length cap2⟩, ⟨19, [], i6 (u0.Routes.length : Int)⟩, ⟨20, [], i6 0⟩] az := aA.reg
 obtain ⟨bh, bi, bj, bk⟩ := bg
 refine lp (ι := Int × Fz) (fun s => [⟨1, [], pt i 0⟩, ⟨18, [], .slice ao1 u0.Routes.length cap2⟩, ⟨19, [], i6 (u0.Routes.length : Int)⟩, ⟨20, [], i6 s.1⟩]) (fun s => [.row i [.slice ao1 u0.Routes.length cap2, .slice ao4 u0.Last.length cap5] 37]) (fun s => s.2) (fun s => bh s.1 ∧ Fz.le Z s.2) (fun s => bi s.1) ⟨0, Z⟩ ⟨bj, Fz.le.refl _⟩ (by exact aB.reg) (by exact j) ?_
 rintro ⟨h, aa⟩ ⟨bl, o⟩ bm bn aD aE
 have L := bk h bl
 have ab := hs3.mono o
 have M := hs6.mono o
 refine sqB aD aE [] [] [(21, .bool (decide (h < (u0.Routes.length : Int))))] ?_; intro b5 A
 refine s_ (c_ A L (fun _ bo => ?_) fun _ bV => ?_)
 ·
  refine k_ (s_ (b_ (sqH ?_))); intro bp aG
  refine s1 A 22 (i6 h) ?_; intro b6 aH
  obtain ⟨bq, aI⟩ := bo
  refine ix_ aH ab h bq .i64 29 56 ?_; intro b7 b8 br a b9 bs ad bu aJ
  have N := aI a bs
  obtain rfl : br = ((e29B a) : List Value) := bu
  refine z2 aJ aE 24 ad 0 7 (e29B a) rfl ?_; intro ca aK
  refine nw aK aE pb [i6 0, i6 0, i6 0, i6 0, .bool false, i6 0, i6 0] 29 ?_; intro ae cb cc aL aM
  refine s1 aL 3 (i6 h) ?_; intro ce af
  refine sx af aM 0 (e29B a) 0 ?_; intro bv aN
  have f : Mem w.heap.size [] w Z [.row ae (e29B a) 29, .row i [.slice ao1 u0.Routes.length cap2, .slice ao4 u0.Last.length cap5] 37] aa bv := aN
  apply aG
  refine s_ (sqH ?_); intro ag q
  refine bt af f 36 [0, 0, 0, 0, 0, 0, 0, 0] [] [(60, .bool (((((((decide (a.From < 0)) || (decide (a.From ≥ 4))) || (decide (a.To < 0))) || (decide (a.To ≥ 4))) || (a.From == a.To)) || (decide (a.Every < 0))) || (decide (a.Every > 1000000))))] ?_; intro cf O
  refine e_ N (fun B bw => ?_) fun B bz => ?_
  ·
   have aO := O.reval (d := 60) (c := []) (v := .bool (((((((decide (a.From < 0)) || (decide (a.From ≥ 4))) || (decide (a.To < 0))) || (decide (a.To ≥ 4))) || (a.From == a.To)) || (decide (a.Every < 0))) || (decide (a.Every > 1000000)))) (by kernel_rfl) (.bool true) (by rw [B])
   refine bt aO f 15 [] [61, 62, 63, 64, 65, 66, 67, 69, 70, 71, 72, 73, 74, 75] [(75, .bool true)] ?_; intro cg ah
   apply q
   refine cdT ah (by kernel_rfl) ?_
   refine sqB ah f [] [] [(2, i6 3)] ?_; intro ch bx
   exact r_ (h_ (i_ (h_ (h_ (i_ (h_ (ra1 bx (i6 3) ⟨3, rfl, bw, f.below⟩)))))))
  have aP := O.reval (d := 60) (c := []) (v := .bool (((((((decide (a.From < 0)) || (decide (a.From ≥ 4))) || (decide (a.To < 0))) || (decide (a.To ≥ 4))) || (a.From == a.To)) || (decide (a.Every < 0))) || (decide (a.Every > 1000000)))) (by kernel_rfl) (.bool false) (by rw [B])
  refine bt aP f 3 [1] [61, 62, 63] [(62, .slice ao4 u0.Last.length cap5), (63, i6 h)] ?_; intro ci ai
  obtain ⟨bA, aQ⟩ := bz
  refine ix ai (T := t6) (xs := u0.Last) M h bA (k := .i64) (e := 3) (bytes := 8) (wK ai false) rfl (by kernel_rfl) rfl (by kernel_rfl) (by kernel_rfl) (by kernel_rfl) ?_; intro cj ck bB m cl bC aj bD P
  have Q := aQ m bC
  obtain rfl : bB = ([i6 m] : List Value) := bD
  refine v_ P (i6 m) (wK P false) (lz P f.fz aj 0 (g := []) rfl (by kernel_rfl) (by kernel_rfl) (by kernel_rfl) rfl) ?_; intro cm aR
  refine bt aR f 3 [] [66, 67] [(68, .bool (decide (m < (-1))))] ?_; intro cn R
  refine e_ Q (fun C bE => ?_) fun C bG => ?_
  ·
   have aS := R.reval (d := 68) (c := []) (v := .bool (decide (m < (-1)))) (by kernel_rfl) (.bool true) (by rw [C])
   refine bt aS f 7 [] [69, 70, 71, 72, 73, 74, 75] [(75, .bool true)] ?_; intro co ak
   apply q
   refine cdT ak (by kernel_rfl) ?_
   refine sqB ak f [] [] [(2, i6 3)] ?_; intro cp bF
   exact r_ (h_ (i_ (h_ (h_ (i_ (h_ (ra1 bF (i6 3) ⟨3, rfl, bE, f.below⟩)))))))
  have aT := R.reval (d := 68) (c := []) (v := .bool (decide (m < (-1)))) (by kernel_rfl) (.bool false) (by rw [C])
  refine bt aT f 3 [1] [69, 70, 71] [(70, .slice ao4 u0.Last.length cap5), (71, i6 h)] ?_; intro cq al
  obtain ⟨bH, aU⟩ := bG
  refine ix al (T := t6) (xs := u0.Last) M h bH (k := .i64) (e := 3) (bytes := 8) (wK al false) rfl (by kernel_rfl) rfl (by kernel_rfl) (by kernel_rfl) (by kernel_rfl) ?_; intro cr cs bI D ct bJ am bK S
  have U := aU D bJ
  obtain rfl : bI = ([i6 D] : List Value) := bK
  refine v_ S (i6 D) (wK S false) (lz S f.fz am 0 (g := []) rfl (by kernel_rfl) (by kernel_rfl) (by kernel_rfl) rfl) ?_; intro cu aV
  refine bt aV f 2 [] [74, 75] [(75, .bool (decide (D > 1000000)))] ?_; intro cv E
  apply q
  refine c_ E U (fun _ bL => ?_) fun _ V => ?_
  ·
   refine sqB E f [] [] [(2, i6 3)] ?_; intro cw bM
   exact r_ (h_ (i_ (h_ (h_ (i_ (h_ (ra1 bM (i6 3) ⟨3, rfl, bL, f.below⟩)))))))
  refine k_ (s_ (sqH ?_)); intro bN aW
  refine bt E f 2 [0] [] [(77, .agg #[i6 a.F.Want, i6 a.F.Mask, .bool a.F.Long])] ?_; intro cx aX
  refine nw aX f (fun b => .slice (sm b) 1 1) [i6 a.F.Want, i6 a.F.Mask, .bool a.F.Long] 27 ?_; intro aY cy aZ a1 a2
  have bO : Mem w.heap.size [] w Z [.own tyFilter 27 (sm aY) 1 ([a.F] : List Filter), .row ae (e29B a) 29, .row i [.slice ao1 u0.Routes.length cap2, .slice ao4 u0.Last.length cap5] 37] aa aZ := a2.rowOwn (T := tyFilter) (xs := ([a.F] : List Filter)) 0 rfl (by decide) (by show 1 ≤ lim; decide) (RepAll.one (T := tyFilter) (x := a.F) rfl)
  obtain ⟨a3, n, a4, bP⟩ := bO.freeze 0 rfl
  replace o := o.mono n
  have ao : Mem w.heap.size [] w Z [.row ae (e29B a) 29, .row i [.slice ao1 u0.Routes.length cap2, .slice ao4 u0.Last.length cap5] 37] a3 aZ := a4
  refine fc a1 ao (fcheck_fun ([a.F] : List Filter) (sm aY) 1 _ _ bP ao.fz) ?_; intro cz cA a5 l
  refine s1 a5 5 (i6 (fcheckS ([a.F] : List Filter))) ?_; intro cB a6
  apply aW
  refine sqB a6 l [] [] [(81, .bool ((fcheckS ([a.F] : List Filter)) != 0))] ?_; intro cC G
  refine c_ G V (fun _ bQ => ?_) fun _ W => ?_
  ·
   refine sqB G l [] [] [(2, i6 (fcheckS ([a.F] : List Filter)))] ?_; intro cD bR
   exact r_ (h_ (i_ (h_ (h_ (i_ (h_ (ra1 bR (i6 (fcheckS ([a.F] : List Filter))) ⟨(fcheckS ([a.F] : List Filter)), rfl, bQ, l.below⟩)))))))
  refine k_ (sqB G l [0, 0] [] [(90, .bool ((decide (a.Add < (-536870911))) || (decide (a.Add > 536870911))))] ?_); intro a7 H
  refine c_ H W (fun _ bS => ?_) fun _ a9 => ?_
  ·
   have a8 : Fr 92 [] [] a7 := H.reg
   refine sqB a8 l [] [] [(2, i6 3)] ?_; intro cE bT
   exact r_ (i_ (h_ (h_ (i_ (h_ (ra1 bT (i6 3) ⟨3, rfl, bS, l.below⟩))))))
  refine l_ (j_ (t_ ?_))
  have ba : Fr 92 [] [⟨1, [], pt i 0⟩, ⟨18, [], .slice ao1 u0.Routes.length cap2⟩, ⟨19, [], i6 (u0.Routes.length : Int)⟩, ⟨20, [], i6 h⟩] a7 := H.reg
  refine rgB ba l [] [] [(20, i6 (w64 (h + 1)))] ?_; intro cF bU
  exact d_ ⟨⟨w64 (h + 1), a3⟩, ⟨a9.1, o⟩, a9.2, (bU.reg).anyβ _ (by kernel_rfl), l.kp⟩
 refine x_ (y_ (y_ (z_ (t_ (sqB A aE [] [] [(2, i6 0)] ?_))))); intro cG bW
 exact r_ (ra1 bW (i6 0) ⟨0, rfl, bV, aE.below⟩)

theorem rcheckg_walk (u0 : Gate) (ao1 : Option Addr) (cap2 : Nat) (ao4 : Option Addr) (cap5 : Nat) (Z : Fz) (w : World) (hs3 : SlR tyRoute Z ao1 cap2 u0.Routes) (hs6 : SlR t6 Z ao4 cap5 u0.Last) (hZ : Z.on w) {K : Int → Prop} (hp : rcheckg_vc u0 K) : Calls Try.prog 15 #[.agg #[.slice ao1 u0.Routes.length cap2, .slice ao4 u0.Last.length cap5]] w fun e w' => ∃ r : Int, e = .returned (i6 r) ∧ K r ∧ Below w.heap.size w w' := by
 refine enter0 Try.func15 rfl rfl (by kernel_rfl) ?_; intro a0 ar; have au := Mem.start w Z hZ
 have I := hp (hs3.small) (hs6.small)
 refine sqH ?_; intro bb aw
 refine nw ar au pb [.slice ao1 u0.Routes.length cap2, .slice ao4 u0.Last.length cap5] 37 ?_; intro i bX bY ax j
 refine s1 ax 2 (i6 0) ?_; intro bZ ay
 apply aw
 refine s_ (sqB ay j [0] [] [(9, .bool (decide ((u0.Routes.length : Int) > 20)))] ?_); intro b0 y
 refine c_ y I (fun _ bc => ?_) fun _ J => ?_
 ·
  refine sqB y j [] [] [(2, i6 2)] ?_; intro b1 bd
  exact r_ (h_ (ra1 bd (i6 2) ⟨2, rfl, bc, j.below⟩))
 refine k_ (s_ (sqB y j [0, 0] [] [(16, .bool ((u0.Last.length : Int) != (u0.Routes.length : Int)))] ?_)); intro b2 z
 refine c_ z J (fun _ be => ?_) fun _ bg => ?_
 ·
  refine sqB z j [] [] [(2, i6 4)] ?_; intro b3 bf
  exact r_ (h_ (ra1 bf (i6 4) ⟨4, rfl, be, j.below⟩))
 refine k_ (s_ (sqB z j [0] [] [(18, .slice ao1 u0.Routes.length cap2), (19, i6 (u0.Routes.length : Int)), (20, i6 0)] ?_)); intro az aA
 apply b_
 have aB : Fr 88 [] [⟨1, [], pt i 0⟩, ⟨18, [], .slice ao1 u0.Routes.length cap2⟩, ⟨19, [], i6 (u0.Routes.length : Int)⟩, ⟨20, [], i6 0⟩] az := aA.reg
 obtain ⟨bh, bi, bj, bk⟩ := bg
 refine lp (ι := Int × Fz) (fun s => [⟨1, [], pt i 0⟩, ⟨18, [], .slice ao1 u0.Routes.length cap2⟩, ⟨19, [], i6 (u0.Routes.length : Int)⟩, ⟨20, [], i6 s.1⟩]) (fun s => [.row i [.slice ao1 u0.Routes.length cap2, .slice ao4 u0.Last.length cap5] 37]) (fun s => s.2) (fun s => bh s.1 ∧ Fz.le Z s.2) (fun s => bi s.1) ⟨0, Z⟩ ⟨bj, Fz.le.refl _⟩ (by exact aB.reg) (by exact j) ?_
 rintro ⟨h, aa⟩ ⟨bl, o⟩ bm bn aD aE
 have L := bk h bl
 have ab := hs3.mono o
 have M := hs6.mono o
 refine sqB aD aE [] [] [(21, .bool (decide (h < (u0.Routes.length : Int))))] ?_; intro b5 A
 refine s_ (c_ A L (fun _ bo => ?_) fun _ bV => ?_)
 ·
  refine k_ (s_ (b_ (sqH ?_))); intro bp aG
  refine s1 A 22 (i6 h) ?_; intro b6 aH
  obtain ⟨bq, aI⟩ := bo
  refine ix_ aH ab h bq .i64 29 56 ?_; intro b7 b8 br a b9 bs ad bu aJ
  have N := aI a bs
  obtain rfl : br = ((e29B a) : List Value) := bu
  refine z2 aJ aE 24 ad 0 7 (e29B a) rfl ?_; intro ca aK
  refine nw aK aE pb [i6 0, i6 0, i6 0, i6 0, .bool false, i6 0, i6 0] 29 ?_; intro ae cb cc aL aM
  refine s1 aL 3 (i6 h) ?_; intro ce af
  refine sx af aM 0 (e29B a) 0 ?_; intro bv aN
  have f : Mem w.heap.size [] w Z [.row ae (e29B a) 29, .row i [.slice ao1 u0.Routes.length cap2, .slice ao4 u0.Last.length cap5] 37] aa bv := aN
  apply aG
  refine s_ (sqH ?_); intro ag q
  refine bt af f 32 [0, 0, 0, 0, 0, 0, 0, 0] [] [(56, .bool (((((decide ((min a.From a.To) < 0)) || (decide ((max a.From a.To) > 3))) || (a.From == a.To)) || (decide (a.Every < 0))) || (decide (a.Every > 1000000))))] ?_; intro cf O
  refine e_ N (fun B bw => ?_) fun B bz => ?_
  ·
   have aO := O.reval (d := 56) (c := []) (v := .bool (((((decide ((min a.From a.To) < 0)) || (decide ((max a.From a.To) > 3))) || (a.From == a.To)) || (decide (a.Every < 0))) || (decide (a.Every > 1000000)))) (by kernel_rfl) (.bool true) (by rw [B])
   refine bt aO f 15 [] [57, 58, 59, 60, 61, 62, 63, 65, 66, 67, 68, 69, 70, 71] [(71, .bool true)] ?_; intro cg ah
   apply q
   refine cdT ah (by kernel_rfl) ?_
   refine sqB ah f [] [] [(2, i6 3)] ?_; intro ch bx
   exact r_ (h_ (i_ (h_ (h_ (i_ (h_ (ra1 bx (i6 3) ⟨3, rfl, bw, f.below⟩)))))))
  have aP := O.reval (d := 56) (c := []) (v := .bool (((((decide ((min a.From a.To) < 0)) || (decide ((max a.From a.To) > 3))) || (a.From == a.To)) || (decide (a.Every < 0))) || (decide (a.Every > 1000000)))) (by kernel_rfl) (.bool false) (by rw [B])
  refine bt aP f 3 [1] [57, 58, 59] [(58, .slice ao4 u0.Last.length cap5), (59, i6 h)] ?_; intro ci ai
  obtain ⟨bA, aQ⟩ := bz
  refine ix ai (T := t6) (xs := u0.Last) M h bA (k := .i64) (e := 3) (bytes := 8) (wK ai false) rfl (by kernel_rfl) rfl (by kernel_rfl) (by kernel_rfl) (by kernel_rfl) ?_; intro cj ck bB m cl bC aj bD P
  have Q := aQ m bC
  obtain rfl : bB = ([i6 m] : List Value) := bD
  refine v_ P (i6 m) (wK P false) (lz P f.fz aj 0 (g := []) rfl (by kernel_rfl) (by kernel_rfl) (by kernel_rfl) rfl) ?_; intro cm aR
  refine bt aR f 3 [] [62, 63] [(64, .bool (decide (m < (-1))))] ?_; intro cn R
  refine e_ Q (fun C bE => ?_) fun C bG => ?_
  ·
   have aS := R.reval (d := 64) (c := []) (v := .bool (decide (m < (-1)))) (by kernel_rfl) (.bool true) (by rw [C])
   refine bt aS f 7 [] [65, 66, 67, 68, 69, 70, 71] [(71, .bool true)] ?_; intro co ak
   apply q
   refine cdT ak (by kernel_rfl) ?_
   refine sqB ak f [] [] [(2, i6 3)] ?_; intro cp bF
   exact r_ (h_ (i_ (h_ (h_ (i_ (h_ (ra1 bF (i6 3) ⟨3, rfl, bE, f.below⟩)))))))
  have aT := R.reval (d := 64) (c := []) (v := .bool (decide (m < (-1)))) (by kernel_rfl) (.bool false) (by rw [C])
  refine bt aT f 3 [1] [65, 66, 67] [(66, .slice ao4 u0.Last.length cap5), (67, i6 h)] ?_; intro cq al
  obtain ⟨bH, aU⟩ := bG
  refine ix al (T := t6) (xs := u0.Last) M h bH (k := .i64) (e := 3) (bytes := 8) (wK al false) rfl (by kernel_rfl) rfl (by kernel_rfl) (by kernel_rfl) (by kernel_rfl) ?_; intro cr cs bI D ct bJ am bK S
  have U := aU D bJ
  obtain rfl : bI = ([i6 D] : List Value) := bK
  refine v_ S (i6 D) (wK S false) (lz S f.fz am 0 (g := []) rfl (by kernel_rfl) (by kernel_rfl) (by kernel_rfl) rfl) ?_; intro cu aV
  refine bt aV f 2 [] [70, 71] [(71, .bool (decide (D > 1000000)))] ?_; intro cv E
  apply q
  refine c_ E U (fun _ bL => ?_) fun _ V => ?_
  ·
   refine sqB E f [] [] [(2, i6 3)] ?_; intro cw bM
   exact r_ (h_ (i_ (h_ (h_ (i_ (h_ (ra1 bM (i6 3) ⟨3, rfl, bL, f.below⟩)))))))
  refine k_ (s_ (sqH ?_)); intro bN aW
  refine bt E f 2 [0] [] [(73, .agg #[i6 a.F.Want, i6 a.F.Mask, .bool a.F.Long])] ?_; intro cx aX
  refine nw aX f (fun b => .slice (sm b) 1 1) [i6 a.F.Want, i6 a.F.Mask, .bool a.F.Long] 27 ?_; intro aY cy aZ a1 a2
  have bO : Mem w.heap.size [] w Z [.own tyFilter 27 (sm aY) 1 ([a.F] : List Filter), .row ae (e29B a) 29, .row i [.slice ao1 u0.Routes.length cap2, .slice ao4 u0.Last.length cap5] 37] aa aZ := a2.rowOwn (T := tyFilter) (xs := ([a.F] : List Filter)) 0 rfl (by decide) (by show 1 ≤ lim; decide) (RepAll.one (T := tyFilter) (x := a.F) rfl)
  obtain ⟨a3, n, a4, bP⟩ := bO.freeze 0 rfl
  replace o := o.mono n
  have ao : Mem w.heap.size [] w Z [.row ae (e29B a) 29, .row i [.slice ao1 u0.Routes.length cap2, .slice ao4 u0.Last.length cap5] 37] a3 aZ := a4
  refine fc a1 ao (rcheckf_fun ([a.F] : List Filter) (sm aY) 1 _ _ bP ao.fz) ?_; intro cz cA a5 l
  refine s1 a5 5 (i6 (fcheckS ([a.F] : List Filter))) ?_; intro cB a6
  apply aW
  refine sqB a6 l [] [] [(77, .bool ((fcheckS ([a.F] : List Filter)) != 0))] ?_; intro cC G
  refine c_ G V (fun _ bQ => ?_) fun _ W => ?_
  ·
   refine sqB G l [] [] [(2, i6 (fcheckS ([a.F] : List Filter)))] ?_; intro cD bR
   exact r_ (h_ (i_ (h_ (h_ (i_ (h_ (ra1 bR (i6 (fcheckS ([a.F] : List Filter))) ⟨(fcheckS ([a.F] : List Filter)), rfl, bQ, l.below⟩)))))))
  refine k_ (sqB G l [0, 0] [] [(86, .bool ((decide (a.Add > 536870911)) || (decide (a.Add < (-536870911)))))] ?_); intro a7 H
  refine c_ H W (fun _ bS => ?_) fun _ a9 => ?_
  ·
   have a8 : Fr 88 [] [] a7 := H.reg
   refine sqB a8 l [] [] [(2, i6 3)] ?_; intro cE bT
   exact r_ (i_ (h_ (h_ (i_ (h_ (ra1 bT (i6 3) ⟨3, rfl, bS, l.below⟩))))))
  refine l_ (j_ (t_ ?_))
  have ba : Fr 88 [] [⟨1, [], pt i 0⟩, ⟨18, [], .slice ao1 u0.Routes.length cap2⟩, ⟨19, [], i6 (u0.Routes.length : Int)⟩, ⟨20, [], i6 h⟩] a7 := H.reg
  refine rgB ba l [] [] [(20, i6 (w64 (h + 1)))] ?_; intro cF bU
  exact d_ ⟨⟨w64 (h + 1), a3⟩, ⟨a9.1, o⟩, a9.2, (bU.reg).anyβ _ (by kernel_rfl), l.kp⟩
 refine x_ (y_ (y_ (z_ (t_ (sqB A aE [] [] [(2, i6 0)] ?_))))); intro cG bW
 exact r_ (ra1 bW (i6 0) ⟨0, rfl, bV, aE.below⟩)

theorem lless_walk (u0 : Line) (u1 : Line) (ao1 : Option Addr) (cap2 : Nat) (ao4 : Option Addr) (cap5 : Nat) (Z : Fz) (w : World) (hs3 : SlR t8 Z ao1 cap2 u0.F.Data) (hs6 : SlR t8 Z ao4 cap5 u1.F.Data) (hZ : Z.on w) {K : Int → Prop} (hp : lless_vc u0 u1 K) : Calls Try.prog 54 #[.agg #[i6 u0.Time, i6 u0.Bus, i6 u0.F.ID, .bool u0.F.Long, .bool u0.F.Fast, .bool u0.F.Remote, i6 u0.F.Size, .slice ao1 u0.F.Data.length cap2], .agg #[i6 u1.Time, i6 u1.Bus, i6 u1.F.ID, .bool u1.F.Long, .bool u1.F.Fast, .bool u1.F.Remote, i6 u1.F.Size, .slice ao4 u1.F.Data.length cap5]] w fun e w' => ∃ r : Int, e = .returned (i6 r) ∧ K r ∧ Below w.heap.size w w' := by
 refine enter0 Try.func54 rfl rfl (by kernel_rfl) ?_; intro G l; have m := Mem.start w Z hZ
 have f := hp (hs3.small) (hs6.small)
 refine sqH ?_; intro v o
 refine nw l m pb (e42B u0 ao1 cap2) 42 ?_; intro I J L p q
 refine nw p q pb (e42B u1 ao4 cap5) 42 ?_; intro M N O s a
 refine s1 s 4 (i6 0) ?_; intro P u
 apply o
 refine s_ (b_ (sqB u a [1, 0] [] [(5, .bool (u0.Bus != u1.Bus))] ?_)); intro Q b
 refine c_ b f (fun _ x => ?_) fun _ g => ?_
 ·
  refine sqB b a [1, 0] [] [(4, i6 (w64 (u0.Bus - u1.Bus)))] ?_; intro R y
  exact r_ (i_ (h_ (ra1 y (i6 (w64 (u0.Bus - u1.Bus))) ⟨w64 (u0.Bus - u1.Bus), rfl, x, a.below⟩)))
 refine sqB b a [1, 0] [] [(16, .bool (u0.F.Long != u1.F.Long))] ?_; intro S c
 refine c_ c g (fun _ h => ?_) fun _ D => ?_
 ·
  refine s_ (sqB c a [0] [] [(26, .bool u1.F.Long)] ?_); intro T d
  refine c_ d h (fun _ z => ?_) fun _ B => ?_
  ·
   refine sqB d a [] [] [(4, i6 (-1))] ?_; intro U A
   exact r_ (h_ (i_ (h_ (ra1 A (i6 (-1)) ⟨-1, rfl, z, a.below⟩))))
  refine k_ (sqB d a [] [] [(4, i6 1)] ?_); intro V C
  exact r_ (i_ (h_ (ra1 C (i6 1) ⟨1, rfl, B, a.below⟩)))
 refine l_ (j_ (t_ (sqB c a [1, 0] [] [(4, i6 (w64 (u0.F.ID - u1.F.ID)))] ?_))); intro W E
 exact r_ (ra1 E (i6 (w64 (u0.F.ID - u1.F.ID))) ⟨w64 (u0.F.ID - u1.F.ID), rfl, D, a.below⟩)

end Go.Proofs.Ytmkdnaecmombnaa
set_option linter.unusedVariables false
set_option linter.unusedSimpArgs false
set_option linter.defProp false
set_option maxRecDepth 100000
set_option maxHeartbeats 0
namespace Go.Proofs.Ytmkdnaecmombnaa
open Go.Sy Go.RowKit
abbrev e42C (X : Line) (A0 : Option Addr) (C0 : Nat) : List Value := [i6 X.Time, i6 X.Bus, i6 X.F.ID, .bool X.F.Long, .bool X.F.Fast, .bool X.F.Remote, i6 X.F.Size, .slice A0 X.F.Data.length C0]
abbrev e25C (X : Frame) (A0 : Option Addr) (C0 : Nat) : List Value := [i6 X.ID, .bool X.Long, .bool X.Fast, .bool X.Remote, i6 X.Size, .slice A0 X.Data.length C0]
abbrev e29C (X : Route) : List Value := [i6 X.From, i6 X.To, i6 X.F.Want, i6 X.F.Mask, .bool X.F.Long, i6 X.Add, i6 X.Every]
abbrev e27C (X : Filter) : List Value := [i6 X.Want, i6 X.Mask, .bool X.Long]
def lless_fun (u0 : Line) (u1 : Line) (ao1 : Option Addr) (cap2 : Nat) (ao4 : Option Addr) (cap5 : Nat) (Z : Fz) (w : World) (hs3 : SlR t8 Z ao1 cap2 u0.F.Data) (hs6 : SlR t8 Z ao4 cap5 u1.F.Data) (hZ : Z.on w) := f_ (lless_walk u0 u1 ao1 cap2 ao4 cap5 Z w hs3 hs6 hZ (lless_ok u0 u1))
def fcopy_fun (u0 : Frame) (hpre : u0.Data.length ≤ 140737488355328) (ao1 : Option Addr) (cap2 : Nat) (Z : Fz) (w : World) (hs3 : SlR t8 Z ao1 cap2 u0.Data) (hZ : Z.on w) := fc_ (fcopy_walk u0 ao1 cap2 Z w hs3 hZ (fcopy_ok u0 hpre))
def rcheckfr_fun (u0 : Frame) (ao1 : Option Addr) (cap2 : Nat) (Z : Fz) (w : World) (hs3 : SlR t8 Z ao1 cap2 u0.Data) (hZ : Z.on w) := f_ (rcheckfr_walk u0 ao1 cap2 Z w hs3 hZ (rcheckfr_ok u0))
def kcontains_fun (u0 : List Key) (u1 : Key) (ao1 : Option Addr) (cap2 : Nat) (Z : Fz) (w : World) (hs3 : SlR tyKey Z ao1 cap2 u0) (hZ : Z.on w) := f_ (kcontains_walk u0 u1 ao1 cap2 Z w hs3 hZ (kcontains_ok u0 u1))
def gcheck_fun (u0 : Gate) (ao1 : Option Addr) (cap2 : Nat) (ao4 : Option Addr) (cap5 : Nat) (Z : Fz) (w : World) (hs3 : SlR tyRoute Z ao1 cap2 u0.Routes) (hs6 : SlR t6 Z ao4 cap5 u0.Last) (hZ : Z.on w) := f_ (gcheck_walk u0 ao1 cap2 ao4 cap5 Z w hs3 hs6 hZ (gcheck_ok u0))
def rcheckg_fun (u0 : Gate) (ao1 : Option Addr) (cap2 : Nat) (ao4 : Option Addr) (cap5 : Nat) (Z : Fz) (w : World) (hs3 : SlR tyRoute Z ao1 cap2 u0.Routes) (hs6 : SlR t6 Z ao4 cap5 u0.Last) (hZ : Z.on w) := f_ (rcheckg_walk u0 ao1 cap2 ao4 cap5 Z w hs3 hs6 hZ (rcheckg_ok u0))
def rclone_fun (u0 : List Route) (hpre : u0.length * 56 ≤ 140737488355328) (ao1 : Option Addr) (cap2 : Nat) (Z : Fz) (w : World) (hs3 : SlR tyRoute Z ao1 cap2 u0) (hZ : Z.on w) := fc_ (rclone_walk u0 ao1 cap2 Z w hs3 hZ (rclone_ok u0 hpre))
def iclone_fun (u0 : List Int) (hpre : u0.length * 8 ≤ 140737488355328) (ao1 : Option Addr) (cap2 : Nat) (Z : Fz) (w : World) (hs3 : SlR t6 Z ao1 cap2 u0) (hZ : Z.on w) := fc_ (iclone_walk u0 ao1 cap2 Z w hs3 hZ (iclone_ok u0 hpre))
def ieq_fun (u0 : List Int) (u1 : List Int) (ao1 : Option Addr) (cap2 : Nat) (ao4 : Option Addr) (cap5 : Nat) (Z : Fz) (w : World) (hs3 : SlR t6 Z ao1 cap2 u0) (hs6 : SlR t6 Z ao4 cap5 u1) (hZ : Z.on w) := f_ (ieq_walk u0 u1 ao1 cap2 ao4 cap5 Z w hs3 hs6 hZ (ieq_ok u0 u1))
def req_fun (u0 : List Route) (u1 : List Route) (ao1 : Option Addr) (cap2 : Nat) (ao4 : Option Addr) (cap5 : Nat) (Z : Fz) (w : World) (hs3 : SlR tyRoute Z ao1 cap2 u0) (hs6 : SlR tyRoute Z ao4 cap5 u1) (hZ : Z.on w) := f_ (req_walk u0 u1 ao1 cap2 ao4 cap5 Z w hs3 hs6 hZ (req_ok u0 u1))
theorem carry_walk (u0 : Route) (u1 : Int) (u2 : Frame) (ao1 : Option Addr) (cap2 : Nat) (Z : Fz) (w : World) (hs3 : SlR t8 Z ao1 cap2 u2.Data) (hZ : Z.on w) {K : (Frame × Bool) → Prop} (hp : carry_vc u0 u1 u2 K) : Calls Try.prog 30 #[.agg #[i6 u0.From, i6 u0.To, i6 u0.F.Want, i6 u0.F.Mask, .bool u0.F.Long, i6 u0.Add, i6 u0.Every], i6 u1, .agg #[i6 u2.ID, .bool u2.Long, .bool u2.Fast, .bool u2.Remote, i6 u2.Size, .slice ao1 u2.Data.length cap2]] w fun e w' => ∃ (r : Frame × Bool) (ao1001 : Option Addr) (cap1002 : Nat) (Z' : Fz), e = .returned (.tuple #[.agg #[i6 r.1.ID, .bool r.1.Long, .bool r.1.Fast, .bool r.1.Remote, i6 r.1.Size, .slice ao1001 r.1.Data.length cap1002], .bool r.2]) ∧ K r ∧ SlR t8 Z' ao1001 cap1002 r.1.Data ∧ Mem w.heap.size [] w Z [] Z' w' := by
 refine enter0 Try.func30 rfl rfl (by kernel_rfl) ?_; intro a0 Y; have aa := Mem.start w Z hZ
 have s := hp (hs3.small)
 refine sqH ?_; intro aS ab
 refine nw Y aa pb (e29C u0) 29 ?_; intro j a7 bf ac ae
 refine nw ac ae pb (e25C u2 ao1 cap2) 25 ?_; intro i bg bh af ag
 refine nw af ag pb [i6 0, .bool false, .bool false, .bool false, i6 0, .slice none 0 0] 25 ?_; intro a bi bj ah l
 refine s1 ah 7 (.bool false) ?_; intro bk ai
 apply ab
 refine s_ (sqH ?_); intro aj u
 refine bt ai l 5 [2] [] [(12, .bool (u0.From != u1))] ?_; intro bl y
 refine e_ s (fun o aT => ?_) fun o z => ?_
 ·
  have ak := y.reval (d := 12) (c := []) (v := .bool (u0.From != u1)) (by kernel_rfl) (.bool true) (by rw [o])
  refine bt ak l 7 [] [13, 14, 15, 16, 17, 18, 19] [(19, .bool true)] ?_; intro bm B
  apply u
  refine cdT B (by kernel_rfl) ?_
  refine sqH ?_; intro aU al
  refine s1 B 20 (.agg #[i6 0, .bool false, .bool false, .bool false, i6 0, .slice none 0 0]) ?_; intro bn C
  refine sx C l 0 [i6 0, .bool false, .bool false, .bool false, i6 0, .slice none 0 0] 0 ?_; intro aV am
  refine s1 C 7 (.bool false) ?_; intro bo an
  have ao : Mem w.heap.size [] w Z [.row a [i6 0, .bool false, .bool false, .bool false, i6 0, .slice none 0 0] 25, .row i (e25C u2 ao1 cap2) 25, .row j (e29C u0) 29] Z aV := am
  apply al
  refine r_ (h_ (rt (fn := Try.f30) (v := .tuple #[.agg #[i6 0, .bool false, .bool false, .bool false, i6 0, .slice none 0 0], .bool false]) an (re2c an (fn := Try.f30) rfl (ad := ⟨a, 0, none⟩) (by kernel_rfl) (loadVar_run ao 0 (b := a) (k := 6) (vs := [i6 0, .bool false, .bool false, .bool false, i6 0, .slice none 0 0]) (ty := 25) rfl (by kernel_rfl) (by kernel_rfl)) (by kernel_rfl)) ?_))
  exact ⟨((⟨0, false, false, false, 0, []⟩ : Frame), false), none, 0, Z, rfl, aT, (SlR.nil _ _), ao.kp⟩
 have ap := y.reval (d := 12) (c := []) (v := .bool (u0.From != u1)) (by kernel_rfl) (.bool false) (by rw [o])
 refine bt ap l 2 [2] [13, 14] [(14, .agg (e27C u0.F).toArray)] ?_; intro bp D
 refine sn D l (fun b => .slice (sm b) 1 1) (e27C u0.F) 27 (wK D false) rfl (by kernel_rfl) (by kernel_rfl) ?_; intro E bq aq A G
 refine v_ A (.agg (e25C u2 ao1 cap2).toArray) (wK A false) (lda A G 2 (g := []) (b := i) (off := 0) (k := 6) (cs := (e25C u2 ao1 cap2)) (vs := (e25C u2 ao1 cap2)) (ty := 25) rfl (by kernel_rfl) (by kernel_rfl) (by kernel_rfl) (by kernel_rfl) (by kernel_rfl) rfl) ?_; intro br H
 have aW : Mem w.heap.size [] w Z [.own tyFilter 27 (sm E) 1 ([u0.F] : List Filter), .row a [i6 0, .bool false, .bool false, .bool false, i6 0, .slice none 0 0] 25, .row i (e25C u2 ao1 cap2) 25, .row j (e29C u0) 29] Z aq := G.rowOwn (T := tyFilter) (xs := ([u0.F] : List Filter)) 0 rfl (by decide) (by show 1 ≤ lim; decide) (RepAll.one (T := tyFilter) (x := u0.F) rfl)
 obtain ⟨I, ar, au, J⟩ := aW.freeze 0 rfl
 replace hs3 := hs3.mono ar
 have L : Mem w.heap.size [] w Z [.row a [i6 0, .bool false, .bool false, .bool false, i6 0, .slice none 0 0] 25, .row i (e25C u2 ao1 cap2) 25, .row j (e29C u0) 29] I aq := au
 refine fcl H L (.bool (lets ([u0.F] : List Filter) u2)) 52 #[.slice (sm E) ([u0.F] : List Filter).length 1, .agg (e25C u2 ao1 cap2).toArray] (wK H false) rfl (by kernel_rfl) (fun _ => by kernel_rfl) (lets_fun ([u0.F] : List Filter) u2 (sm E) 1 ao1 cap2 _ _ J hs3 L.fz) ?_; intro bs bu av m
 refine bt av m 2 [] [18, 19] [(19, .bool (!(lets ([u0.F] : List Filter) u2)))] ?_; intro bv p
 apply u
 refine c_ p z (fun _ aX => ?_) fun _ a1 => ?_
 ·
  refine sqH ?_; intro aY aw
  refine s1 p 20 (.agg #[i6 0, .bool false, .bool false, .bool false, i6 0, .slice none 0 0]) ?_; intro bw N
  refine sx N m 0 [i6 0, .bool false, .bool false, .bool false, i6 0, .slice none 0 0] 0 ?_; intro aZ ax
  refine s1 N 7 (.bool false) ?_; intro bx ay
  have az : Mem w.heap.size [] w Z [.row a [i6 0, .bool false, .bool false, .bool false, i6 0, .slice none 0 0] 25, .row i (e25C u2 ao1 cap2) 25, .row j (e29C u0) 29] I aZ := ax
  apply aw
  refine r_ (h_ (rt (fn := Try.f30) (v := .tuple #[.agg #[i6 0, .bool false, .bool false, .bool false, i6 0, .slice none 0 0], .bool false]) ay (re2c ay (fn := Try.f30) rfl (ad := ⟨a, 0, none⟩) (by kernel_rfl) (loadVar_run az 0 (b := a) (k := 6) (vs := [i6 0, .bool false, .bool false, .bool false, i6 0, .slice none 0 0]) (ty := 25) rfl (by kernel_rfl) (by kernel_rfl)) (by kernel_rfl)) ?_))
  exact ⟨((⟨0, false, false, false, 0, []⟩ : Frame), false), none, 0, I, rfl, aX, (SlR.nil _ _), az.kp⟩
 refine k_ (sqH ?_); intro a2 aA
 refine l2 p m 21 1 0 6 (e25C u2 ao1 cap2) rfl rfl ?_; intro bz aB
 obtain ⟨a3, aC⟩ := a1
 refine ck aB 31 #[.agg (e25C u2 ao1 cap2).toArray] ?_
 refine (fcopy_fun u2 a3 ao1 cap2 _ _ hs3 m.fz).mono ?_; rintro _ a4 ⟨f, h, n, rfl, O, hm⟩; refine ⟨_, rfl, ?_⟩; intro bA P; have aD := m.callZ hm
 have aE : Mem w.heap.size [] w Z [.row a [i6 0, .bool false, .bool false, .bool false, i6 0, .slice none 0 0] 25, .row i (e25C u2 ao1 cap2) 25, .row j (e29C u0) 29] n a4 := aD
 have a5 := aC (O.small)
 refine sx P aE 1 (e25C (fcopyS u2) f h) 0 ?_; intro a6 aF
 have R : Mem w.heap.size [] w Z [.row a [i6 0, .bool false, .bool false, .bool false, i6 0, .slice none 0 0] 25, .row i (e25C (fcopyS u2) f h) 25, .row j (e29C u0) 29] n a6 := aF
 apply aA
 refine sqH ?_; intro a8 aG
 refine bt P R 6 [1, 2] [] [(27, i6 (w64 ((fcopyS u2).ID + u0.Add))), (28, pt i 0)] ?_; intro a9 S
 refine sx S R 1 [i6 (w64 ((fcopyS u2).ID + u0.Add)), .bool (fcopyS u2).Long, .bool (fcopyS u2).Fast, .bool (fcopyS u2).Remote, i6 (fcopyS u2).Size, .slice f (fcopyS u2).Data.length h] 0 ?_; intro ba aH
 have aI : Mem w.heap.size [] w Z [.row a [i6 0, .bool false, .bool false, .bool false, i6 0, .slice none 0 0] 25, .row i [i6 (w64 ((fcopyS u2).ID + u0.Add)), .bool (fcopyS u2).Long, .bool (fcopyS u2).Fast, .bool (fcopyS u2).Remote, i6 (fcopyS u2).Size, .slice f (fcopyS u2).Data.length h] 25, .row j (e29C u0) 29] n ba := aH
 apply aG
 have aJ : Fr 33 [] [⟨5, [], pt i 0⟩, ⟨6, [], pt a 0⟩] a9 := S.reg
 refine wp_seq (rgS mixed aI [(0, true), (1, true), (2, false), (3, true), (4, false), (5, true)] [] [1] [.row i [i6 (w64 ((fcopyS u2).ID + u0.Add)), .bool (fcopyS u2).Long, .bool (fcopyS u2).Fast, .bool (fcopyS u2).Remote, i6 (fcopyS u2).Size, .slice f (fcopyS u2).Data.length h] 25] ?_)
 intro bb aK bB U
 have aL := Fz.le.refl n
 refine cS aJ 2 [0, 0] [] [(29, .agg #[i6 (w64 ((fcopyS u2).ID + u0.Add)), .bool (fcopyS u2).Long, .bool (fcopyS u2).Fast, .bool (fcopyS u2).Remote, i6 (fcopyS u2).Size, .slice f (fcopyS u2).Data.length h]), (30, .agg #[i6 (w64 ((fcopyS u2).ID + u0.Add)), .bool (fcopyS u2).Long, .bool (fcopyS u2).Fast, .bool (fcopyS u2).Remote, i6 (fcopyS u2).Size, .slice f (fcopyS u2).Data.length h])] ?_; intro bC aM
 refine eS rfl ?_; intro bc aN
 refine fc aM U (fcheckfr_fun (⟨w64 ((fcopyS u2).ID + u0.Add), (fcopyS u2).Long, (fcopyS u2).Fast, (fcopyS u2).Remote, (fcopyS u2).Size, (fcopyS u2).Data⟩ : Frame) f h _ _ O U.fz) ?_; intro bD bE aO V
 refine nl (qnI (aN _ _ (V.cst aL [1]) ?_))
 refine cS aO 1 [] [] [(32, .bool ((fcheckfr (⟨w64 ((fcopyS u2).ID + u0.Add), (fcopyS u2).Long, (fcopyS u2).Fast, (fcopyS u2).Remote, (fcopyS u2).Size, (fcopyS u2).Data⟩ : Frame)) == 0))] ?_; intro bF W
 refine eS rfl ?_; intro bd aP
 refine sx W V 0 [i6 (w64 ((fcopyS u2).ID + u0.Add)), .bool (fcopyS u2).Long, .bool (fcopyS u2).Fast, .bool (fcopyS u2).Remote, i6 (fcopyS u2).Size, .slice f (fcopyS u2).Data.length h] 0 ?_; intro be aQ
 have X : Mem w.heap.size [] w Z [.row a [i6 (w64 ((fcopyS u2).ID + u0.Add)), .bool (fcopyS u2).Long, .bool (fcopyS u2).Fast, .bool (fcopyS u2).Remote, i6 (fcopyS u2).Size, .slice f (fcopyS u2).Data.length h] 25, .row i [i6 (w64 ((fcopyS u2).ID + u0.Add)), .bool (fcopyS u2).Long, .bool (fcopyS u2).Fast, .bool (fcopyS u2).Remote, i6 (fcopyS u2).Size, .slice f (fcopyS u2).Data.length h] 25, .row j (e29C u0) 29] n be := aQ
 refine nl (qnI (aP _ _ (X.cst aL [1]) ?_))
 refine cS W 1 [] [] [(7, .bool ((fcheckfr (⟨w64 ((fcopyS u2).ID + u0.Add), (fcopyS u2).Long, (fcopyS u2).Fast, (fcopyS u2).Remote, (fcopyS u2).Size, (fcopyS u2).Data⟩ : Frame)) == 0))] ?_; intro bG aR
 refine nS (aK _ _ ?_)
 refine t_ (r_ (rt (fn := Try.f30) (v := .tuple #[.agg #[i6 (w64 ((fcopyS u2).ID + u0.Add)), .bool (fcopyS u2).Long, .bool (fcopyS u2).Fast, .bool (fcopyS u2).Remote, i6 (fcopyS u2).Size, .slice f (fcopyS u2).Data.length h], .bool ((fcheckfr (⟨w64 ((fcopyS u2).ID + u0.Add), (fcopyS u2).Long, (fcopyS u2).Fast, (fcopyS u2).Remote, (fcopyS u2).Size, (fcopyS u2).Data⟩ : Frame)) == 0)]) aR (re2c aR (fn := Try.f30) rfl (ad := ⟨a, 0, none⟩) (by kernel_rfl) (loadVar_run X 0 (b := a) (k := 6) (vs := [i6 (w64 ((fcopyS u2).ID + u0.Add)), .bool (fcopyS u2).Long, .bool (fcopyS u2).Fast, .bool (fcopyS u2).Remote, i6 (fcopyS u2).Size, .slice f (fcopyS u2).Data.length h]) (ty := 25) rfl (by kernel_rfl) (by kernel_rfl)) (by kernel_rfl)) ?_))
 exact ⟨((⟨w64 ((fcopyS u2).ID + u0.Add), (fcopyS u2).Long, (fcopyS u2).Fast, (fcopyS u2).Remote, (fcopyS u2).Size, (fcopyS u2).Data⟩ : Frame), (fcheckfr (⟨w64 ((fcopyS u2).ID + u0.Add), (fcopyS u2).Long, (fcopyS u2).Fast, (fcopyS u2).Remote, (fcopyS u2).Size, (fcopyS u2).Data⟩ : Frame)) == 0), f, h, n, rfl, a5, O, X.kp⟩

theorem carried_walk (u0 : Route) (u1 : Int) (u2 : Frame) (ao1 : Option Addr) (cap2 : Nat) (Z : Fz) (w : World) (hs3 : SlR t8 Z ao1 cap2 u2.Data) (hZ : Z.on w) {K : (Frame × Bool) → Prop} (hp : carried_vc u0 u1 u2 K) : Calls Try.prog 22 #[.agg #[i6 u0.From, i6 u0.To, i6 u0.F.Want, i6 u0.F.Mask, .bool u0.F.Long, i6 u0.Add, i6 u0.Every], i6 u1, .agg #[i6 u2.ID, .bool u2.Long, .bool u2.Fast, .bool u2.Remote, i6 u2.Size, .slice ao1 u2.Data.length cap2]] w fun e w' => ∃ (r : Frame × Bool) (ao1001 : Option Addr) (cap1002 : Nat) (Z' : Fz), e = .returned (.tuple #[.agg #[i6 r.1.ID, .bool r.1.Long, .bool r.1.Fast, .bool r.1.Remote, i6 r.1.Size, .slice ao1001 r.1.Data.length cap1002], .bool r.2]) ∧ K r ∧ SlR t8 Z' ao1001 cap1002 r.1.Data ∧ Mem w.heap.size [] w Z [] Z' w' := by
 refine enter0 Try.func22 rfl rfl (by kernel_rfl) ?_; intro a0 A; have B := Mem.start w Z hZ
 have j := hp (hs3.small)
 refine sqH ?_; intro ap C
 refine nw A B pb (e29C u0) 29 ?_; intro d a7 aF D E
 refine nw D E pb (e25C u2 ao1 cap2) 25 ?_; intro c aG aH G H
 refine nw G H pb [i6 0, .bool false, .bool false, .bool false, i6 0, .slice none 0 0] 25 ?_; intro a aI aJ I f
 refine s1 I 7 (.bool false) ?_; intro aK J
 apply C
 refine s_ (sqH ?_); intro aq L
 refine s1 J 8 (i6 u1) ?_; intro aL M
 refine s1 M 9 (pt d 0) ?_; intro aM N
 refine l1 N f 10 2 0 (i6 u0.From) rfl rfl ?_; intro aN O
 refine s1 O 11 (.bool (u1 != u0.From)) ?_; intro aO P
 refine s1 P 12 (.bool (u1 != u0.From)) ?_; intro aP Q
 have R := Q.atom ((u1 != u0.From) == false) (by kernel_rfl)
 refine gp R 13 0 [] (u1 != u0.From) (pt d 2) rfl rfl ?_; intro aQ l
 refine gd l (.agg (e27C u0.F).toArray) (m := 0) (cj := []) (bj := u1 != u0.From) rfl rfl (by kernel_rfl) rfl (by kernel_rfl) (by kernel_rfl) (by kernel_rfl) (fun hg => lda l f 2 (g := [0]) (b := d) (off := 2) (k := 3) (cs := (e29C u0)) (vs := (e27C u0.F)) (ty := 29) rfl (by kernel_rfl) (by kernel_rfl) (by kernel_rfl) (by kernel_rfl) (by kernel_rfl) hg) ?_; intro aR n
 refine gd n (.agg (e25C u2 ao1 cap2).toArray) (m := 0) (cj := []) (bj := u1 != u0.From) rfl rfl (by kernel_rfl) rfl (by kernel_rfl) (by kernel_rfl) (by kernel_rfl) (fun hg => lda n f 1 (g := [0]) (b := c) (off := 0) (k := 6) (cs := (e25C u2 ao1 cap2)) (vs := (e25C u2 ao1 cap2)) (ty := 25) rfl (by kernel_rfl) (by kernel_rfl) (by kernel_rfl) (by kernel_rfl) (by kernel_rfl) hg) ?_; intro aS S
 refine gcl S f (.bool (letsin u0.F u2)) 43 #[.agg (e27C u0.F).toArray, .agg (e25C u2 ao1 cap2).toArray] (m := 0) (cj := []) (bj := u1 != u0.From) rfl rfl (by kernel_rfl) rfl (by kernel_rfl) (by kernel_rfl) (by kernel_rfl) (fun _ => by kernel_rfl) (fun hg => letsin_fun u0.F u2 ao1 cap2 _ _ hs3 f.fz) ?_; intro aT aU T h
 refine gp T 17 0 [] (u1 != u0.From) (.bool (!(letsin u0.F u2))) rfl rfl ?_; intro aV o
 refine u_ o (.bool ((u1 != u0.From) || (!(letsin u0.F u2)))) (pk_or o (g := []) (m := 0) (b := u1 != u0.From) (v := !(letsin u0.F u2)) rfl (by kernel_rfl) (by kernel_rfl) (by kernel_rfl) rfl) ?_; intro U i
 apply L
 refine c_ i j (fun _ ar => ?_) fun _ aw => ?_
 ·
  have V : Fr 30 [] [⟨5, [], pt c 0⟩, ⟨6, [], pt a 0⟩] U := i.reg
  refine sqH ?_; intro au W
  refine l2 V h 19 1 0 6 (e25C u2 ao1 cap2) rfl rfl ?_; intro aW q
  refine sx q h 0 (e25C u2 ao1 cap2) 0 ?_; intro av X
  refine s1 q 7 (.bool false) ?_; intro aX Y
  have aa : Mem w.heap.size [] w Z [.row a (e25C u2 ao1 cap2) 25, .row c (e25C u2 ao1 cap2) 25, .row d (e29C u0) 29] Z av := X
  apply W
  refine r_ (h_ (rt (fn := Try.f22) (v := .tuple #[.agg (e25C u2 ao1 cap2).toArray, .bool false]) Y (re2c Y (fn := Try.f22) rfl (ad := ⟨a, 0, none⟩) (by kernel_rfl) (loadVar_run aa 0 (b := a) (k := 6) (vs := (e25C u2 ao1 cap2)) (ty := 25) rfl (by kernel_rfl) (by kernel_rfl)) (by kernel_rfl)) ?_))
  exact ⟨(u2, false), ao1, cap2, Z, rfl, ar, hs3, aa.kp⟩
 apply k_
 have ab : Fr 30 [] [⟨3, [], pt d 0⟩, ⟨5, [], pt c 0⟩, ⟨6, [], pt a 0⟩] U := i.reg
 refine sqH ?_; intro ax ac
 refine bt ab h 6 [1, 2] [] [(24, i6 (w64 (u2.ID + u0.Add))), (25, pt c 0)] ?_; intro ay s
 refine sx s h 1 [i6 (w64 (u2.ID + u0.Add)), .bool u2.Long, .bool u2.Fast, .bool u2.Remote, i6 u2.Size, .slice ao1 u2.Data.length cap2] 0 ?_; intro az ae
 have af : Mem w.heap.size [] w Z [.row a [i6 0, .bool false, .bool false, .bool false, i6 0, .slice none 0 0] 25, .row c [i6 (w64 (u2.ID + u0.Add)), .bool u2.Long, .bool u2.Fast, .bool u2.Remote, i6 u2.Size, .slice ao1 u2.Data.length cap2] 25, .row d (e29C u0) 29] Z az := ae
 apply ac
 have ag : Fr 30 [] [⟨5, [], pt c 0⟩, ⟨6, [], pt a 0⟩] ay := s.reg
 refine wp_seq (rgS mixed af [(0, true), (1, true), (2, false), (3, true), (4, false), (5, true)] [] [1] [.row c [i6 (w64 (u2.ID + u0.Add)), .bool u2.Long, .bool u2.Fast, .bool u2.Remote, i6 u2.Size, .slice ao1 u2.Data.length cap2] 25] ?_)
 intro aA ah aY u
 have ai := Fz.le.refl Z
 refine cS ag 2 [0, 0] [] [(26, .agg #[i6 (w64 (u2.ID + u0.Add)), .bool u2.Long, .bool u2.Fast, .bool u2.Remote, i6 u2.Size, .slice ao1 u2.Data.length cap2]), (27, .agg #[i6 (w64 (u2.ID + u0.Add)), .bool u2.Long, .bool u2.Fast, .bool u2.Remote, i6 u2.Size, .slice ao1 u2.Data.length cap2])] ?_; intro aZ aj
 refine eS rfl ?_; intro aB ak
 refine fc aj u (rcheckfr_fun (⟨w64 (u2.ID + u0.Add), u2.Long, u2.Fast, u2.Remote, u2.Size, u2.Data⟩ : Frame) ao1 cap2 _ _ hs3 u.fz) ?_; intro a1 a2 al x
 refine nl (qnI (ak _ _ (x.cst ai [1]) ?_))
 refine cS al 1 [] [] [(29, .bool ((fcheckfr (⟨w64 (u2.ID + u0.Add), u2.Long, u2.Fast, u2.Remote, u2.Size, u2.Data⟩ : Frame)) == 0))] ?_; intro a3 y
 refine eS rfl ?_; intro aC am
 refine sx y x 0 [i6 (w64 (u2.ID + u0.Add)), .bool u2.Long, .bool u2.Fast, .bool u2.Remote, i6 u2.Size, .slice ao1 u2.Data.length cap2] 0 ?_; intro aD an
 have z : Mem w.heap.size [] w Z [.row a [i6 (w64 (u2.ID + u0.Add)), .bool u2.Long, .bool u2.Fast, .bool u2.Remote, i6 u2.Size, .slice ao1 u2.Data.length cap2] 25, .row c [i6 (w64 (u2.ID + u0.Add)), .bool u2.Long, .bool u2.Fast, .bool u2.Remote, i6 u2.Size, .slice ao1 u2.Data.length cap2] 25, .row d (e29C u0) 29] Z aD := an
 refine nl (qnI (am _ _ (z.cst ai [1]) ?_))
 refine cS y 1 [] [] [(7, .bool ((fcheckfr (⟨w64 (u2.ID + u0.Add), u2.Long, u2.Fast, u2.Remote, u2.Size, u2.Data⟩ : Frame)) == 0))] ?_; intro a4 ao
 refine nS (ah _ _ ?_)
 refine t_ (r_ (rt (fn := Try.f22) (v := .tuple #[.agg #[i6 (w64 (u2.ID + u0.Add)), .bool u2.Long, .bool u2.Fast, .bool u2.Remote, i6 u2.Size, .slice ao1 u2.Data.length cap2], .bool ((fcheckfr (⟨w64 (u2.ID + u0.Add), u2.Long, u2.Fast, u2.Remote, u2.Size, u2.Data⟩ : Frame)) == 0)]) ao (re2c ao (fn := Try.f22) rfl (ad := ⟨a, 0, none⟩) (by kernel_rfl) (loadVar_run z 0 (b := a) (k := 6) (vs := [i6 (w64 (u2.ID + u0.Add)), .bool u2.Long, .bool u2.Fast, .bool u2.Remote, i6 u2.Size, .slice ao1 u2.Data.length cap2]) (ty := 25) rfl (by kernel_rfl) (by kernel_rfl)) (by kernel_rfl)) ?_))
 exact ⟨((⟨w64 (u2.ID + u0.Add), u2.Long, u2.Fast, u2.Remote, u2.Size, u2.Data⟩ : Frame), (fcheckfr (⟨w64 (u2.ID + u0.Add), u2.Long, u2.Fast, u2.Remote, u2.Size, u2.Data⟩ : Frame)) == 0), ao1, cap2, Z, rfl, aw, hs3, z.kp⟩

theorem gnew_walk (u0 : List Route) (ao1 : Option Addr) (cap2 : Nat) (Z : Fz) (w : World) (hs3 : SlR tyRoute Z ao1 cap2 u0) (hZ : Z.on w) {K : (Gate × Int) → Prop} (hp : gnew_vc u0 K) : Calls Try.prog 9 #[.slice ao1 u0.length cap2] w fun e w' => ∃ (r : Gate × Int) (ao1001 : Option Addr) (cap1002 : Nat) (ao1004 : Option Addr) (cap1005 : Nat) (Z' : Fz), e = .returned (.tuple #[.agg #[.slice ao1001 r.1.Routes.length cap1002, .slice ao1004 r.1.Last.length cap1005], i6 r.2]) ∧ K r ∧ SlR tyRoute Z' ao1001 cap1002 r.1.Routes ∧ SlR t6 Z' ao1004 cap1005 r.1.Last ∧ Mem w.heap.size [] w Z [] Z' w' := by
 refine enter0 Try.func9 rfl rfl (by kernel_rfl) ?_; intro a0 V; have W := Mem.start w Z hZ
 have a1 := hp (hs3.small)
 refine sqH ?_; intro a2 X
 refine nw V W pb [.slice none 0 0, .slice none 0 0] 37 ?_; intro c a7 br Y G
 refine s1 Y 3 (i6 0) ?_; intro bs aa
 apply X
 refine sqH ?_; intro a3 ab
 refine s1 aa 6 (.slice ao1 u0.length cap2) ?_; intro bu ac
 obtain ⟨a4, ae⟩ := a1
 refine ck ac 11 #[.slice ao1 u0.length cap2] ?_
 refine (rclone_fun u0 a4 ao1 cap2 _ _ hs3 G.fz).mono ?_; rintro _ a5 ⟨j, l, af, rfl, hm⟩; refine ⟨_, rfl, ?_⟩; intro bv ag; have ah := G.callZ hm
 have H : Mem w.heap.size [] w Z [.own tyRoute 29 j l (rclS u0), .row c [.slice none 0 0, .slice none 0 0] 37] af a5 := ah
 have a6 := ae (H.ownSmall 0 rfl)
 refine s1 ag 8 (.agg #[.slice j (rclS u0).length l, .slice none 0 0]) ?_; intro bw aj
 refine nw aj H pb [.slice none 0 0, .slice none 0 0] 37 ?_; intro i bx bz I ak
 refine sx I ak 0 [.slice j (rclS u0).length l, .slice none 0 0] 0 ?_; intro J al
 have am : Mem w.heap.size [] w Z [.row i [.slice j (rclS u0).length l, .slice none 0 0] 37, .own tyRoute 29 j l (rclS u0), .row c [.slice none 0 0, .slice none 0 0] 37] af J := al
 apply ab
 refine s_ (sqB I am [] [] [(10, i6 (u0.length : Int)), (11, i6 0)] ?_); intro an aq
 apply b_
 have ar : Fr 26 [] [⟨2, [], pt c 0⟩, ⟨4, [], pt i 0⟩, ⟨10, [], i6 (u0.length : Int)⟩, ⟨11, [], i6 0⟩] an := aq.reg
 obtain ⟨m, au, av, L⟩ := am.freeze 1 rfl
 have aw : Mem w.heap.size [] w Z [.row i [.slice j (rclS u0).length l, .slice none 0 0] 37, .row c [.slice none 0 0, .slice none 0 0] 37] m J := av
 have ax : Mem w.heap.size [] w Z [.own t6 3 none 0 ([] : List Int), .row i [.slice j (rclS u0).length l, .slice none 0 0] 37, .row c [.slice none 0 0, .slice none 0 0] 37] m J := aw.addNil t6 3 (by decide)
 have ay : Fr 26 [] [⟨2, [], pt c 0⟩, ⟨4, [], pt i 0⟩, ⟨10, [], i6 (u0.length : Int)⟩, ⟨11, [], i6 0⟩] an := ar.reg
 obtain ⟨a8, a9, ba, bb⟩ := a6
 refine lp (ι := Int × Gate × (Option Addr) × Nat × (Option Addr) × Nat) (fun s => [⟨2, [], pt c 0⟩, ⟨4, [], pt i 0⟩, ⟨10, [], i6 (u0.length : Int)⟩, ⟨11, [], i6 s.1⟩]) (fun s => [.own t6 3 s.2.2.2.2.1 s.2.2.2.2.2 s.2.1.Last, .row i [.slice s.2.2.1 s.2.1.Routes.length s.2.2.2.1, .slice s.2.2.2.2.1 s.2.1.Last.length s.2.2.2.2.2] 37, .row c [.slice none 0 0, .slice none 0 0] 37]) (fun s => m) (fun s => a8 s.1 s.2.1 ∧ SlR tyRoute m s.2.2.1 s.2.2.2.1 s.2.1.Routes) (fun s => a9 s.1 s.2.1) ⟨0, (⟨(rclS u0), ([] : List Int)⟩ : Gate), j, l, none, 0⟩ ⟨ba, L⟩ (by exact ay.reg) (by exact ax) ?_
 rintro ⟨p, a, d, f, g, h⟩ ⟨bc, u⟩ bd az aA aB
 have D := bb p a bc
 refine sqB aA aB [] [] [(12, .bool (decide (p < (u0.length : Int))))] ?_; intro bA y
 refine s_ (c_ y D (fun _ be => ?_) fun _ E => ?_)
 ·
  refine k_ (s_ (b_ (rgH ?_))); intro bf aD
  refine bt y aB 2 [1] [] [(14, .slice g a.Last.length h)] ?_; intro bB aE
  refine nw aE aB (fun b => .slice (sm b) 1 1) [i6 (-1)] 3 ?_; intro N bC bD aF O
  obtain ⟨bg, aG⟩ := be
  refine ap aF O 1 (T := t6) (xs := a.Last) (ys := [-1]) (ao := g) (cap := h) (ao2 := (sm N)) (cap2 := 1) (t := 35) (e := 3) (bytes := 8) (nog rfl _) rfl (by kernel_rfl) rfl (by kernel_rfl) (by kernel_rfl) (by kernel_rfl) rfl (Src.row O 0 rfl (RepAll.one (T := t6) (x := (-1)) rfl)) bg ?_; intro z A bE bh bF aH aI
  have aJ : Mem w.heap.size [] w Z [.row N [i6 (-1)] 3, .own t6 3 z A (a.Last ++ [-1]), .row i [.slice d a.Routes.length f, .slice g a.Last.length h] 37, .row c [.slice none 0 0, .slice none 0 0] 37] m bh := aI
  refine s1 aH 17 (pt i 1) ?_; intro bG P
  refine sx P aJ 2 [.slice d a.Routes.length f, .slice z (a.Last ++ [-1]).length A] 1 ?_; intro bi aK
  have aL : Mem w.heap.size [] w Z [.row N [i6 (-1)] 3, .own t6 3 z A (a.Last ++ [-1]), .row i [.slice d a.Routes.length f, .slice z (a.Last ++ [-1]).length A] 37, .row c [.slice none 0 0, .slice none 0 0] 37] m bi := aK
  apply aD
  refine j_ (t_ (rgB P aL [] [] [(11, i6 (w64 (p + 1)))] ?_)); intro bH bj
  exact d_ ⟨⟨w64 (p + 1), (⟨a.Routes, a.Last ++ [-1]⟩ : Gate), d, f, z, A⟩, ⟨aG.1, u⟩, aG.2, (bj.reg).anyβ _ (by kernel_rfl), aL.kp⟩
 refine x_ (y_ (y_ (z_ (t_ (s_ (sqH ?_)))))); intro bk aM
 refine l2 y aB 19 1 0 2 [.slice d a.Routes.length f, .slice g a.Last.length h] rfl rfl ?_; intro bI aN
 obtain ⟨B, F, aO, aP⟩ := aB.freeze 0 rfl
 replace u := u.mono F
 have Q : Mem w.heap.size [] w Z [.row i [.slice d a.Routes.length f, .slice g a.Last.length h] 37, .row c [.slice none 0 0, .slice none 0 0] 37] B az := aO
 refine fc aN Q (gcheck_fun a d f g h _ _ u aP Q.fz) ?_; intro bJ bK aQ n
 refine s1 aQ 5 (i6 (gcheckS a)) ?_; intro bL aR
 apply aM
 refine sqB aR n [] [] [(22, .bool ((gcheckS a) != 0))] ?_; intro bM C
 refine c_ C E (fun _ bl => ?_) fun _ bo => ?_
 ·
  refine sqH ?_; intro bm aS
  refine bt C n 2 [] [] [(23, .agg #[.slice none 0 0, .slice none 0 0]), (24, i6 (gcheckS a))] ?_; intro bN S
  refine sx S n 1 [.slice none 0 0, .slice none 0 0] 0 ?_; intro bn aT
  refine s1 S 3 (i6 (gcheckS a)) ?_; intro bO aU
  have aV : Mem w.heap.size [] w Z [.row i [.slice d a.Routes.length f, .slice g a.Last.length h] 37, .row c [.slice none 0 0, .slice none 0 0] 37] B bn := aT
  apply aS
  refine r_ (h_ (rt (fn := Try.f9) (v := .tuple #[.agg #[.slice none 0 0, .slice none 0 0], i6 (gcheckS a)]) aU (re2c aU (fn := Try.f9) rfl (ad := ⟨c, 0, none⟩) (by kernel_rfl) (loadVar_run aV 1 (b := c) (k := 2) (vs := [.slice none 0 0, .slice none 0 0]) (ty := 37) rfl (by kernel_rfl) (by kernel_rfl)) (by kernel_rfl)) ?_))
  exact ⟨((⟨[], []⟩ : Gate), (gcheckS a)), none, 0, none, 0, B, rfl, bl, (SlR.nil _ _), (SlR.nil _ _), aV.kp⟩
 refine k_ (sqH ?_); intro bp aW
 refine l2 C n 25 0 0 2 [.slice d a.Routes.length f, .slice g a.Last.length h] rfl rfl ?_; intro bP U
 refine sx U n 1 [.slice d a.Routes.length f, .slice g a.Last.length h] 0 ?_; intro bq aX
 refine s1 U 3 (i6 0) ?_; intro bQ aY
 have aZ : Mem w.heap.size [] w Z [.row i [.slice d a.Routes.length f, .slice g a.Last.length h] 37, .row c [.slice d a.Routes.length f, .slice g a.Last.length h] 37] B bq := aX
 apply aW
 refine r_ (rt (fn := Try.f9) (v := .tuple #[.agg #[.slice d a.Routes.length f, .slice g a.Last.length h], i6 0]) aY (re2c aY (fn := Try.f9) rfl (ad := ⟨c, 0, none⟩) (by kernel_rfl) (loadVar_run aZ 1 (b := c) (k := 2) (vs := [.slice d a.Routes.length f, .slice g a.Last.length h]) (ty := 37) rfl (by kernel_rfl) (by kernel_rfl)) (by kernel_rfl)) ?_)
 exact ⟨(a, 0), d, f, g, h, B, rfl, bo, u, aP, aZ.kp⟩

theorem rsame_walk (u0 : Frame) (u1 : Frame) (ao1 : Option Addr) (cap2 : Nat) (ao4 : Option Addr) (cap5 : Nat) (Z : Fz) (w : World) (hs3 : SlR t8 Z ao1 cap2 u0.Data) (hs6 : SlR t8 Z ao4 cap5 u1.Data) (hZ : Z.on w) {K : Bool → Prop} (hp : rsame_vc u0 u1 K) : Calls Try.prog 46 #[.agg #[i6 u0.ID, .bool u0.Long, .bool u0.Fast, .bool u0.Remote, i6 u0.Size, .slice ao1 u0.Data.length cap2], .agg #[i6 u1.ID, .bool u1.Long, .bool u1.Fast, .bool u1.Remote, i6 u1.Size, .slice ao4 u1.Data.length cap5]] w fun e w' => ∃ r : Bool, e = .returned (.bool r) ∧ K r ∧ Below w.heap.size w w' := by
 refine enter0 Try.func46 rfl rfl (by kernel_rfl) ?_; intro a0 z; have A := Mem.start w Z hZ
 have ao := hp (hs3.small) (hs6.small)
 refine sqH ?_; intro ap C
 refine nw z A pb (e25C u0 ao1 cap2) 25 ?_; intro c aw ax D E
 refine nw D E pb (e25C u1 ao4 cap5) 25 ?_; intro d ay az F a
 refine s1 F 4 (.bool false) ?_; intro aA G
 apply C
 refine sqH ?_; intro aq H
 refine s1 G 5 (pt c 0) ?_; intro aB I
 refine l1 I a 6 1 0 (i6 u0.ID) rfl rfl ?_; intro aC J
 refine s1 J 7 (pt d 0) ?_; intro aD L
 refine l1 L a 8 0 0 (i6 u1.ID) rfl rfl ?_; intro aE M
 refine s1 M 9 (.bool (u0.ID == u1.ID)) ?_; intro aF N
 refine s1 N 10 (.bool (u0.ID == u1.ID)) ?_; intro aG O
 have P := O.atom ((u0.ID == u1.ID) == true) (by kernel_rfl)
 refine gp P 11 0 [] (u0.ID == u1.ID) (pt c 1) rfl rfl ?_; intro aH f
 refine gd f (.bool u0.Long) (m := 0) (cj := []) (bj := u0.ID == u1.ID) rfl rfl (by kernel_rfl) rfl (by kernel_rfl) (by kernel_rfl) (by kernel_rfl) (fun hg => ld f a 1 (g := [0]) (b := c) (off := 1) (cs := (e25C u0 ao1 cap2)) (ty := 25) rfl (by kernel_rfl) (by kernel_rfl) (by kernel_rfl) (by kernel_rfl) hg) ?_; intro aI Q
 refine gp Q 13 0 [] (u0.ID == u1.ID) (pt d 1) rfl rfl ?_; intro aJ h
 refine gd h (.bool u1.Long) (m := 0) (cj := []) (bj := u0.ID == u1.ID) rfl rfl (by kernel_rfl) rfl (by kernel_rfl) (by kernel_rfl) (by kernel_rfl) (fun hg => ld h a 0 (g := [0]) (b := d) (off := 1) (cs := (e25C u1 ao4 cap5)) (ty := 25) rfl (by kernel_rfl) (by kernel_rfl) (by kernel_rfl) (by kernel_rfl) hg) ?_; intro aK R
 refine gp R 15 0 [] (u0.ID == u1.ID) (.bool (u0.Long == u1.Long)) rfl rfl ?_; intro aL i
 refine u_ i (.bool ((u0.ID == u1.ID) && (u0.Long == u1.Long))) (pk_and i (g := []) (m := 0) (b := u0.ID == u1.ID) (v := u0.Long == u1.Long) rfl (by kernel_rfl) (by kernel_rfl) (by kernel_rfl) rfl) ?_; intro aM S
 refine s1 S 17 (.bool ((u0.ID == u1.ID) && (u0.Long == u1.Long))) ?_; intro aN T
 have U := T.atom (((u0.ID == u1.ID) && (u0.Long == u1.Long)) == true) (by kernel_rfl)
 refine gp U 18 1 [] ((u0.ID == u1.ID) && (u0.Long == u1.Long)) (pt c 2) rfl rfl ?_; intro aO j
 refine gd j (.bool u0.Fast) (m := 1) (cj := []) (bj := (u0.ID == u1.ID) && (u0.Long == u1.Long)) rfl rfl (by kernel_rfl) rfl (by kernel_rfl) (by kernel_rfl) (by kernel_rfl) (fun hg => ld j a 1 (g := [1]) (b := c) (off := 2) (cs := (e25C u0 ao1 cap2)) (ty := 25) rfl (by kernel_rfl) (by kernel_rfl) (by kernel_rfl) (by kernel_rfl) hg) ?_; intro aP V
 refine gp V 20 1 [] ((u0.ID == u1.ID) && (u0.Long == u1.Long)) (pt d 2) rfl rfl ?_; intro aQ k
 refine gd k (.bool u1.Fast) (m := 1) (cj := []) (bj := (u0.ID == u1.ID) && (u0.Long == u1.Long)) rfl rfl (by kernel_rfl) rfl (by kernel_rfl) (by kernel_rfl) (by kernel_rfl) (fun hg => ld k a 0 (g := [1]) (b := d) (off := 2) (cs := (e25C u1 ao4 cap5)) (ty := 25) rfl (by kernel_rfl) (by kernel_rfl) (by kernel_rfl) (by kernel_rfl) hg) ?_; intro aR W
 refine gp W 22 1 [] ((u0.ID == u1.ID) && (u0.Long == u1.Long)) (.bool (u0.Fast == u1.Fast)) rfl rfl ?_; intro aS l
 refine u_ l (.bool (((u0.ID == u1.ID) && (u0.Long == u1.Long)) && (u0.Fast == u1.Fast))) (pk_and l (g := []) (m := 1) (b := (u0.ID == u1.ID) && (u0.Long == u1.Long)) (v := u0.Fast == u1.Fast) rfl (by kernel_rfl) (by kernel_rfl) (by kernel_rfl) rfl) ?_; intro aT X
 refine s1 X 24 (.bool (((u0.ID == u1.ID) && (u0.Long == u1.Long)) && (u0.Fast == u1.Fast))) ?_; intro aU Y
 have aa := Y.atom ((((u0.ID == u1.ID) && (u0.Long == u1.Long)) && (u0.Fast == u1.Fast)) == true) (by kernel_rfl)
 refine gp aa 25 2 [] (((u0.ID == u1.ID) && (u0.Long == u1.Long)) && (u0.Fast == u1.Fast)) (pt c 3) rfl rfl ?_; intro aV n
 refine gd n (.bool u0.Remote) (m := 2) (cj := []) (bj := ((u0.ID == u1.ID) && (u0.Long == u1.Long)) && (u0.Fast == u1.Fast)) rfl rfl (by kernel_rfl) rfl (by kernel_rfl) (by kernel_rfl) (by kernel_rfl) (fun hg => ld n a 1 (g := [2]) (b := c) (off := 3) (cs := (e25C u0 ao1 cap2)) (ty := 25) rfl (by kernel_rfl) (by kernel_rfl) (by kernel_rfl) (by kernel_rfl) hg) ?_; intro aW ab
 refine gp ab 27 2 [] (((u0.ID == u1.ID) && (u0.Long == u1.Long)) && (u0.Fast == u1.Fast)) (pt d 3) rfl rfl ?_; intro aX o
 refine gd o (.bool u1.Remote) (m := 2) (cj := []) (bj := ((u0.ID == u1.ID) && (u0.Long == u1.Long)) && (u0.Fast == u1.Fast)) rfl rfl (by kernel_rfl) rfl (by kernel_rfl) (by kernel_rfl) (by kernel_rfl) (fun hg => ld o a 0 (g := [2]) (b := d) (off := 3) (cs := (e25C u1 ao4 cap5)) (ty := 25) rfl (by kernel_rfl) (by kernel_rfl) (by kernel_rfl) (by kernel_rfl) hg) ?_; intro aY ac
 refine gp ac 29 2 [] (((u0.ID == u1.ID) && (u0.Long == u1.Long)) && (u0.Fast == u1.Fast)) (.bool (u0.Remote == u1.Remote)) rfl rfl ?_; intro aZ p
 refine u_ p (.bool ((((u0.ID == u1.ID) && (u0.Long == u1.Long)) && (u0.Fast == u1.Fast)) && (u0.Remote == u1.Remote))) (pk_and p (g := []) (m := 2) (b := ((u0.ID == u1.ID) && (u0.Long == u1.Long)) && (u0.Fast == u1.Fast)) (v := u0.Remote == u1.Remote) rfl (by kernel_rfl) (by kernel_rfl) (by kernel_rfl) rfl) ?_; intro a1 ad
 refine s1 ad 31 (.bool ((((u0.ID == u1.ID) && (u0.Long == u1.Long)) && (u0.Fast == u1.Fast)) && (u0.Remote == u1.Remote))) ?_; intro a2 ae
 have af := ae.atom (((((u0.ID == u1.ID) && (u0.Long == u1.Long)) && (u0.Fast == u1.Fast)) && (u0.Remote == u1.Remote)) == true) (by kernel_rfl)
 refine gp af 32 3 [] ((((u0.ID == u1.ID) && (u0.Long == u1.Long)) && (u0.Fast == u1.Fast)) && (u0.Remote == u1.Remote)) (pt c 4) rfl rfl ?_; intro a3 q
 refine gd q (i6 u0.Size) (m := 3) (cj := []) (bj := (((u0.ID == u1.ID) && (u0.Long == u1.Long)) && (u0.Fast == u1.Fast)) && (u0.Remote == u1.Remote)) rfl rfl (by kernel_rfl) rfl (by kernel_rfl) (by kernel_rfl) (by kernel_rfl) (fun hg => ld q a 1 (g := [3]) (b := c) (off := 4) (cs := (e25C u0 ao1 cap2)) (ty := 25) rfl (by kernel_rfl) (by kernel_rfl) (by kernel_rfl) (by kernel_rfl) hg) ?_; intro a4 ag
 refine gp ag 34 3 [] ((((u0.ID == u1.ID) && (u0.Long == u1.Long)) && (u0.Fast == u1.Fast)) && (u0.Remote == u1.Remote)) (pt d 4) rfl rfl ?_; intro a5 s
 refine gd s (i6 u1.Size) (m := 3) (cj := []) (bj := (((u0.ID == u1.ID) && (u0.Long == u1.Long)) && (u0.Fast == u1.Fast)) && (u0.Remote == u1.Remote)) rfl rfl (by kernel_rfl) rfl (by kernel_rfl) (by kernel_rfl) (by kernel_rfl) (fun hg => ld s a 0 (g := [3]) (b := d) (off := 4) (cs := (e25C u1 ao4 cap5)) (ty := 25) rfl (by kernel_rfl) (by kernel_rfl) (by kernel_rfl) (by kernel_rfl) hg) ?_; intro a6 ah
 refine gp ah 36 3 [] ((((u0.ID == u1.ID) && (u0.Long == u1.Long)) && (u0.Fast == u1.Fast)) && (u0.Remote == u1.Remote)) (.bool (u0.Size == u1.Size)) rfl rfl ?_; intro a7 t
 refine u_ t (.bool (((((u0.ID == u1.ID) && (u0.Long == u1.Long)) && (u0.Fast == u1.Fast)) && (u0.Remote == u1.Remote)) && (u0.Size == u1.Size))) (pk_and t (g := []) (m := 3) (b := (((u0.ID == u1.ID) && (u0.Long == u1.Long)) && (u0.Fast == u1.Fast)) && (u0.Remote == u1.Remote)) (v := u0.Size == u1.Size) rfl (by kernel_rfl) (by kernel_rfl) (by kernel_rfl) rfl) ?_; intro a8 ai
 refine s1 ai 38 (.bool (((((u0.ID == u1.ID) && (u0.Long == u1.Long)) && (u0.Fast == u1.Fast)) && (u0.Remote == u1.Remote)) && (u0.Size == u1.Size))) ?_; intro a9 aj
 have ak := aj.atom ((((((u0.ID == u1.ID) && (u0.Long == u1.Long)) && (u0.Fast == u1.Fast)) && (u0.Remote == u1.Remote)) && (u0.Size == u1.Size)) == true) (by kernel_rfl)
 refine gp ak 39 4 [] (((((u0.ID == u1.ID) && (u0.Long == u1.Long)) && (u0.Fast == u1.Fast)) && (u0.Remote == u1.Remote)) && (u0.Size == u1.Size)) (pt c 5) rfl rfl ?_; intro ba u
 refine gd u (.slice ao1 u0.Data.length cap2) (m := 4) (cj := []) (bj := ((((u0.ID == u1.ID) && (u0.Long == u1.Long)) && (u0.Fast == u1.Fast)) && (u0.Remote == u1.Remote)) && (u0.Size == u1.Size)) rfl rfl (by kernel_rfl) rfl (by kernel_rfl) (by kernel_rfl) (by kernel_rfl) (fun hg => ld u a 1 (g := [4]) (b := c) (off := 5) (cs := (e25C u0 ao1 cap2)) (ty := 25) rfl (by kernel_rfl) (by kernel_rfl) (by kernel_rfl) (by kernel_rfl) hg) ?_; intro bb al
 refine gp al 41 4 [] (((((u0.ID == u1.ID) && (u0.Long == u1.Long)) && (u0.Fast == u1.Fast)) && (u0.Remote == u1.Remote)) && (u0.Size == u1.Size)) (pt d 5) rfl rfl ?_; intro bc x
 refine gd x (.slice ao4 u1.Data.length cap5) (m := 4) (cj := []) (bj := ((((u0.ID == u1.ID) && (u0.Long == u1.Long)) && (u0.Fast == u1.Fast)) && (u0.Remote == u1.Remote)) && (u0.Size == u1.Size)) rfl rfl (by kernel_rfl) rfl (by kernel_rfl) (by kernel_rfl) (by kernel_rfl) (fun hg => ld x a 0 (g := [4]) (b := d) (off := 5) (cs := (e25C u1 ao4 cap5)) (ty := 25) rfl (by kernel_rfl) (by kernel_rfl) (by kernel_rfl) (by kernel_rfl) hg) ?_; intro bd am
 refine gcl am a (.bool (beqS u0.Data u1.Data)) 35 #[.slice ao1 u0.Data.length cap2, .slice ao4 u1.Data.length cap5] (m := 4) (cj := []) (bj := ((((u0.ID == u1.ID) && (u0.Long == u1.Long)) && (u0.Fast == u1.Fast)) && (u0.Remote == u1.Remote)) && (u0.Size == u1.Size)) rfl rfl (by kernel_rfl) rfl (by kernel_rfl) (by kernel_rfl) (by kernel_rfl) (fun _ => by kernel_rfl) (fun hg => beq_fun u0.Data u1.Data ao1 cap2 ao4 cap5 _ _ hs3 hs6 a.fz) ?_; intro be bf y ar
 refine u_ y (.bool ((((((u0.ID == u1.ID) && (u0.Long == u1.Long)) && (u0.Fast == u1.Fast)) && (u0.Remote == u1.Remote)) && (u0.Size == u1.Size)) && (beqS u0.Data u1.Data))) (pk_and y (g := []) (m := 4) (b := ((((u0.ID == u1.ID) && (u0.Long == u1.Long)) && (u0.Fast == u1.Fast)) && (u0.Remote == u1.Remote)) && (u0.Size == u1.Size)) (v := (beqS u0.Data u1.Data)) rfl (by kernel_rfl) (by kernel_rfl) (by kernel_rfl) rfl) ?_; intro bg an
 refine s1 an 4 (.bool ((((((u0.ID == u1.ID) && (u0.Long == u1.Long)) && (u0.Fast == u1.Fast)) && (u0.Remote == u1.Remote)) && (u0.Size == u1.Size)) && (beqS u0.Data u1.Data))) ?_; intro bh au
 apply H
 exact r_ (ra1 au (.bool ((((((u0.ID == u1.ID) && (u0.Long == u1.Long)) && (u0.Fast == u1.Fast)) && (u0.Remote == u1.Remote)) && (u0.Size == u1.Size)) && (beqS u0.Data u1.Data))) ⟨(((((u0.ID == u1.ID) && (u0.Long == u1.Long)) && (u0.Fast == u1.Fast)) && (u0.Remote == u1.Remote)) && (u0.Size == u1.Size)) && (beqS u0.Data u1.Data), rfl, ao, ar.below⟩)

theorem sameg_walk (u0 : Gate) (u1 : Gate) (ao1 : Option Addr) (cap2 : Nat) (ao4 : Option Addr) (cap5 : Nat) (ao7 : Option Addr) (cap8 : Nat) (ao10 : Option Addr) (cap11 : Nat) (Z : Fz) (w : World) (hs3 : SlR tyRoute Z ao1 cap2 u0.Routes) (hs6 : SlR t6 Z ao4 cap5 u0.Last) (hs9 : SlR tyRoute Z ao7 cap8 u1.Routes) (hs12 : SlR t6 Z ao10 cap11 u1.Last) (hZ : Z.on w) {K : Bool → Prop} (hp : sameg_vc u0 u1 K) : Calls Try.prog 17 #[.agg #[.slice ao1 u0.Routes.length cap2, .slice ao4 u0.Last.length cap5], .agg #[.slice ao7 u1.Routes.length cap8, .slice ao10 u1.Last.length cap11]] w fun e w' => ∃ r : Bool, e = .returned (.bool r) ∧ K r ∧ Below w.heap.size w w' := by
 refine enter0 Try.func17 rfl rfl (by kernel_rfl) ?_; intro M i; have j := Mem.start w Z hZ
 have G := hp (hs3.small) (hs6.small) (hs9.small) (hs12.small)
 refine sqH ?_; intro H o
 refine nw i j pb [.slice ao1 u0.Routes.length cap2, .slice ao4 u0.Last.length cap5] 37 ?_; intro p O P q s
 refine nw q s pb [.slice ao7 u1.Routes.length cap8, .slice ao10 u1.Last.length cap11] 37 ?_; intro t Q R u c
 refine s1 u 4 (.bool false) ?_; intro S x
 apply o
 refine sqH ?_; intro I y
 refine bt x c 4 [1, 0] [] [(6, .slice ao1 u0.Routes.length cap2), (8, .slice ao7 u1.Routes.length cap8)] ?_; intro T z
 refine fc z c (req_fun u0.Routes u1.Routes ao1 cap2 ao7 cap8 _ _ hs3 hs9 c.fz) ?_; intro U V A a
 refine s1 A 10 (.bool (reqS u0.Routes u1.Routes)) ?_; intro W B
 have C := B.atom ((reqS u0.Routes u1.Routes) == true) (by kernel_rfl)
 refine gp C 11 0 [] ((reqS u0.Routes u1.Routes)) (pt p 1) rfl rfl ?_; intro X d
 refine gd d (.slice ao4 u0.Last.length cap5) (m := 0) (cj := []) (bj := (reqS u0.Routes u1.Routes)) rfl rfl (by kernel_rfl) rfl (by kernel_rfl) (by kernel_rfl) (by kernel_rfl) (fun hg => ld d a 1 (g := [0]) (b := p) (off := 1) (cs := [.slice ao1 u0.Routes.length cap2, .slice ao4 u0.Last.length cap5]) (ty := 37) rfl (by kernel_rfl) (by kernel_rfl) (by kernel_rfl) (by kernel_rfl) hg) ?_; intro Y D
 refine gp D 13 0 [] ((reqS u0.Routes u1.Routes)) (pt t 1) rfl rfl ?_; intro aa f
 refine gd f (.slice ao10 u1.Last.length cap11) (m := 0) (cj := []) (bj := (reqS u0.Routes u1.Routes)) rfl rfl (by kernel_rfl) rfl (by kernel_rfl) (by kernel_rfl) (by kernel_rfl) (fun hg => ld f a 0 (g := [0]) (b := t) (off := 1) (cs := [.slice ao7 u1.Routes.length cap8, .slice ao10 u1.Last.length cap11]) (ty := 37) rfl (by kernel_rfl) (by kernel_rfl) (by kernel_rfl) (by kernel_rfl) hg) ?_; intro ab E
 refine gcl E a (.bool (ieqS u0.Last u1.Last)) 39 #[.slice ao4 u0.Last.length cap5, .slice ao10 u1.Last.length cap11] (m := 0) (cj := []) (bj := (reqS u0.Routes u1.Routes)) rfl rfl (by kernel_rfl) rfl (by kernel_rfl) (by kernel_rfl) (by kernel_rfl) (fun _ => by kernel_rfl) (fun hg => ieq_fun u0.Last u1.Last ao4 cap5 ao10 cap11 _ _ hs6 hs12 a.fz) ?_; intro ac ad h J
 refine u_ h (.bool ((reqS u0.Routes u1.Routes) && (ieqS u0.Last u1.Last))) (pk_and h (g := []) (m := 0) (b := (reqS u0.Routes u1.Routes)) (v := (ieqS u0.Last u1.Last)) rfl (by kernel_rfl) (by kernel_rfl) (by kernel_rfl) rfl) ?_; intro ae F
 refine s1 F 4 (.bool ((reqS u0.Routes u1.Routes) && (ieqS u0.Last u1.Last))) ?_; intro af L
 apply y
 exact r_ (ra1 L (.bool ((reqS u0.Routes u1.Routes) && (ieqS u0.Last u1.Last))) ⟨(reqS u0.Routes u1.Routes) && (ieqS u0.Last u1.Last), rfl, G, J.below⟩)

theorem lsame_walk (u0 : Line) (u1 : Line) (ao1 : Option Addr) (cap2 : Nat) (ao4 : Option Addr) (cap5 : Nat) (cb7 co8 : Nat) (Z : Fz) (w : World) (hs3 : SlR t8 Z ao1 cap2 u0.F.Data) (hs6 : SlR t8 Z ao4 cap5 u1.F.Data) (hP9 : PtR Z cb7 co8 [.func (.func 54) #[] #[]]) (hZ : Z.on w) {K : Bool → Prop} (hp : lsame_vc u0 u1 K) : Calls Try.prog 57 #[.agg #[i6 u0.Time, i6 u0.Bus, i6 u0.F.ID, .bool u0.F.Long, .bool u0.F.Fast, .bool u0.F.Remote, i6 u0.F.Size, .slice ao1 u0.F.Data.length cap2], .agg #[i6 u1.Time, i6 u1.Bus, i6 u1.F.ID, .bool u1.F.Long, .bool u1.F.Fast, .bool u1.F.Remote, i6 u1.F.Size, .slice ao4 u1.F.Data.length cap5], pt cb7 co8] w fun e w' => ∃ r : Bool, e = .returned (.bool r) ∧ K r ∧ Below w.heap.size w w' := by
 refine enter0 Try.func57 rfl rfl (by kernel_rfl) ?_; intro u b; have c := Mem.start w Z hZ
 have p := hp (hs3.small) (hs6.small)
 refine sqH ?_; intro q f
 refine nw b c pb (e42C u0 ao1 cap2) 42 ?_; intro x y z g h
 refine nw g h pb (e42C u1 ao4 cap5) 42 ?_; intro A B C i a
 refine s1 i 5 (.bool false) ?_; intro D j
 apply f
 refine sqH ?_; intro s k
 refine z1 j a 6 hP9 0 (.func (.func 54) #[] #[]) rfl ?_; intro E l
 refine bt l a 2 [1, 0] [] [(7, .agg (e42C u0 ao1 cap2).toArray), (8, .agg (e42C u1 ao4 cap5).toArray)] ?_; intro G m
 refine fc m a (lless_fun u0 u1 ao1 cap2 ao4 cap5 _ _ hs3 hs6 a.fz) ?_; intro H I n o
 refine bt n o 2 [] [] [(5, .bool ((llessS u0 u1) == 0))] ?_; intro J t
 apply k
 exact r_ (ra1 t (.bool ((llessS u0 u1) == 0)) ⟨(llessS u0 u1) == 0, rfl, p, o.below⟩)
def lsame_fun (u0 : Line) (u1 : Line) (ao1 : Option Addr) (cap2 : Nat) (ao4 : Option Addr) (cap5 : Nat) (cb7 co8 : Nat) (Z : Fz) (w : World) (hs3 : SlR t8 Z ao1 cap2 u0.F.Data) (hs6 : SlR t8 Z ao4 cap5 u1.F.Data) (hP9 : PtR Z cb7 co8 [.func (.func 54) #[] #[]]) (hZ : Z.on w) := f_ (lsame_walk u0 u1 ao1 cap2 ao4 cap5 cb7 co8 Z w hs3 hs6 hP9 hZ (lsame_ok u0 u1))
end Go.Proofs.Ytmkdnaecmombnaa
set_option linter.unusedVariables false
set_option linter.unusedSimpArgs false
set_option linter.defProp false
set_option maxRecDepth 100000
set_option maxHeartbeats 0
namespace Go.Proofs.Ytmkdnaecmombnaa
open Go.Sy Go.RowKit
abbrev e25D (X : Frame) (A0 : Option Addr) (C0 : Nat) : List Value := [i6 X.ID, .bool X.Long, .bool X.Fast, .bool X.Remote, i6 X.Size, .slice A0 X.Data.length C0]
abbrev e29D (X : Route) : List Value := [i6 X.From, i6 X.To, i6 X.F.Want, i6 X.F.Mask, .bool X.F.Long, i6 X.Add, i6 X.Every]
abbrev e75D (X : Key) : List Value := [i6 X.bus, i6 X.id, .bool X.long]
def carry_fun (u0 : Route) (u1 : Int) (u2 : Frame) (hpre : fcheckfr u2 = 0 ∧ -536870911 ≤ u0.Add ∧ u0.Add ≤ 536870911) (ao1 : Option Addr) (cap2 : Nat) (Z : Fz) (w : World) (hs3 : SlR t8 Z ao1 cap2 u2.Data) (hZ : Z.on w) := fc_ (carry_walk u0 u1 u2 ao1 cap2 Z w hs3 hZ (carry_ok u0 u1 u2 hpre))
theorem mkKey_dec (a b : Key) : ((a.bus == b.bus) && ((a.id == b.id) && ((a.long == b.long) && true))) = decide (a = b) := by
  cases a; cases b
  rw [Bool.eq_iff_iff]
  simp
theorem mkKey : MKey Try.prog 75 (fun x : Key => .agg #[i6 x.bus, i6 x.id, .bool x.long]) :=
  MKey.agg (c := fun x : Key => #[i6 x.bus, i6 x.id, .bool x.long]) (by kernel_rfl) (fun _ _ _ => by kernel_rfl) (fun a b => (show fieldsEq Try.prog #[i6 a.bus, i6 a.id, .bool a.long] #[i6 b.bus, i6 b.id, .bool b.long] (Try.prog.fieldsOf 75).toList = some ((a.bus == b.bus) && ((a.id == b.id) && ((a.long == b.long) && true))) by kernel_rfl).trans (congrArg some (mkKey_dec a b))) (fun a => by simp [Instr.sameBits])

theorem go1_walk (u0 : Int) (u1 : Frame) (u2 : List Key) (u3 : Bool) (u4 : List (Key × Bool)) (u5 : Bool) (u6 : Int) (u7 : Gate) (u8 : List Line) (ao1 : Option Addr) (cap2 : Nat) (ao4 : Option Addr) (cap5 : Nat) (b7 : Nat) (cb8 co9 : Nat) (mb10 : Nat) (b12 : Nat) (b13 : Nat) (cb20 co21 : Nat) (ao14 : Option Addr) (cap15 : Nat) (ao17 : Option Addr) (cap18 : Nat) (b23 : Nat) (ao24 : Option Addr) (cap25 : Nat) (cb26 co27 : Nat) (B : Nat) (w0 : World) (Z0 : Fz) (Rr : List Res) (Z : Fz) (w : World) (hs3 : SlR t8 Z ao1 cap2 u1.Data) (hs6 : SlR tyKey Z ao4 cap5 u2) (hP11 : PtR Z cb8 co9 [.map (some mb10)]) (hP22 : PtR Z cb20 co21 [.slice ao14 u7.Routes.length cap15, .slice ao17 u7.Last.length cap18]) (hs16 : SlR tyRoute Z ao14 cap15 u7.Routes) (hs19 : SlR t6 Z ao17 cap18 u7.Last) (hP28 : PtR Z cb26 co27 [.func (.func 28) #[] #[pt b7 0, pt cb8 co9, pt b12 0, pt b13 0, pt cb20 co21, pt b23 0, pt cb26 co27]]) (hM0 : Mem B [] w0 Z0 ((.row b7 [.bool u3] 4) :: (.map (fun x : Key => .agg #[i6 x.bus, i6 x.id, .bool x.long]) (fun x : Bool => .bool x) mb10 u4) :: (.row b12 [.bool u5] 4) :: (.row b13 [i6 u6] 3) :: (.row b23 [.slice ao24 u8.length cap25] 31) :: (.own tyLine 42 ao24 cap25 u8) :: Rr) Z w) (hZ : Z.on w) (ih : ∀ (u0' : Int) (u1' : Frame) (u2' : List Key) (u3' : Bool) (u4' : List (Key × Bool)) (u5' : Bool) (u6' : Int) (u7' : Gate) (u8' : List Line), (goMu u0' u1' u2' u3' u4' u5' u6' u7' u8' < goMu u0 u1 u2 u3 u4 u5 u6 u7 u8 ∧ goPre u0' u1' u2' u3' u4' u5' u6' u7' u8') → ∀ (ao1 : Option Addr) (cap2 : Nat) (ao4 : Option Addr) (cap5 : Nat) (b7 : Nat) (cb8 co9 : Nat) (mb10 : Nat) (b12 : Nat) (b13 : Nat) (cb20 co21 : Nat) (ao14 : Option Addr) (cap15 : Nat) (ao17 : Option Addr) (cap18 : Nat) (b23 : Nat) (ao24 : Option Addr) (cap25 : Nat) (cb26 co27 : Nat) (B : Nat) (w0 : World) (Z0 : Fz) (Rr : List Res) (Z : Fz) (w : World) (hs3 : SlR t8 Z ao1 cap2 u1'.Data) (hs6 : SlR tyKey Z ao4 cap5 u2') (hP11 : PtR Z cb8 co9 [.map (some mb10)]) (hP22 : PtR Z cb20 co21 [.slice ao14 u7'.Routes.length cap15, .slice ao17 u7'.Last.length cap18]) (hs16 : SlR tyRoute Z ao14 cap15 u7'.Routes) (hs19 : SlR t6 Z ao17 cap18 u7'.Last) (hP28 : PtR Z cb26 co27 [.func (.func 28) #[] #[pt b7 0, pt cb8 co9, pt b12 0, pt b13 0, pt cb20 co21, pt b23 0, pt cb26 co27]]) (hM0 : Mem B [] w0 Z0 ((.row b7 [.bool u3'] 4) :: (.map (fun x : Key => .agg #[i6 x.bus, i6 x.id, .bool x.long]) (fun x : Bool => .bool x) mb10 u4') :: (.row b12 [.bool u5'] 4) :: (.row b13 [i6 u6'] 3) :: (.row b23 [.slice ao24 u8'.length cap25] 31) :: (.own tyLine 42 ao24 cap25 u8') :: Rr) Z w) (hZ : Z.on w), Calls Try.prog 28 #[i6 u0', .agg #[i6 u1'.ID, .bool u1'.Long, .bool u1'.Fast, .bool u1'.Remote, i6 u1'.Size, .slice ao1 u1'.Data.length cap2], .slice ao4 u2'.length cap5, pt b7 0, pt cb8 co9, pt b12 0, pt b13 0, pt cb20 co21, pt b23 0, pt cb26 co27] w fun e w' => ∃ (ao1001 : Option Addr) (cap1002 : Nat) (Z' : Fz), e = .returned (.tuple #[]) ∧ Fz.le Z Z' ∧ Mem B [] w0 Z0 ((.row b7 [.bool (goS u0' u1' u2' u3' u4' u5' u6' u7' u8').1] 4) :: (.row b12 [.bool (goS u0' u1' u2' u3' u4' u5' u6' u7' u8').2.1] 4) :: (.row b13 [i6 (goS u0' u1' u2' u3' u4' u5' u6' u7' u8').2.2.1] 3) :: (.map (fun x : Key => .agg #[i6 x.bus, i6 x.id, .bool x.long]) (fun x : Bool => .bool x) mb10 (goS u0' u1' u2' u3' u4' u5' u6' u7' u8').2.2.2.1) :: (.row b23 [.slice ao1001 (goS u0' u1' u2' u3' u4' u5' u6' u7' u8').2.2.2.2.length cap1002] 31) :: (.own tyLine 42 ao1001 cap1002 (goS u0' u1' u2' u3' u4' u5' u6' u7' u8').2.2.2.2) :: Rr) Z' w') {K : (Bool × Bool × Int × (List (Key × Bool)) × (List Line)) → Prop} (hp : go1_vc u0 u1 u2 u3 u4 u5 u6 u7 u8 K) : Calls Try.prog 28 #[i6 u0, .agg #[i6 u1.ID, .bool u1.Long, .bool u1.Fast, .bool u1.Remote, i6 u1.Size, .slice ao1 u1.Data.length cap2], .slice ao4 u2.length cap5, pt b7 0, pt cb8 co9, pt b12 0, pt b13 0, pt cb20 co21, pt b23 0, pt cb26 co27] w fun e w' => ∃ (r : Bool × Bool × Int × (List (Key × Bool)) × (List Line)) (ao1001 : Option Addr) (cap1002 : Nat) (Z' : Fz), e = .returned (.tuple #[]) ∧ K r ∧ Fz.le Z Z' ∧ Mem B [] w0 Z0 ((.row b7 [.bool r.1] 4) :: (.row b12 [.bool r.2.1] 4) :: (.row b13 [i6 r.2.2.1] 3) :: (.map (fun x : Key => .agg #[i6 x.bus, i6 x.id, .bool x.long]) (fun x : Bool => .bool x) mb10 r.2.2.2.1) :: (.row b23 [.slice ao1001 r.2.2.2.2.length cap1002] 31) :: (.own tyLine 42 ao1001 cap1002 r.2.2.2.2) :: Rr) Z' w' := by
 refine enter0 Try.func28 rfl rfl (by kernel_rfl) ?_; intro a0 a8; have u := Fz.le.refl Z
 have av := hp (hs3.small) (hs6.small)
 refine sqH ?_; intro cW ba
 refine nw a8 hM0 pb (e25D u1 ao1 cap2) 25 ?_; intro f ea eb bb aH
 apply ba
 refine sqH ?_; intro cX bc
 refine bt bb aH 6 [0, 0] [] [(24, .agg #[i6 u0, i6 u1.ID, .bool u1.Long])] ?_; intro ec bd
 refine nw bd aH pb [i6 0, i6 0, .bool false] 75 ?_; intro c ed ee aI be
 refine sx aI be 0 [i6 u0, i6 u1.ID, .bool u1.Long] 0 ?_; intro cY bf
 have aw : Mem B [] w0 Z0 ((.row c [i6 u0, i6 u1.ID, .bool u1.Long] 75) :: (.row f (e25D u1 ao1 cap2) 25) :: (.row b7 [.bool u3] 4) :: (.map (fun x : Key => .agg (e75D x).toArray) (fun x : Bool => .bool x) mb10 u4) :: (.row b12 [.bool u5] 4) :: (.row b13 [i6 u6] 3) :: (.row b23 [.slice ao24 u8.length cap25] 31) :: (.own tyLine 42 ao24 cap25 u8) :: Rr) Z cY := bf
 apply bc
 refine s_ (sqH ?_); intro cZ bg
 refine bt aI aw 2 [0] [] [(25, .slice ao4 u2.length cap5), (26, .agg #[i6 u0, i6 u1.ID, .bool u1.Long])] ?_; intro ef bh
 refine fc bh aw (kcontains_fun u2 (⟨u0, u1.ID, u1.Long⟩ : Key) ao4 cap5 _ _ hs6 aw.fz) ?_; intro eg eh ad L
 apply bg
 refine c_ ad av (fun _ c0 => ?_) fun _ ax => ?_
 ·
  refine sqH ?_; intro c1 bi
  refine sx ad L 2 [.bool true] 0 ?_; intro c2 bk
  have c3 : Mem B [] w0 Z0 ((.row c [i6 u0, i6 u1.ID, .bool u1.Long] 75) :: (.row f (e25D u1 ao1 cap2) 25) :: (.row b7 [.bool true] 4) :: (.map (fun x : Key => .agg (e75D x).toArray) (fun x : Bool => .bool x) mb10 u4) :: (.row b12 [.bool u5] 4) :: (.row b13 [i6 u6] 3) :: (.row b23 [.slice ao24 u8.length cap25] 31) :: (.own tyLine 42 ao24 cap25 u8) :: Rr) Z c2 := bk
  apply bi
  refine r_ (h_ (rt (fn := Try.f28) (v := .tuple #[]) ad (re0 ad (fn := Try.f28) rfl) ?_))
  have c4 := c3.perm ((pk 2 rfl).trans (((pk 3 rfl).trans (((pk 3 rfl).trans (((pk 2 rfl).trans (((pk 2 rfl).trans (((pk 2 rfl).trans (lpr.cons _)).cons _)).cons _)).cons _)).cons _)).cons _))
  exact ⟨(true, u5, u6, u4, u8), ao24, cap25, Z, rfl, c0, u, c4.kp⟩
 refine k_ (s_ (sqH ?_)); intro c5 bl
 refine z1 ad L 28 hP11 0 (.map (some mb10)) rfl ?_; intro ei bm
 refine l2 bm L 29 0 0 3 [i6 u0, i6 u1.ID, .bool u1.Long] rfl rfl ?_; intro ej bn
 refine lk1 bn L 3 (m := u4) (⟨u0, u1.ID, u1.Long⟩ : Key) (false : Bool) (t := 71) (kt := 75) (et := 4) (nog rfl _) rfl (by kernel_rfl) rfl (by kernel_rfl) (by kernel_rfl) rfl mkKey (by kernel_rfl) (by kernel_rfl) ?_; intro ek bo
 refine bt bo L 3 [4] [] [(33, .bool (((mget u4 (⟨u0, u1.ID, u1.Long⟩ : Key)).getD (false : Bool)) || u5))] ?_; intro el aj
 apply bl
 refine c_ aj ax (fun _ c6 => ?_) fun _ ay => ?_
 ·
  refine r_ (h_ (rt (fn := Try.f28) (v := .tuple #[]) aj (re0 aj (fn := Try.f28) rfl) ?_))
  have c7 := L.perm ((pk 2 rfl).trans (((pk 3 rfl).trans (((pk 3 rfl).trans (((pk 2 rfl).trans (((pk 2 rfl).trans (((pk 2 rfl).trans (lpr.cons _)).cons _)).cons _)).cons _)).cons _)).cons _))
  exact ⟨(u3, u5, u6, u4, u8), ao24, cap25, Z, rfl, c6, u, c7.kp⟩
 refine k_ (s_ (sqH ?_)); intro c8 bp
 refine bt aj L 2 [5] [] [(35, i6 (w64 (u6 + 1)))] ?_; intro em aL
 refine sx aL L 5 [i6 (w64 (u6 + 1))] 0 ?_; intro c9 bq
 have ak : Mem B [] w0 Z0 ((.row c [i6 u0, i6 u1.ID, .bool u1.Long] 75) :: (.row f (e25D u1 ao1 cap2) 25) :: (.row b7 [.bool u3] 4) :: (.map (fun x : Key => .agg (e75D x).toArray) (fun x : Bool => .bool x) mb10 u4) :: (.row b12 [.bool u5] 4) :: (.row b13 [i6 (w64 (u6 + 1))] 3) :: (.row b23 [.slice ao24 u8.length cap25] 31) :: (.own tyLine 42 ao24 cap25 u8) :: Rr) Z c9 := bq
 apply bp
 refine sqB aL ak [5] [] [(37, .bool (decide ((w64 (u6 + 1)) > 1000)))] ?_; intro da ae
 refine c_ ae ay (fun _ db => ?_) fun _ dg => ?_
 ·
  refine sqH ?_; intro dc br
  refine sx ae ak 4 [.bool true] 0 ?_; intro dd bs
  have de : Mem B [] w0 Z0 ((.row c [i6 u0, i6 u1.ID, .bool u1.Long] 75) :: (.row f (e25D u1 ao1 cap2) 25) :: (.row b7 [.bool u3] 4) :: (.map (fun x : Key => .agg (e75D x).toArray) (fun x : Bool => .bool x) mb10 u4) :: (.row b12 [.bool true] 4) :: (.row b13 [i6 (w64 (u6 + 1))] 3) :: (.row b23 [.slice ao24 u8.length cap25] 31) :: (.own tyLine 42 ao24 cap25 u8) :: Rr) Z dd := bs
  apply br
  refine r_ (h_ (rt (fn := Try.f28) (v := .tuple #[]) ae (re0 ae (fn := Try.f28) rfl) ?_))
  have df := de.perm ((pk 2 rfl).trans (((pk 3 rfl).trans (((pk 3 rfl).trans (((pk 2 rfl).trans (((pk 2 rfl).trans (((pk 2 rfl).trans (lpr.cons _)).cons _)).cons _)).cons _)).cons _)).cons _))
  exact ⟨(u3, true, w64 (u6 + 1), u4, u8), ao24, cap25, Z, rfl, db, u, df.kp⟩
 apply k_
 have bu : Fr 95 [] [⟨0, [], i6 u0⟩, ⟨2, [], .slice ao4 u2.length cap5⟩, ⟨4, [], pt cb8 co9⟩, ⟨7, [], pt cb20 co21⟩, ⟨8, [], pt b23 0⟩, ⟨9, [], pt cb26 co27⟩, ⟨11, [], pt f 0⟩, ⟨13, [], pt c 0⟩] da := ae.reg
 refine wp_seq (rgS mixed ak [(0, true), (1, true), (2, true), (3, true), (4, true), (6, true), (5, true), (7, false), (8, false), (9, true)] [] [0] [.row c [i6 u0, i6 u1.ID, .bool u1.Long] 75] ?_)
 intro dh bv en bw
 have bx := Fz.le.refl Z
 refine cS bu 6 [0] [] [(38, .slice ao4 u2.length cap5), (40, i6 (u2.length : Int)), (42, i6 (u2.length : Int)), (44, .agg #[i6 u0, i6 u1.ID, .bool u1.Long])] ?_; intro eo aN
 refine cst rfl aN (.slice ao4 u2.length u2.length) (nog rfl _) rfl (by kernel_rfl) (fun v131 hC => sl3z_run aN hs6 (k1 := .i64) (k2 := .i64) (e := 75) (bytes := 24) rfl (by kernel_rfl) (by kernel_rfl) (by kernel_rfl) (by kernel_rfl)) ?_; intro ep bz
 refine eS rfl ?_; intro di bA
 refine nw bz bw (fun b => .slice (sm b) 1 1) [i6 u0, i6 u1.ID, .bool u1.Long] 75 ?_; intro y eq er bB az
 refine nl (qnI (bA _ _ (az.cst bx [1]) ?_))
 refine eS rfl ?_; intro dj bC
 obtain ⟨dk, dl⟩ := dg
 refine apF bB az (T := tyKey) (xs := u2) (ys := [(⟨u0, u1.ID, u1.Long⟩ : Key)]) (ao2 := (sm y)) (cap2 := 1) (t := 73) (e := 75) (bytes := 24) (nog rfl _) rfl (by kernel_rfl) (by decide) rfl (by kernel_rfl) (by kernel_rfl) (by kernel_rfl) hs6 (Src.row az 0 rfl (RepAll.one (T := tyKey) (x := (⟨u0, u1.ID, u1.Long⟩ : Key)) rfl)) (by simp) dk ?_; intro p q es bD bE bF
 have aA : Mem B [] w0 Z0 ((.own tyKey 75 p q (u2 ++ [(⟨u0, u1.ID, u1.Long⟩ : Key)])) :: (.row y [i6 u0, i6 u1.ID, .bool u1.Long] 75) :: (.row c [i6 u0, i6 u1.ID, .bool u1.Long] 75) :: (.row f (e25D u1 ao1 cap2) 25) :: (.row b7 [.bool u3] 4) :: (.map (fun x : Key => .agg (e75D x).toArray) (fun x : Bool => .bool x) mb10 u4) :: (.row b12 [.bool u5] 4) :: (.row b13 [i6 (w64 (u6 + 1))] 3) :: (.row b23 [.slice ao24 u8.length cap25] 31) :: (.own tyLine 42 ao24 cap25 u8) :: Rr) Z bD := bF
 refine nl (qnI (bC _ _ (aA.cst bx [2]) ?_))
 refine cS bE 1 [] [] [(2, .slice p (u2 ++ [(⟨u0, u1.ID, u1.Long⟩ : Key)]).length q)] ?_; intro eu bG
 refine nS (bv _ _ ?_)
 refine t_ (s_ (sqH ?_)); intro dm bH
 refine s1 bG 47 (pt cb20 co21) ?_; intro ev bI
 refine z1 bI aA 48 hP22 0 (.slice ao14 u7.Routes.length cap15) rfl ?_; intro ew bJ
 refine bt bJ aA 2 [] [] [(49, i6 (u7.Routes.length : Int)), (50, i6 0)] ?_; intro bK bL
 apply bH
 apply b_
 have bM : Fr 95 [] [⟨0, [], i6 u0⟩, ⟨2, [], .slice p (u2 ++ [(⟨u0, u1.ID, u1.Long⟩ : Key)]).length q⟩, ⟨4, [], pt cb8 co9⟩, ⟨8, [], pt b23 0⟩, ⟨9, [], pt cb26 co27⟩, ⟨11, [], pt f 0⟩, ⟨13, [], pt c 0⟩, ⟨48, [], .slice ao14 u7.Routes.length cap15⟩, ⟨49, [], i6 (u7.Routes.length : Int)⟩, ⟨50, [], i6 0⟩] bK := bL.reg
 obtain ⟨aO, R, bN, dn⟩ := aA.freeze 0 rfl
 replace hs3 := hs3.mono R
 replace hP11 := hP11.mono R
 replace hs16 := hs16.mono R
 replace hs19 := hs19.mono R
 replace hP22 := hP22.mono R
 replace hP28 := hP28.mono R
 replace u := Fz.le.trans u R
 have bO : Mem B [] w0 Z0 ((.row y [i6 u0, i6 u1.ID, .bool u1.Long] 75) :: (.row c [i6 u0, i6 u1.ID, .bool u1.Long] 75) :: (.row f (e25D u1 ao1 cap2) 25) :: (.row b7 [.bool u3] 4) :: (.map (fun x : Key => .agg (e75D x).toArray) (fun x : Bool => .bool x) mb10 u4) :: (.row b12 [.bool u5] 4) :: (.row b13 [i6 (w64 (u6 + 1))] 3) :: (.row b23 [.slice ao24 u8.length cap25] 31) :: (.own tyLine 42 ao24 cap25 u8) :: Rr) aO bD := bN
 have bP : Fr 95 [] [⟨0, [], i6 u0⟩, ⟨2, [], .slice p (u2 ++ [(⟨u0, u1.ID, u1.Long⟩ : Key)]).length q⟩, ⟨4, [], pt cb8 co9⟩, ⟨8, [], pt b23 0⟩, ⟨9, [], pt cb26 co27⟩, ⟨11, [], pt f 0⟩, ⟨13, [], pt c 0⟩, ⟨48, [], .slice ao14 u7.Routes.length cap15⟩, ⟨49, [], i6 (u7.Routes.length : Int)⟩, ⟨50, [], i6 0⟩] bK := bM.reg
 obtain ⟨dp, dq, dr, ds⟩ := dl
 refine lp (ι := Int × Bool × (List (Key × Bool)) × Bool × Int × (List Line) × (Option Addr) × Nat × Fz) (fun s => [⟨0, [], i6 u0⟩, ⟨2, [], .slice p (u2 ++ [(⟨u0, u1.ID, u1.Long⟩ : Key)]).length q⟩, ⟨4, [], pt cb8 co9⟩, ⟨8, [], pt b23 0⟩, ⟨9, [], pt cb26 co27⟩, ⟨11, [], pt f 0⟩, ⟨13, [], pt c 0⟩, ⟨48, [], .slice ao14 u7.Routes.length cap15⟩, ⟨49, [], i6 (u7.Routes.length : Int)⟩, ⟨50, [], i6 s.1⟩]) (fun s => ((.row y [i6 u0, i6 u1.ID, .bool u1.Long] 75) :: (.row c [i6 u0, i6 u1.ID, .bool u1.Long] 75) :: (.row f (e25D u1 ao1 cap2) 25) :: (.row b7 [.bool s.2.1] 4) :: (.map (fun x : Key => .agg (e75D x).toArray) (fun x : Bool => .bool x) mb10 s.2.2.1) :: (.row b12 [.bool s.2.2.2.1] 4) :: (.row b13 [i6 s.2.2.2.2.1] 3) :: (.row b23 [.slice s.2.2.2.2.2.2.1 s.2.2.2.2.2.1.length s.2.2.2.2.2.2.2.1] 31) :: (.own tyLine 42 s.2.2.2.2.2.2.1 s.2.2.2.2.2.2.2.1 s.2.2.2.2.2.1) :: Rr)) (fun s => s.2.2.2.2.2.2.2.2) (fun s => dp s.1 s.2.1 s.2.2.1 s.2.2.2.1 s.2.2.2.2.1 s.2.2.2.2.2.1 ∧ Fz.le aO s.2.2.2.2.2.2.2.2) (fun s => dq s.1 s.2.1 s.2.2.1 s.2.2.2.1 s.2.2.2.2.1 s.2.2.2.2.2.1) ⟨0, u3, u4, u5, w64 (u6 + 1), u8, ao24, cap25, aO⟩ ⟨dr, Fz.le.refl _⟩ (by exact bP.reg) (by exact bO) ?_
 rintro ⟨z, A, d, C, D, h, l, n, aB⟩ ⟨dt, o⟩ du dv bQ bR
 have aC := ds z A d C D h dt
 replace u := Fz.le.trans u o
 have aa := hs3.mono o
 have M := hP11.mono o
 have P := hs16.mono o
 have U := hs19.mono o
 have V := hP22.mono o
 have N := hP28.mono o
 have Q := dn.mono o
 refine sqB bQ bR [] [] [(51, .bool (decide (z < (u7.Routes.length : Int))))] ?_; intro ey al
 refine s_ (c_ al aC (fun _ dw => ?_) fun _ d5 => ?_)
 ·
  refine k_ (s_ (b_ (sqH ?_))); intro dx bT
  obtain ⟨dy, bU⟩ := dw
  refine ix_ al P z dy .i64 29 56 ?_; intro ez eA dz a eB dA ab dB bV
  have dC := bU a dA
  obtain rfl : dz = ((e29D a) : List Value) := dB
  refine z2 bV bR 53 ab 0 7 (e29D a) rfl ?_; intro eC bW
  refine nw bW bR pb [i6 0, i6 0, i6 0, i6 0, .bool false, i6 0, i6 0] 29 ?_; intro O eD eE aQ bX
  refine sx aQ bX 0 (e29D a) 0 ?_; intro dD bY
  have aD : Mem B [] w0 Z0 ((.row O (e29D a) 29) :: (.row y [i6 u0, i6 u1.ID, .bool u1.Long] 75) :: (.row c [i6 u0, i6 u1.ID, .bool u1.Long] 75) :: (.row f (e25D u1 ao1 cap2) 25) :: (.row b7 [.bool A] 4) :: (.map (fun x : Key => .agg (e75D x).toArray) (fun x : Bool => .bool x) mb10 d) :: (.row b12 [.bool C] 4) :: (.row b13 [i6 D] 3) :: (.row b23 [.slice l h.length n] 31) :: (.own tyLine 42 l n h) :: Rr) aB dD := bY
  apply bT
  refine sqH ?_; intro dE bZ
  refine bt aQ aD 3 [0, 3] [] [(55, .agg (e29D a).toArray), (56, i6 u0), (57, .agg (e25D u1 ao1 cap2).toArray)] ?_; intro eF b0
  obtain ⟨dF, b1⟩ := dC
  refine ck b0 30 #[.agg (e29D a).toArray, i6 u0, .agg (e25D u1 ao1 cap2).toArray] ?_
  refine (carry_fun a u0 u1 dF ao1 cap2 _ _ aa aD.fz).mono ?_; rintro _ dG ⟨i, j, ag, rfl, W, hm⟩; refine ⟨_, rfl, ?_⟩; intro eG b2; have b3 := aD.callZ hm; have H := hm.ext.le
  replace M := M.mono H
  replace P := P.mono H
  replace U := U.mono H
  replace V := V.mono H
  replace N := N.mono H
  replace Q := Q.mono H
  replace o := o.mono H
  have aR : Mem B [] w0 Z0 ((.row O (e29D a) 29) :: (.row y [i6 u0, i6 u1.ID, .bool u1.Long] 75) :: (.row c [i6 u0, i6 u1.ID, .bool u1.Long] 75) :: (.row f (e25D u1 ao1 cap2) 25) :: (.row b7 [.bool A] 4) :: (.map (fun x : Key => .agg (e75D x).toArray) (fun x : Bool => .bool x) mb10 d) :: (.row b12 [.bool C] 4) :: (.row b13 [i6 D] 3) :: (.row b23 [.slice l h.length n] 31) :: (.own tyLine 42 l n h) :: Rr) ag dG := b3
  have aE := b1 (W.small)
  refine bt b2 aR 3 [] [] [(59, .agg (e25D ((carryS a u0 u1).1) i j).toArray), (60, .bool (carryS a u0 u1).2)] ?_; intro eH b4
  refine nw b4 aR pb [i6 0, .bool false, .bool false, .bool false, i6 0, .slice none 0 0] 25 ?_; intro X eI eJ aS b5
  refine sx aS b5 0 (e25D ((carryS a u0 u1).1) i j) 0 ?_; intro dH b6
  refine s1 aS 17 (.bool (carryS a u0 u1).2) ?_; intro eK b8
  have ah : Mem B [] w0 Z0 ((.row X (e25D ((carryS a u0 u1).1) i j) 25) :: (.row O (e29D a) 29) :: (.row y [i6 u0, i6 u1.ID, .bool u1.Long] 75) :: (.row c [i6 u0, i6 u1.ID, .bool u1.Long] 75) :: (.row f (e25D u1 ao1 cap2) 25) :: (.row b7 [.bool A] 4) :: (.map (fun x : Key => .agg (e75D x).toArray) (fun x : Bool => .bool x) mb10 d) :: (.row b12 [.bool C] 4) :: (.row b13 [i6 D] 3) :: (.row b23 [.slice l h.length n] 31) :: (.own tyLine 42 l n h) :: Rr) ag dH := b6
  apply bZ
  refine sqB b8 ah [] [] [(61, .bool (carryS a u0 u1).2)] ?_; intro eL am
  refine c_ am aE (fun _ aF => ?_) fun _ cR => ?_
  ·
   refine s_ (sqH ?_); intro dI b9
   refine bt am ah 7 [1, 0, 0] [] [(68, .agg #[i6 a.To, i6 (carryS a u0 u1).1.ID, .bool (carryS a u0 u1).1.Long])] ?_; intro eM ca
   refine nw ca ah pb [i6 0, i6 0, .bool false] 75 ?_; intro ai eN eO aU cb
   refine sx aU cb 0 [i6 a.To, i6 (carryS a u0 u1).1.ID, .bool (carryS a u0 u1).1.Long] 0 ?_; intro dJ cc
   have ac : Mem B [] w0 Z0 ((.row ai [i6 a.To, i6 (carryS a u0 u1).1.ID, .bool (carryS a u0 u1).1.Long] 75) :: (.row X (e25D ((carryS a u0 u1).1) i j) 25) :: (.row O (e29D a) 29) :: (.row y [i6 u0, i6 u1.ID, .bool u1.Long] 75) :: (.row c [i6 u0, i6 u1.ID, .bool u1.Long] 75) :: (.row f (e25D u1 ao1 cap2) 25) :: (.row b7 [.bool A] 4) :: (.map (fun x : Key => .agg (e75D x).toArray) (fun x : Bool => .bool x) mb10 d) :: (.row b12 [.bool C] 4) :: (.row b13 [i6 D] 3) :: (.row b23 [.slice l h.length n] 31) :: (.own tyLine 42 l n h) :: Rr) ag dJ := cc
   apply b9
   refine sqH ?_; intro dK ce
   refine z1 aU ac 69 M 0 (.map (some mb10)) rfl ?_; intro eP cf
   refine l2 cf ac 70 0 0 3 [i6 a.To, i6 (carryS a u0 u1).1.ID, .bool (carryS a u0 u1).1.Long] rfl rfl ?_; intro eQ cg
   refine lk1 cg ac 7 (m := d) (⟨a.To, (carryS a u0 u1).1.ID, (carryS a u0 u1).1.Long⟩ : Key) (false : Bool) (t := 71) (kt := 75) (et := 4) (nog rfl _) rfl (by kernel_rfl) rfl (by kernel_rfl) (by kernel_rfl) rfl mkKey (by kernel_rfl) (by kernel_rfl) ?_; intro eR ch
   refine s1 ch 72 (.bool (!((mget d (⟨a.To, (carryS a u0 u1).1.ID, (carryS a u0 u1).1.Long⟩ : Key)).getD (false : Bool)))) ?_; intro eT ci
   refine s1 ci 73 (.bool (!((mget d (⟨a.To, (carryS a u0 u1).1.ID, (carryS a u0 u1).1.Long⟩ : Key)).getD (false : Bool)))) ?_; intro eU cl
   have cm := cl.atom ((!((mget d (⟨a.To, (carryS a u0 u1).1.ID, (carryS a u0 u1).1.Long⟩ : Key)).getD (false : Bool))) == true) (by kernel_rfl)
   refine gp cm 74 0 [] (!((mget d (⟨a.To, (carryS a u0 u1).1.ID, (carryS a u0 u1).1.Long⟩ : Key)).getD (false : Bool))) (.slice p (u2 ++ [(⟨u0, u1.ID, u1.Long⟩ : Key)]).length q) rfl rfl ?_; intro eV aV
   refine gd aV (.agg #[i6 a.To, i6 (carryS a u0 u1).1.ID, .bool (carryS a u0 u1).1.Long]) (m := 0) (cj := []) (bj := !((mget d (⟨a.To, (carryS a u0 u1).1.ID, (carryS a u0 u1).1.Long⟩ : Key)).getD (false : Bool))) rfl rfl (by kernel_rfl) rfl (by kernel_rfl) (by kernel_rfl) (by kernel_rfl) (fun hg => lda aV ac 0 (g := [0]) (b := ai) (off := 0) (k := 3) (cs := [i6 a.To, i6 (carryS a u0 u1).1.ID, .bool (carryS a u0 u1).1.Long]) (vs := [i6 a.To, i6 (carryS a u0 u1).1.ID, .bool (carryS a u0 u1).1.Long]) (ty := 75) rfl (by kernel_rfl) (by kernel_rfl) (by kernel_rfl) (by kernel_rfl) (by kernel_rfl) hg) ?_; intro eW cn
   refine gcl cn ac (.bool (kcontainsS (u2 ++ [(⟨u0, u1.ID, u1.Long⟩ : Key)]) (⟨a.To, (carryS a u0 u1).1.ID, (carryS a u0 u1).1.Long⟩ : Key))) 29 #[.slice p (u2 ++ [(⟨u0, u1.ID, u1.Long⟩ : Key)]).length q, .agg #[i6 a.To, i6 (carryS a u0 u1).1.ID, .bool (carryS a u0 u1).1.Long]] (m := 0) (cj := []) (bj := !((mget d (⟨a.To, (carryS a u0 u1).1.ID, (carryS a u0 u1).1.Long⟩ : Key)).getD (false : Bool))) rfl rfl (by kernel_rfl) rfl (by kernel_rfl) (by kernel_rfl) (by kernel_rfl) (fun _ => by kernel_rfl) (fun hg => kcontains_fun (u2 ++ [(⟨u0, u1.ID, u1.Long⟩ : Key)]) (⟨a.To, (carryS a u0 u1).1.ID, (carryS a u0 u1).1.Long⟩ : Key) p q _ _ Q ac.fz) ?_; intro eX eY co Y
   refine gp co 77 0 [] (!((mget d (⟨a.To, (carryS a u0 u1).1.ID, (carryS a u0 u1).1.Long⟩ : Key)).getD (false : Bool))) (.bool (!(kcontainsS (u2 ++ [(⟨u0, u1.ID, u1.Long⟩ : Key)]) (⟨a.To, (carryS a u0 u1).1.ID, (carryS a u0 u1).1.Long⟩ : Key)))) rfl rfl ?_; intro eZ aW
   refine u_ aW (.bool ((!((mget d (⟨a.To, (carryS a u0 u1).1.ID, (carryS a u0 u1).1.Long⟩ : Key)).getD (false : Bool))) && (!(kcontainsS (u2 ++ [(⟨u0, u1.ID, u1.Long⟩ : Key)]) (⟨a.To, (carryS a u0 u1).1.ID, (carryS a u0 u1).1.Long⟩ : Key))))) (pk_and aW (g := []) (m := 0) (b := !((mget d (⟨a.To, (carryS a u0 u1).1.ID, (carryS a u0 u1).1.Long⟩ : Key)).getD (false : Bool))) (v := !(kcontainsS (u2 ++ [(⟨u0, u1.ID, u1.Long⟩ : Key)]) (⟨a.To, (carryS a u0 u1).1.ID, (carryS a u0 u1).1.Long⟩ : Key))) rfl (by kernel_rfl) (by kernel_rfl) (by kernel_rfl) rfl) ?_; intro cp an
   apply ce
   refine c_ an aF (fun _ dL => ?_) fun _ dX => ?_
   ·
    have cq : Fr 95 [] [⟨0, [], i6 u0⟩, ⟨2, [], .slice p (u2 ++ [(⟨u0, u1.ID, u1.Long⟩ : Key)]).length q⟩, ⟨4, [], pt cb8 co9⟩, ⟨8, [], pt b23 0⟩, ⟨9, [], pt cb26 co27⟩, ⟨11, [], pt f 0⟩, ⟨13, [], pt c 0⟩, ⟨15, [], pt O 0⟩, ⟨16, [], pt X 0⟩, ⟨48, [], .slice ao14 u7.Routes.length cap15⟩, ⟨49, [], i6 (u7.Routes.length : Int)⟩, ⟨50, [], i6 z⟩] cp := an.reg
    refine rgH ?_; intro dM cr
    refine bt cq Y 5 [10, 2, 1] [] [(79, .slice l h.length n), (83, .agg #[i6 0, i6 a.To, i6 (carryS a u0 u1).1.ID, .bool (carryS a u0 u1).1.Long, .bool (carryS a u0 u1).1.Fast, .bool (carryS a u0 u1).1.Remote, i6 (carryS a u0 u1).1.Size, .slice i (carryS a u0 u1).1.Data.length j])] ?_; intro e0 ct
    refine nw ct Y (fun b => .slice (sm b) 1 1) [i6 0, i6 a.To, i6 (carryS a u0 u1).1.ID, .bool (carryS a u0 u1).1.Long, .bool (carryS a u0 u1).1.Fast, .bool (carryS a u0 u1).1.Remote, i6 (carryS a u0 u1).1.Size, .slice i (carryS a u0 u1).1.Data.length j] 42 ?_; intro aG e1 e2 cu aY
    obtain ⟨dN, dO⟩ := dL
    refine ap cu aY 12 (T := tyLine) (xs := h) (ys := [(⟨0, a.To, (carryS a u0 u1).1⟩ : Line)]) (ao := l) (cap := n) (ao2 := (sm aG)) (cap2 := 1) (t := 31) (e := 42) (bytes := 64) (nog rfl _) rfl (by kernel_rfl) rfl (by kernel_rfl) (by kernel_rfl) (by kernel_rfl) rfl (Src.row aY 0 rfl (RepAll.one (T := tyLine) (x := (⟨0, a.To, (carryS a u0 u1).1⟩ : Line)) ⟨i, j, rfl, W⟩)) dN ?_; intro aq ar e3 dP e4 aZ cv
    have cw : Mem B [] w0 Z0 ((.row aG [i6 0, i6 a.To, i6 (carryS a u0 u1).1.ID, .bool (carryS a u0 u1).1.Long, .bool (carryS a u0 u1).1.Fast, .bool (carryS a u0 u1).1.Remote, i6 (carryS a u0 u1).1.Size, .slice i (carryS a u0 u1).1.Data.length j] 42) :: (.row ai [i6 a.To, i6 (carryS a u0 u1).1.ID, .bool (carryS a u0 u1).1.Long] 75) :: (.row X (e25D ((carryS a u0 u1).1) i j) 25) :: (.row O (e29D a) 29) :: (.row y [i6 u0, i6 u1.ID, .bool u1.Long] 75) :: (.row c [i6 u0, i6 u1.ID, .bool u1.Long] 75) :: (.row f (e25D u1 ao1 cap2) 25) :: (.row b7 [.bool A] 4) :: (.map (fun x : Key => .agg (e75D x).toArray) (fun x : Bool => .bool x) mb10 d) :: (.row b12 [.bool C] 4) :: (.row b13 [i6 D] 3) :: (.row b23 [.slice l h.length n] 31) :: (.own tyLine 42 aq ar (h ++ [(⟨0, a.To, (carryS a u0 u1).1⟩ : Line)])) :: Rr) ag dP := cv
    refine sx aZ cw 11 [.slice aq (h ++ [(⟨0, a.To, (carryS a u0 u1).1⟩ : Line)]).length ar] 0 ?_; intro dQ cx
    have au : Mem B [] w0 Z0 ((.row aG [i6 0, i6 a.To, i6 (carryS a u0 u1).1.ID, .bool (carryS a u0 u1).1.Long, .bool (carryS a u0 u1).1.Fast, .bool (carryS a u0 u1).1.Remote, i6 (carryS a u0 u1).1.Size, .slice i (carryS a u0 u1).1.Data.length j] 42) :: (.row ai [i6 a.To, i6 (carryS a u0 u1).1.ID, .bool (carryS a u0 u1).1.Long] 75) :: (.row X (e25D ((carryS a u0 u1).1) i j) 25) :: (.row O (e29D a) 29) :: (.row y [i6 u0, i6 u1.ID, .bool u1.Long] 75) :: (.row c [i6 u0, i6 u1.ID, .bool u1.Long] 75) :: (.row f (e25D u1 ao1 cap2) 25) :: (.row b7 [.bool A] 4) :: (.map (fun x : Key => .agg (e75D x).toArray) (fun x : Bool => .bool x) mb10 d) :: (.row b12 [.bool C] 4) :: (.row b13 [i6 D] 3) :: (.row b23 [.slice aq (h ++ [(⟨0, a.To, (carryS a u0 u1).1⟩ : Line)]).length ar] 31) :: (.own tyLine 42 aq ar (h ++ [(⟨0, a.To, (carryS a u0 u1).1⟩ : Line)])) :: Rr) ag dQ := cx
    apply cr
    refine t_ (rgH ?_); intro dR cy
    refine z1 aZ au 86 N 0 (.func (.func 28) #[] #[pt b7 0, pt cb8 co9, pt b12 0, pt b13 0, pt cb20 co21, pt b23 0, pt cb26 co27]) rfl ?_; intro e5 cz
    refine bt cz au 4 [3, 2] [] [(88, i6 a.To), (89, .agg (e25D ((carryS a u0 u1).1) i j).toArray), (90, .slice p (u2 ++ [(⟨u0, u1.ID, u1.Long⟩ : Key)]).length q)] ?_; intro e6 cA
    obtain ⟨dS, cB⟩ := dO
    refine ck cA 28 #[i6 a.To, .agg (e25D ((carryS a u0 u1).1) i j).toArray, .slice p (u2 ++ [(⟨u0, u1.ID, u1.Long⟩ : Key)]).length q, pt b7 0, pt cb8 co9, pt b12 0, pt b13 0, pt cb20 co21, pt b23 0, pt cb26 co27] ?_
    obtain ⟨I, dT, cC⟩ := hxq cB
    have h9 := ih a.To (carryS a u0 u1).1 (u2 ++ [(⟨u0, u1.ID, u1.Long⟩ : Key)]) A d C D u7 (h ++ [(⟨0, a.To, (carryS a u0 u1).1⟩ : Line)]) dS i j p q b7 cb8 co9 mb10 b12 b13 cb20 co21 ao14 cap15 ao17 cap18 b23 aq ar cb26 co27 _ _ _ _ _ _ W Q M V P U N (au.perm ((pk 7 rfl).trans (((pk 7 rfl).trans (((pk 7 rfl).trans (((pk 7 rfl).trans (((pk 7 rfl).trans (((pk 7 rfl).trans (lpr.cons _)).cons _)).cons _)).cons _)).cons _)).cons _))) au.fz; rw [dT] at h9; refine h9.mono ?_; rintro _ dU ⟨a1, a2, cD, rfl, E, hm⟩; refine ⟨_, rfl, ?_⟩; intro e7 cE; have cF := hm
    replace o := o.mono E
    have a3 : Mem B [] w0 Z0 ((.row b7 [.bool I.1] 4) :: (.row b12 [.bool I.2.1] 4) :: (.row b13 [i6 I.2.2.1] 3) :: (.map (fun x : Key => .agg (e75D x).toArray) (fun x : Bool => .bool x) mb10 I.2.2.2.1) :: (.row b23 [.slice a1 I.2.2.2.2.length a2] 31) :: (.own tyLine 42 a1 a2 I.2.2.2.2) :: (.row aG [i6 0, i6 a.To, i6 (carryS a u0 u1).1.ID, .bool (carryS a u0 u1).1.Long, .bool (carryS a u0 u1).1.Fast, .bool (carryS a u0 u1).1.Remote, i6 (carryS a u0 u1).1.Size, .slice i (carryS a u0 u1).1.Data.length j] 42) :: (.row ai [i6 a.To, i6 (carryS a u0 u1).1.ID, .bool (carryS a u0 u1).1.Long] 75) :: (.row X (e25D ((carryS a u0 u1).1) i j) 25) :: (.row O (e29D a) 29) :: (.row y [i6 u0, i6 u1.ID, .bool u1.Long] 75) :: (.row c [i6 u0, i6 u1.ID, .bool u1.Long] 75) :: (.row f (e25D u1 ao1 cap2) 25) :: Rr) cD dU := cF
    have cG := cC (a3.ownSmall 5 rfl)
    apply cy
    refine j_ (t_ (rgB cE a3 [] [] [(50, i6 (w64 (z + 1)))] ?_)); intro e8 dV
    apply d_
    have dW := a3.perm ((pk 10 rfl).trans (((pk 10 rfl).trans (((pk 10 rfl).trans ((((pk 2 rfl).trans (lpr.cons _)).cons _).cons _)).cons _)).cons _))
    exact ⟨⟨w64 (z + 1), I.1, I.2.2.2.1, I.2.1, I.2.2.1, I.2.2.2.2, a1, a2, cD⟩, ⟨cG.1, o⟩, cG.2, (dV.reg).anyβ _ (by kernel_rfl), dW.kp⟩
   apply k_
   have cH : Fr 95 [] [⟨0, [], i6 u0⟩, ⟨2, [], .slice p (u2 ++ [(⟨u0, u1.ID, u1.Long⟩ : Key)]).length q⟩, ⟨4, [], pt cb8 co9⟩, ⟨8, [], pt b23 0⟩, ⟨9, [], pt cb26 co27⟩, ⟨11, [], pt f 0⟩, ⟨13, [], pt c 0⟩, ⟨15, [], pt O 0⟩, ⟨16, [], pt X 0⟩, ⟨48, [], .slice ao14 u7.Routes.length cap15⟩, ⟨49, [], i6 (u7.Routes.length : Int)⟩, ⟨50, [], i6 z⟩] cp := an.reg
   refine rgH ?_; intro dY cI
   refine z1 cH Y 86 N 0 (.func (.func 28) #[] #[pt b7 0, pt cb8 co9, pt b12 0, pt b13 0, pt cb20 co21, pt b23 0, pt cb26 co27]) rfl ?_; intro e9 cJ
   refine bt cJ Y 4 [2, 1] [] [(88, i6 a.To), (89, .agg (e25D ((carryS a u0 u1).1) i j).toArray), (90, .slice p (u2 ++ [(⟨u0, u1.ID, u1.Long⟩ : Key)]).length q)] ?_; intro fa cK
   obtain ⟨dZ, cL⟩ := dX
   refine ck cK 28 #[i6 a.To, .agg (e25D ((carryS a u0 u1).1) i j).toArray, .slice p (u2 ++ [(⟨u0, u1.ID, u1.Long⟩ : Key)]).length q, pt b7 0, pt cb8 co9, pt b12 0, pt b13 0, pt cb20 co21, pt b23 0, pt cb26 co27] ?_
   obtain ⟨J, d0, cM⟩ := hxq cL
   have h9 := ih a.To (carryS a u0 u1).1 (u2 ++ [(⟨u0, u1.ID, u1.Long⟩ : Key)]) A d C D u7 h dZ i j p q b7 cb8 co9 mb10 b12 b13 cb20 co21 ao14 cap15 ao17 cap18 b23 l n cb26 co27 _ _ _ _ _ _ W Q M V P U N (Y.perm ((pk 6 rfl).trans (((pk 6 rfl).trans (((pk 6 rfl).trans (((pk 6 rfl).trans (((pk 6 rfl).trans (((pk 6 rfl).trans (lpr.cons _)).cons _)).cons _)).cons _)).cons _)).cons _))) Y.fz; rw [d0] at h9; refine h9.mono ?_; rintro _ d1 ⟨a4, a5, cN, rfl, G, hm⟩; refine ⟨_, rfl, ?_⟩; intro fb cO; have cP := hm
   replace o := o.mono G
   have a6 : Mem B [] w0 Z0 ((.row b7 [.bool J.1] 4) :: (.row b12 [.bool J.2.1] 4) :: (.row b13 [i6 J.2.2.1] 3) :: (.map (fun x : Key => .agg (e75D x).toArray) (fun x : Bool => .bool x) mb10 J.2.2.2.1) :: (.row b23 [.slice a4 J.2.2.2.2.length a5] 31) :: (.own tyLine 42 a4 a5 J.2.2.2.2) :: (.row ai [i6 a.To, i6 (carryS a u0 u1).1.ID, .bool (carryS a u0 u1).1.Long] 75) :: (.row X (e25D ((carryS a u0 u1).1) i j) 25) :: (.row O (e29D a) 29) :: (.row y [i6 u0, i6 u1.ID, .bool u1.Long] 75) :: (.row c [i6 u0, i6 u1.ID, .bool u1.Long] 75) :: (.row f (e25D u1 ao1 cap2) 25) :: Rr) cN d1 := cP
   have cQ := cM (a6.ownSmall 5 rfl)
   apply cI
   refine j_ (t_ (rgB cO a6 [] [] [(50, i6 (w64 (z + 1)))] ?_)); intro fd d2
   apply d_
   have d3 := a6.perm ((pk 9 rfl).trans (((pk 9 rfl).trans (((pk 9 rfl).trans ((((pk 2 rfl).trans (lpr.cons _)).cons _).cons _)).cons _)).cons _))
   exact ⟨⟨w64 (z + 1), J.1, J.2.2.2.1, J.2.1, J.2.2.1, J.2.2.2.2, a4, a5, cN⟩, ⟨cQ.1, o⟩, cQ.2, (d2.reg).anyβ _ (by kernel_rfl), d3.kp⟩
  refine l_ (j_ (t_ (rgB am ah [] [] [(50, i6 (w64 (z + 1)))] ?_))); intro fe d4
  exact d_ ⟨⟨w64 (z + 1), A, d, C, D, h, l, n, ag⟩, ⟨cR.1, o⟩, cR.2, (d4.reg).anyβ _ (by kernel_rfl), ah.kp⟩
 refine x_ (y_ (y_ (z_ (t_ (rgH ?_))))); intro d6 cT
 refine z1 al bR 93 M 0 (.map (some mb10)) rfl ?_; intro ff cU
 refine l2 cU bR 94 1 0 3 [i6 u0, i6 u1.ID, .bool u1.Long] rfl rfl ?_; intro fg a7
 refine mup a7 bR 4 (m := d) (⟨u0, u1.ID, u1.Long⟩ : Key) true (t := 71) (kt := 75) (et := 4) (nog rfl _) rfl rfl (by kernel_rfl) (by kernel_rfl) (by kernel_rfl) rfl mkKey (by kernel_rfl) ?_; intro d7 cV
 have d8 : Mem B [] w0 Z0 ((.row y [i6 u0, i6 u1.ID, .bool u1.Long] 75) :: (.row c [i6 u0, i6 u1.ID, .bool u1.Long] 75) :: (.row f (e25D u1 ao1 cap2) 25) :: (.row b7 [.bool A] 4) :: (.map (fun x : Key => .agg (e75D x).toArray) (fun x : Bool => .bool x) mb10 (mput d (⟨u0, u1.ID, u1.Long⟩ : Key) true)) :: (.row b12 [.bool C] 4) :: (.row b13 [i6 D] 3) :: (.row b23 [.slice l h.length n] 31) :: (.own tyLine 42 l n h) :: Rr) aB d7 := cV
 apply cT
 refine rN (fn := Try.f28) (v := .tuple #[]) a7 (re0 a7 (fn := Try.f28) rfl) ?_
 have d9 := d8.perm ((pk 3 rfl).trans (((pk 4 rfl).trans (((pk 4 rfl).trans (((pk 3 rfl).trans (((pk 3 rfl).trans (((pk 3 rfl).trans (lpr.cons _)).cons _)).cons _)).cons _)).cons _)).cons _))
 exact ⟨(A, C, D, mput d (⟨u0, u1.ID, u1.Long⟩ : Key) true, h), l, n, aB, rfl, d5, u, d9.kp⟩

end Go.Proofs.Ytmkdnaecmombnaa
