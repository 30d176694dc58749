/- Texts put together (pure ones, or walks made by program). -/
import Derived.Test.YtmkdnaecmombnaaRG0
set_option linter.unusedVariables false
set_option linter.unusedSimpArgs false
namespace Go.Proofs.Ytmkdnaecmombnaa
open Go.Sy Go.RowKit
structure Filter where
  Want : Int
  Mask : Int
  Long : Bool
  deriving DecidableEq, Inhabited
def Filter.enc (x : Filter) : List Value := [.int .i64 x.Want, .int .i64 x.Mask, .bool x.Long]
def tyFilter : Ty Filter := tyFlat Filter.enc 3 (fun _ => rfl) (fun x => by simp [Filter.enc, Value.oneCell'])
def okFilter (x : Filter) : Prop := (IntKind.i64.min ≤ x.Want ∧ x.Want ≤ IntKind.i64.max) ∧ (IntKind.i64.min ≤ x.Mask ∧ x.Mask ≤ IntKind.i64.max) ∧ (True)

structure Frame where
  ID : Int
  Long : Bool
  Fast : Bool
  Remote : Bool
  Size : Int
  Data : List Int
  deriving DecidableEq, Inhabited
def Frame.rep (Z : Fz) (cs : List Value) (x : Frame) : Prop := ∃ (ao0 : Option Addr) (cap0 : Nat), cs = [.int .i64 x.ID, .bool x.Long, .bool x.Fast, .bool x.Remote, .int .i64 x.Size, .slice ao0 x.Data.length cap0] ∧ SlR (tyInt .u8) Z ao0 cap0 x.Data
def tyFrame : Ty Frame :=
  ⟨6, Frame.rep, by rintro _ _ _ ⟨_, _, rfl, _⟩; rfl, by rintro _ _ _ _ hZ ⟨_, _, rfl, h0⟩; exact ⟨_, _, rfl, h0.mono hZ⟩, by rintro _ _ _ ⟨_, _, rfl, _⟩; simp [Value.oneCell']⟩
def okFrame (x : Frame) : Prop := (IntKind.i64.min ≤ x.ID ∧ x.ID ≤ IntKind.i64.max) ∧ (True) ∧ (True) ∧ (True) ∧ (IntKind.i64.min ≤ x.Size ∧ x.Size ≤ IntKind.i64.max) ∧ ((∀ y0 ∈ x.Data, IntKind.u8.min ≤ y0 ∧ y0 ≤ IntKind.u8.max) ∧ x.Data.length * 1 ≤ lim)

structure Route where
  From : Int
  To : Int
  F : Filter
  Add : Int
  Every : Int
  deriving DecidableEq, Inhabited
def Route.enc (x : Route) : List Value := [.int .i64 x.From, .int .i64 x.To, .int .i64 x.F.Want, .int .i64 x.F.Mask, .bool x.F.Long, .int .i64 x.Add, .int .i64 x.Every]
def tyRoute : Ty Route := tyFlat Route.enc 7 (fun _ => rfl) (fun x => by simp [Route.enc, Value.oneCell'])
def okRoute (x : Route) : Prop := (IntKind.i64.min ≤ x.From ∧ x.From ≤ IntKind.i64.max) ∧ (IntKind.i64.min ≤ x.To ∧ x.To ≤ IntKind.i64.max) ∧ (okFilter x.F) ∧ (IntKind.i64.min ≤ x.Add ∧ x.Add ≤ IntKind.i64.max) ∧ (IntKind.i64.min ≤ x.Every ∧ x.Every ≤ IntKind.i64.max)

structure Gate where
  Routes : List Route
  Last : List Int
  deriving DecidableEq, Inhabited
def Gate.rep (Z : Fz) (cs : List Value) (x : Gate) : Prop := ∃ (ao0 : Option Addr) (cap0 : Nat) (ao1 : Option Addr) (cap1 : Nat), cs = [.slice ao0 x.Routes.length cap0, .slice ao1 x.Last.length cap1] ∧ SlR tyRoute Z ao0 cap0 x.Routes ∧ SlR (tyInt .i64) Z ao1 cap1 x.Last
def tyGate : Ty Gate :=
  ⟨2, Gate.rep, by rintro _ _ _ ⟨_, _, _, _, rfl, _, _⟩; rfl, by rintro _ _ _ _ hZ ⟨_, _, _, _, rfl, h0, h1⟩; exact ⟨_, _, _, _, rfl, h0.mono hZ, h1.mono hZ⟩, by rintro _ _ _ ⟨_, _, _, _, rfl, _, _⟩; simp [Value.oneCell']⟩
def okGate (x : Gate) : Prop := ((∀ y0 ∈ x.Routes, okRoute y0) ∧ x.Routes.length * 56 ≤ lim) ∧ ((∀ y0 ∈ x.Last, IntKind.i64.min ≤ y0 ∧ y0 ≤ IntKind.i64.max) ∧ x.Last.length * 8 ≤ lim)

structure Line where
  Time : Int
  Bus : Int
  F : Frame
  deriving DecidableEq, Inhabited
def Line.rep (Z : Fz) (cs : List Value) (x : Line) : Prop := ∃ (ao0 : Option Addr) (cap0 : Nat), cs = [.int .i64 x.Time, .int .i64 x.Bus, .int .i64 x.F.ID, .bool x.F.Long, .bool x.F.Fast, .bool x.F.Remote, .int .i64 x.F.Size, .slice ao0 x.F.Data.length cap0] ∧ SlR (tyInt .u8) Z ao0 cap0 x.F.Data
def tyLine : Ty Line :=
  ⟨8, Line.rep, by rintro _ _ _ ⟨_, _, rfl, _⟩; rfl, by rintro _ _ _ _ hZ ⟨_, _, rfl, h0⟩; exact ⟨_, _, rfl, h0.mono hZ⟩, by rintro _ _ _ ⟨_, _, rfl, _⟩; simp [Value.oneCell']⟩
def okLine (x : Line) : Prop := (IntKind.i64.min ≤ x.Time ∧ x.Time ≤ IntKind.i64.max) ∧ (IntKind.i64.min ≤ x.Bus ∧ x.Bus ≤ IntKind.i64.max) ∧ (okFrame x.F)

structure Key where
  bus : Int
  id : Int
  long : Bool
  deriving DecidableEq, Inhabited
def Key.enc (x : Key) : List Value := [.int .i64 x.bus, .int .i64 x.id, .bool x.long]
def tyKey : Ty Key := tyFlat Key.enc 3 (fun _ => rfl) (fun x => by simp [Key.enc, Value.oneCell'])

def sindex_vc (u0 : List Int) (u1 : Int) (K : Int → Prop) : Prop :=
  (u0.length ≤ 140737488355328 →
    (∃ inv16 : Int → Prop, ∃ mu16 : Int → Nat, inv16 0 ∧
    (∀ (x8 : Int), inv16 x8 →
    (((decide (x8 < (u0.length : Int))) = true →
      ((0 ≤ x8 ∧ x8 < (u0.length : Int)) ∧
      (∀ q51, u0[x8.toNat]? = some q51 →
      (((u1 == q51) = true →
        (K x8)) ∧
      ((u1 == q51) = false →
        (inv16 (w64 (x8 + 1)) ∧ mu16 (w64 (x8 + 1)) < mu16 x8)))))) ∧
    ((decide (x8 < (u0.length : Int))) = false →
      (K (-1)))))))
theorem sindex_mono {u0 : List Int} {u1 : Int} {K K1 : Int → Prop} (hK : ∀ r, K r → K1 r) (h : sindex_vc u0 u1 K) : sindex_vc u0 u1 K1 :=
  fun z0 => (Exists.elim (h z0) fun i1 e1 => Exists.elim e1 fun m1 g1 => ⟨i1, m1, g1.1, fun x8 z1 => ⟨fun c2 => ⟨((g1.2 x8 z1).1 c2).1, fun y4 z4 => ⟨fun c5 => hK _ ((((g1.2 x8 z1).1 c2).2 y4 z4).1 c5), fun c5 => ((((g1.2 x8 z1).1 c2).2 y4 z4).2 c5)⟩⟩, fun c2 => hK _ ((g1.2 x8 z1).2 c2)⟩⟩)

def scontains_vc (u0 : List Int) (u1 : Int) (K : Bool → Prop) : Prop :=
  (u0.length ≤ 140737488355328 →
    (sindex_vc u0 u1 fun r13 =>
    (K (decide (r13 ≥ 0)))))

def fsizes_vc  (K : (List Int) → Prop) : Prop :=
  (K ([0, 1, 2, 3, 4, 5, 6, 7, 8, 12, 16, 20, 24, 32, 48, 64] : List Int))
def fsizes  : (List Int) :=
  ([0, 1, 2, 3, 4, 5, 6, 7, 8, 12, 16, 20, 24, 32, 48, 64] : List Int)
theorem fsizes_ok  : fsizes_vc  (fun r => r = fsizes ) := (by rfl)

def rsizes_vc  (K : (List Int) → Prop) : Prop :=
  (K ([0, 1, 2, 3, 4, 5, 6, 7, 8, 12, 16, 20, 24, 32, 48, 64] : List Int))
def rsizes  : (List Int) :=
  ([0, 1, 2, 3, 4, 5, 6, 7, 8, 12, 16, 20, 24, 32, 48, 64] : List Int)
theorem rsizes_ok  : rsizes_vc  (fun r => r = rsizes ) := (by rfl)

def ftop_vc (u0 : Bool) (K : Int → Prop) : Prop :=
  ((u0 = true →
      (K 536870911)) ∧
    (u0 = false →
      (K 2047)))
def ftop (u0 : Bool) : Int :=
  bif u0 then 536870911
    else 2047
theorem ftop_ok (u0 : Bool) : ftop_vc u0 (fun r => r = ftop u0) := ⟨fun h0 => (by simp only [ftop, h0, cond_true, cond_false]), fun h0 => (by simp only [ftop, h0, cond_true, cond_false])⟩

def fcheck_vc (u0 : List Filter) (K : Int → Prop) : Prop :=
  (u0.length ≤ 140737488355328 →
    (((decide ((u0.length : Int) > 16)) = true →
      (K 2)) ∧
    ((decide ((u0.length : Int) > 16)) = false →
      (∃ inv29 : Int → Prop, ∃ mu29 : Int → Nat, inv29 0 ∧
      (∀ (x10 : Int), inv29 x10 →
      (((decide (x10 < (u0.length : Int))) = true →
        ((0 ≤ x10 ∧ x10 < (u0.length : Int)) ∧
        (∀ q53, u0[x10.toNat]? = some q53 →
        ((((((decide (q53.Want < 0)) || (decide (q53.Want > (ftop q53.Long)))) || (decide (q53.Mask < 0))) || (decide (q53.Mask > (ftop q53.Long)))) = true →
          (K 3)) ∧
        (((((decide (q53.Want < 0)) || (decide (q53.Want > (ftop q53.Long)))) || (decide (q53.Mask < 0))) || (decide (q53.Mask > (ftop q53.Long)))) = false →
          (inv29 (w64 (x10 + 1)) ∧ mu29 (w64 (x10 + 1)) < mu29 x10)))))) ∧
      ((decide (x10 < (u0.length : Int))) = false →
        (K 0))))))))

def rcheckf_vc (u0 : List Filter) (K : Int → Prop) : Prop :=
  (u0.length ≤ 140737488355328 →
    (((decide ((u0.length : Int) > 16)) = true →
      (K 2)) ∧
    ((decide ((u0.length : Int) > 16)) = false →
      (∃ inv29 : Int → Prop, ∃ mu29 : Int → Nat, inv29 0 ∧
      (∀ (x11 : Int), inv29 x11 →
      (((decide (x11 < (u0.length : Int))) = true →
        ((0 ≤ x11 ∧ x11 < (u0.length : Int)) ∧
        (∀ q53, u0[x11.toNat]? = some q53 →
        ((q53.Long = true →
          ((((decide ((min q53.Want q53.Mask) < 0)) || (decide ((max q53.Want q53.Mask) > 536870911))) = true →
            (K 3)) ∧
          (((decide ((min q53.Want q53.Mask) < 0)) || (decide ((max q53.Want q53.Mask) > 536870911))) = false →
            (inv29 (w64 (x11 + 1)) ∧ mu29 (w64 (x11 + 1)) < mu29 x11)))) ∧
        (q53.Long = false →
          ((((decide ((min q53.Want q53.Mask) < 0)) || (decide ((max q53.Want q53.Mask) > 2047))) = true →
            (K 3)) ∧
          (((decide ((min q53.Want q53.Mask) < 0)) || (decide ((max q53.Want q53.Mask) > 2047))) = false →
            (inv29 (w64 (x11 + 1)) ∧ mu29 (w64 (x11 + 1)) < mu29 x11)))))))) ∧
      ((decide (x11 < (u0.length : Int))) = false →
        (K 0))))))))

def letsin_vc (u0 : Filter) (u1 : Frame) (K : Bool → Prop) : Prop :=
  (u1.Data.length ≤ 140737488355328 →
    (K ((u0.Long == u1.Long) && ((bAnd .i64 u0.Want u0.Mask) == (bAnd .i64 u1.ID u0.Mask)))))
def letsin (u0 : Filter) (u1 : Frame) : Bool :=
  (u0.Long == u1.Long) && ((bAnd .i64 u0.Want u0.Mask) == (bAnd .i64 u1.ID u0.Mask))
theorem letsin_ok (u0 : Filter) (u1 : Frame) : letsin_vc u0 u1 (fun r => r = letsin u0 u1) := (fun _ => (by rfl))

def lets1_vc (u0 : Filter) (u1 : Frame) (K : Bool → Prop) : Prop :=
  (K ((u0.Long == u1.Long) && ((bAnd .i64 (bXor .i64 u1.ID u0.Want) u0.Mask) == 0)))
def lets1 (u0 : Filter) (u1 : Frame) : Bool :=
  (u0.Long == u1.Long) && ((bAnd .i64 (bXor .i64 u1.ID u0.Want) u0.Mask) == 0)
theorem lets1_ok (u0 : Filter) (u1 : Frame) : lets1_vc u0 u1 (fun r => r = lets1 u0 u1) := (by rfl)

def findexf_vc (u0 : List Filter) (u1 : Filter → Bool) (K : Int → Prop) : Prop :=
  (u0.length ≤ 140737488355328 →
    (∃ inv20 : Int → Prop, ∃ mu20 : Int → Nat, inv20 0 ∧
    (∀ (x8 : Int), inv20 x8 →
    (((decide (x8 < (u0.length : Int))) = true →
      ((0 ≤ x8 ∧ x8 < (u0.length : Int)) ∧
      (∀ q55, u0[x8.toNat]? = some q55 →
      (((u1 q55) = true →
        (K x8)) ∧
      ((u1 q55) = false →
        (inv20 (w64 (x8 + 1)) ∧ mu20 (w64 (x8 + 1)) < mu20 x8)))))) ∧
    ((decide (x8 < (u0.length : Int))) = false →
      (K (-1)))))))
theorem findexf_mono {u0 : List Filter} {u1 : Filter → Bool} {K K1 : Int → Prop} (hK : ∀ r, K r → K1 r) (h : findexf_vc u0 u1 K) : findexf_vc u0 u1 K1 :=
  fun z0 => (Exists.elim (h z0) fun i1 e1 => Exists.elim e1 fun m1 g1 => ⟨i1, m1, g1.1, fun x8 z1 => ⟨fun c2 => ⟨((g1.2 x8 z1).1 c2).1, fun y4 z4 => ⟨fun c5 => hK _ ((((g1.2 x8 z1).1 c2).2 y4 z4).1 c5), fun c5 => ((((g1.2 x8 z1).1 c2).2 y4 z4).2 c5)⟩⟩, fun c2 => hK _ ((g1.2 x8 z1).2 c2)⟩⟩)

def fcontf_vc (u0 : List Filter) (u1 : Filter → Bool) (K : Bool → Prop) : Prop :=
  (u0.length ≤ 140737488355328 →
    (findexf_vc u0 u1 fun r17 =>
    (K (decide (r17 ≥ 0)))))

def bclone_vc (u0 : List Int) (K : (List Int) → Prop) : Prop :=
  (u0.length ≤ 140737488355328 →
    (∀ nb11, (u0 ≠ [] → nb11 = false) →
    ((nb11 = true →
      (K ([] : List Int))) ∧
    (nb11 = false →
      (((([] : List Int).length + u0.length) * 1 ≤ 140737488355328) ∧
      (K (([] : List Int) ++ u0)))))))

def iclone_vc (u0 : List Int) (K : (List Int) → Prop) : Prop :=
  (u0.length ≤ 140737488355328 →
    (∀ nb11, (u0 ≠ [] → nb11 = false) →
    ((nb11 = true →
      (K ([] : List Int))) ∧
    (nb11 = false →
      (((([] : List Int).length + u0.length) * 8 ≤ 140737488355328) ∧
      (K (([] : List Int) ++ u0)))))))

def rclone_vc (u0 : List Route) (K : (List Route) → Prop) : Prop :=
  (u0.length ≤ 140737488355328 →
    (∀ nb11, (u0 ≠ [] → nb11 = false) →
    ((nb11 = true →
      (K ([] : List Route))) ∧
    (nb11 = false →
      (((([] : List Route).length + u0.length) * 56 ≤ 140737488355328) ∧
      (K (([] : List Route) ++ u0)))))))

def ieq_vc (u0 : List Int) (u1 : List Int) (K : Bool → Prop) : Prop :=
  (u0.length ≤ 140737488355328 →
    (u1.length ≤ 140737488355328 →
    ((((u0.length : Int) != (u1.length : Int)) = true →
      (K false)) ∧
    (((u0.length : Int) != (u1.length : Int)) = false →
      (∃ inv37 : Int → Prop, ∃ mu37 : Int → Nat, inv37 0 ∧
      (∀ (x13 : Int), inv37 x13 →
      (((decide (x13 < (u0.length : Int))) = true →
        ((0 ≤ x13 ∧ x13 < (u0.length : Int)) ∧
        (∀ q74, u0[x13.toNat]? = some q74 →
        ((0 ≤ x13 ∧ x13 < (u1.length : Int)) ∧
        (∀ q96, u1[x13.toNat]? = some q96 →
        (((q74 != q96) = true →
          (K false)) ∧
        ((q74 != q96) = false →
          (inv37 (w64 (x13 + 1)) ∧ mu37 (w64 (x13 + 1)) < mu37 x13)))))))) ∧
      ((decide (x13 < (u0.length : Int))) = false →
        (K true)))))))))

def req_vc (u0 : List Route) (u1 : List Route) (K : Bool → Prop) : Prop :=
  (u0.length ≤ 140737488355328 →
    (u1.length ≤ 140737488355328 →
    ((((u0.length : Int) != (u1.length : Int)) = true →
      (K false)) ∧
    (((u0.length : Int) != (u1.length : Int)) = false →
      (∃ inv37 : Int → Prop, ∃ mu37 : Int → Nat, inv37 0 ∧
      (∀ (x13 : Int), inv37 x13 →
      (((decide (x13 < (u0.length : Int))) = true →
        ((0 ≤ x13 ∧ x13 < (u0.length : Int)) ∧
        (∀ q74, u0[x13.toNat]? = some q74 →
        ((0 ≤ x13 ∧ x13 < (u1.length : Int)) ∧
        (∀ q96, u1[x13.toNat]? = some q96 →
        (((!((q74.From == q96.From) && ((q74.To == q96.To) && (((q74.F.Want == q96.F.Want) && ((q74.F.Mask == q96.F.Mask) && ((q74.F.Long == q96.F.Long) && true))) && ((q74.Add == q96.Add) && ((q74.Every == q96.Every) && true)))))) = true →
          (K false)) ∧
        ((!((q74.From == q96.From) && ((q74.To == q96.To) && (((q74.F.Want == q96.F.Want) && ((q74.F.Mask == q96.F.Mask) && ((q74.F.Long == q96.F.Long) && true))) && ((q74.Add == q96.Add) && ((q74.Every == q96.Every) && true)))))) = false →
          (inv37 (w64 (x13 + 1)) ∧ mu37 (w64 (x13 + 1)) < mu37 x13)))))))) ∧
      ((decide (x13 < (u0.length : Int))) = false →
        (K true)))))))))

def beq_vc (u0 : List Int) (u1 : List Int) (K : Bool → Prop) : Prop :=
  (u0.length ≤ 140737488355328 →
    (u1.length ≤ 140737488355328 →
    ((((u0.length : Int) != (u1.length : Int)) = true →
      (K false)) ∧
    (((u0.length : Int) != (u1.length : Int)) = false →
      (∃ inv37 : Int → Prop, ∃ mu37 : Int → Nat, inv37 0 ∧
      (∀ (x13 : Int), inv37 x13 →
      (((decide (x13 < (u0.length : Int))) = true →
        ((0 ≤ x13 ∧ x13 < (u0.length : Int)) ∧
        (∀ q74, u0[x13.toNat]? = some q74 →
        ((0 ≤ x13 ∧ x13 < (u1.length : Int)) ∧
        (∀ q96, u1[x13.toNat]? = some q96 →
        (((q74 != q96) = true →
          (K false)) ∧
        ((q74 != q96) = false →
          (inv37 (w64 (x13 + 1)) ∧ mu37 (w64 (x13 + 1)) < mu37 x13)))))))) ∧
      ((decide (x13 < (u0.length : Int))) = false →
        (K true)))))))))

def kindex_vc (u0 : List Key) (u1 : Key) (K : Int → Prop) : Prop :=
  (u0.length ≤ 140737488355328 →
    (∃ inv21 : Int → Prop, ∃ mu21 : Int → Nat, inv21 0 ∧
    (∀ (x8 : Int), inv21 x8 →
    (((decide (x8 < (u0.length : Int))) = true →
      ((0 ≤ x8 ∧ x8 < (u0.length : Int)) ∧
      (∀ q61, u0[x8.toNat]? = some q61 →
      ((((u1.bus == q61.bus) && ((u1.id == q61.id) && ((u1.long == q61.long) && true))) = true →
        (K x8)) ∧
      (((u1.bus == q61.bus) && ((u1.id == q61.id) && ((u1.long == q61.long) && true))) = false →
        (inv21 (w64 (x8 + 1)) ∧ mu21 (w64 (x8 + 1)) < mu21 x8)))))) ∧
    ((decide (x8 < (u0.length : Int))) = false →
      (K (-1)))))))
theorem kindex_mono {u0 : List Key} {u1 : Key} {K K1 : Int → Prop} (hK : ∀ r, K r → K1 r) (h : kindex_vc u0 u1 K) : kindex_vc u0 u1 K1 :=
  fun z0 => (Exists.elim (h z0) fun i1 e1 => Exists.elim e1 fun m1 g1 => ⟨i1, m1, g1.1, fun x8 z1 => ⟨fun c2 => ⟨((g1.2 x8 z1).1 c2).1, fun y4 z4 => ⟨fun c5 => hK _ ((((g1.2 x8 z1).1 c2).2 y4 z4).1 c5), fun c5 => ((((g1.2 x8 z1).1 c2).2 y4 z4).2 c5)⟩⟩, fun c2 => hK _ ((g1.2 x8 z1).2 c2)⟩⟩)

def kcontains_vc (u0 : List Key) (u1 : Key) (K : Bool → Prop) : Prop :=
  (u0.length ≤ 140737488355328 →
    (kindex_vc u0 u1 fun r18 =>
    (K (decide (r18 ≥ 0)))))

/-! Pure proofs: no program in sight. -/
def sidx {α : Type} (p : α → Bool) (l : List α) : Int := match l.findIdx? p with | some i => (i : Int) | none => -1
theorem sidx_at {α : Type} (p : α → Bool) (l : List α) (k : Nat) (q : α) (hq : l[k]? = some q) (hp : p q = true) (hb : ∀ j x, j < k → l[j]? = some x → p x = false) : sidx p l = k := by
  unfold sidx
  have : l.findIdx? p = some k := by
    rw [List.findIdx?_eq_some_iff_getElem]
    obtain ⟨h1, h2⟩ := List.getElem?_eq_some_iff.1 hq
    exact ⟨h1, by rw [h2]; exact hp, fun j hj => by rw [hb j _ hj (List.getElem?_eq_getElem (by omega))]; simp⟩
  rw [this]
theorem sidx_none {α : Type} (p : α → Bool) (l : List α) (hb : ∀ (j : Nat) x, l[j]? = some x → p x = false) : sidx p l = -1 := by
  unfold sidx
  have : l.findIdx? p = none := by
    rw [List.findIdx?_eq_none_iff]
    intro x hx
    obtain ⟨j, hj⟩ := List.mem_iff_getElem?.1 hx
    exact hb j x hj
  rw [this]
theorem sidx_ge {α : Type} (p : α → Bool) (l : List α) : decide (sidx p l ≥ 0) = l.any p := by
  unfold sidx
  cases h : l.findIdx? p with
  | none =>
    have : l.any p = false := by
      rw [List.findIdx?_eq_none_iff] at h
      rw [List.any_eq_false]
      intro x hx
      simp [h x hx]
    rw [this]
    rfl
  | some i =>
    have : l.any p = true := by
      rw [List.findIdx?_eq_some_iff_getElem] at h
      obtain ⟨h1, h2, _⟩ := h
      exact List.any_eq_true.2 ⟨_, List.getElem_mem h1, h2⟩
    rw [this]
    simp
theorem sindex_ok (l : List Int) (x : Int) : sindex_vc l x (fun r => r = sidx (fun q => x == q) l) := by
  intro hl
  refine rg0 hl (fun k => ∀ j y, j < k → l[j]? = some y → (x == y) = false) (fun j y h => absurd h (Nat.not_lt_zero _)) ?_ ?_
  · intro k q hk hq hj inv mu hn
    refine ⟨fun h => (sidx_at _ l k q hq h hj).symm, fun h => hn fun j y hj1 hy => ?_⟩
    rcases Nat.lt_or_ge j k with h1 | h1
    · exact hj j y h1 hy
    · have : j = k := by omega
      subst this
      rw [hq] at hy
      cases hy
      exact h
  · intro hj
    refine (sidx_none _ l fun j y hy => hj j y (List.getElem?_eq_some_iff.1 hy).1 hy).symm
def scontainsS (l : List Int) (x : Int) : Bool := l.any fun q => x == q
theorem scontains_ok (l : List Int) (x : Int) : scontains_vc l x (fun r => r = scontainsS l x) := fun _ => sindex_mono (fun r h => by subst h; exact sidx_ge _ l) (sindex_ok l x)
def beqS (a b : List Int) : Bool := decide (a = b)
theorem list_eq_at {α : Type} {a b : List α} (hl : a.length = b.length) (h : ∀ (k : Nat) (x y : α), a[k]? = some x → b[k]? = some y → x = y) : a = b := by
  apply List.ext_getElem? 
  intro k
  rcases Nat.lt_or_ge k a.length with hk | hk
  · have h1 := List.getElem?_eq_getElem hk
    have h2 := List.getElem?_eq_getElem (l := b) (show k < b.length by omega)
    rw [h1, h2, h k _ _ h1 h2]
  · rw [List.getElem?_eq_none hk, List.getElem?_eq_none (by omega)]
theorem beq_ok (a b : List Int) : beq_vc a b (fun r => r = beqS a b) := by
  intro ha hb
  refine ⟨fun h => ?_, fun h => ?_⟩
  · have h : ¬ (a.length : Int) = (b.length : Int) := by simpa using h
    unfold beqS
    rw [decide_eq_false]
    intro e
    rw [e] at h
    exact h rfl
  · have h : a.length = b.length := by
      have h : (a.length : Int) = (b.length : Int) := by simpa only [bne_eq_false_iff_eq] using h
      omega
    refine ⟨fun i => ∃ k : Nat, i = k ∧ k ≤ a.length ∧ ∀ (j : Nat) (x y : Int), j < k → a[j]? = some x → b[j]? = some y → x = y, fun i => a.length - i.toNat, ⟨0, rfl, by omega, fun j _ _ hj => absurd hj (Nat.not_lt_zero _)⟩, ?_⟩
    rintro _ ⟨k, rfl, hk, hj⟩
    refine ⟨fun h1 => ?_, fun h1 => ?_⟩
    · have hk : k < a.length := by have := of_decide_eq_true h1; omega
      rw [w64_succ k (by omega)]
      refine ⟨by omega, fun q hq => ⟨by omega, fun p hp => ⟨fun h2 => ?_, fun h2 => ?_⟩⟩⟩
      · unfold beqS
        rw [decide_eq_false]
        rintro rfl
        rw [hq] at hp
        cases hp
        simp at h2
      · have h2 : q = p := by simpa using h2
        rw [Int.toNat_natCast] at hq hp
        refine ⟨⟨k + 1, rfl, by omega, fun j x y hj1 hx hy => ?_⟩, by (try dsimp only); omega⟩
        rcases Nat.lt_or_ge j k with hc | hc
        · exact hj j x y hc hx hy
        · have : j = k := by omega
          subst this
          rw [hq] at hx
          rw [hp] at hy
          cases hx; cases hy; exact h2
    · have : k = a.length := by have := of_decide_eq_false h1; omega
      subst this
      unfold beqS
      rw [decide_eq_true]
      exact list_eq_at h fun k x y hx hy => hj k x y (List.getElem?_eq_some_iff.1 hx).1 hx hy
def ieqS (a b : List Int) : Bool := decide (a = b)
theorem ieq_ok (a b : List Int) : ieq_vc a b (fun r => r = ieqS a b) := by
  intro ha hb
  refine ⟨fun h => ?_, fun h => ?_⟩
  · have h : ¬ (a.length : Int) = (b.length : Int) := by simpa using h
    unfold ieqS
    rw [decide_eq_false]
    intro e
    rw [e] at h
    exact h rfl
  · have h : a.length = b.length := by
      have h : (a.length : Int) = (b.length : Int) := by simpa only [bne_eq_false_iff_eq] using h
      omega
    refine ⟨fun i => ∃ k : Nat, i = k ∧ k ≤ a.length ∧ ∀ (j : Nat) (x y : Int), j < k → a[j]? = some x → b[j]? = some y → x = y, fun i => a.length - i.toNat, ⟨0, rfl, by omega, fun j _ _ hj => absurd hj (Nat.not_lt_zero _)⟩, ?_⟩
    rintro _ ⟨k, rfl, hk, hj⟩
    refine ⟨fun h1 => ?_, fun h1 => ?_⟩
    · have hk : k < a.length := by have := of_decide_eq_true h1; omega
      rw [w64_succ k (by omega)]
      refine ⟨by omega, fun q hq => ⟨by omega, fun p hp => ⟨fun h2 => ?_, fun h2 => ?_⟩⟩⟩
      · unfold ieqS
        rw [decide_eq_false]
        rintro rfl
        rw [hq] at hp
        cases hp
        simp at h2
      · have h2 : q = p := by simpa using h2
        rw [Int.toNat_natCast] at hq hp
        refine ⟨⟨k + 1, rfl, by omega, fun j x y hj1 hx hy => ?_⟩, by (try dsimp only); omega⟩
        rcases Nat.lt_or_ge j k with hc | hc
        · exact hj j x y hc hx hy
        · have : j = k := by omega
          subst this
          rw [hq] at hx
          rw [hp] at hy
          cases hx; cases hy; exact h2
    · have : k = a.length := by have := of_decide_eq_false h1; omega
      subst this
      unfold ieqS
      rw [decide_eq_true]
      exact list_eq_at h fun k x y hx hy => hj k x y (List.getElem?_eq_some_iff.1 hx).1 hx hy
def bcloneS (l : List Int) : List Int := l
theorem bclone_ok (l : List Int) (h : l.length ≤ 140737488355328) : bclone_vc l (fun r => r = bcloneS l) := by
  intro _ nb hnb
  refine ⟨fun h1 => ?_, fun _ => ⟨by simp; omega, by simp [bcloneS]⟩⟩
  by_cases e : l = []
  · rw [e]; rfl
  · rw [hnb e] at h1; cases h1
/-- A filter's numbers are right. -/
def fok (f : Filter) : Bool := decide (0 ≤ f.Want) && decide (f.Want ≤ ftop f.Long) && decide (0 ≤ f.Mask) && decide (f.Mask ≤ ftop f.Long)
def fcheckS (l : List Filter) : Int := if 16 < l.length then 2 else if l.all fok then 0 else 3
theorem all_step {α : Type} (l : List α) (p : α → Bool) (k : Nat) (q : α) (hk : k < l.length) (hq : l[k]? = some q) : (l.drop k).all p = (p q && (l.drop (k + 1)).all p) := by
  have hd : l.drop k = q :: l.drop (k + 1) := by
    rw [List.drop_eq_getElem_cons hk]
    rw [List.getElem?_eq_getElem hk] at hq
    simp at hq
    rw [hq]
  rw [hd]
  rfl
theorem fcheck_ok (l : List Filter) : fcheck_vc l (fun r => r = fcheckS l) := by
  intro hl
  refine ⟨fun h => ?_, fun h => ?_⟩
  · have : 16 < l.length := by simp at h; omega
    simp [fcheckS, this]
  · have hn : ¬ 16 < l.length := by simp at h; omega
    refine rg0 hl (fun k => (l.drop k).all fok = l.all fok) (by simp) ?_ ?_
    · intro k q hk hq hj inv mu hn2
      rw [all_step l fok k q hk hq] at hj
      refine ⟨fun h1 => ?_, fun h1 => hn2 ?_⟩
      · have : fok q = false := by
          unfold fok
          simp at h1 ⊢
          omega
        rw [this] at hj
        simp [fcheckS, hn, ← hj]
      · have : fok q = true := by
          unfold fok
          simp at h1 ⊢
          omega
        rw [this] at hj
        simpa using hj
    · intro hj
      simp only [List.drop_length, List.all_nil] at hj
      simp [fcheckS, hn, ← hj]
theorem rcheckf_ok (l : List Filter) : rcheckf_vc l (fun r => r = fcheckS l) := by
  intro hl
  refine ⟨fun h => ?_, fun h => ?_⟩
  · have : 16 < l.length := by simp at h; omega
    simp [fcheckS, this]
  · have hn : ¬ 16 < l.length := by simp at h; omega
    refine rg0 hl (fun k => (l.drop k).all fok = l.all fok) (by simp) ?_ ?_
    · intro k q hk hq hj inv mu hn2
      rw [all_step l fok k q hk hq] at hj
      refine ⟨fun hq1 => ?_, fun hq1 => ?_⟩
      all_goals
        refine ⟨fun h1 => ?_, fun h1 => hn2 ?_⟩
        · have : fok q = false := by
            unfold fok ftop
            simp [hq1] at h1 ⊢
            omega
          rw [this] at hj
          simp [fcheckS, hn, ← hj]
        · have : fok q = true := by
            unfold fok ftop
            simp [hq1] at h1 ⊢
            omega
          rw [this] at hj
          simpa using hj
    · intro hj
      simp only [List.drop_length, List.all_nil] at hj
      simp [fcheckS, hn, ← hj]
theorem findexf_ok (l : List Filter) (p : Filter → Bool) : findexf_vc l p (fun r => r = sidx p l) := by
  intro hl
  refine rg0 hl (fun k => ∀ j y, j < k → l[j]? = some y → p y = false) (fun j y h => absurd h (Nat.not_lt_zero _)) ?_ ?_
  · intro k q hk hq hj inv mu hn
    refine ⟨fun h => (sidx_at _ l k q hq h hj).symm, fun h => hn fun j y hj1 hy => ?_⟩
    rcases Nat.lt_or_ge j k with h1 | h1
    · exact hj j y h1 hy
    · have : j = k := by omega
      subst this
      rw [hq] at hy
      cases hy
      exact h
  · intro hj
    refine (sidx_none _ l fun j y hy => hj j y (List.getElem?_eq_some_iff.1 hy).1 hy).symm
def fcontfS (l : List Filter) (p : Filter → Bool) : Bool := l.any p
theorem fcontf_ok (l : List Filter) (p : Filter → Bool) : fcontf_vc l p (fun r => r = fcontfS l p) := fun _ => findexf_mono (fun r h => by subst h; exact sidx_ge _ l) (findexf_ok l p)
def iclS (l : List Int) : List Int := l
theorem iclone_ok (l : List Int) (h : l.length * 8 ≤ 140737488355328) : iclone_vc l (fun r => r = iclS l) := by
  intro _ nb hnb
  refine ⟨fun h1 => ?_, fun _ => ⟨by simp; omega, by simp [iclS]⟩⟩
  by_cases e : l = []
  · rw [e]; rfl
  · rw [hnb e] at h1; cases h1
def rclS (l : List Route) : List Route := l
theorem rclone_ok (l : List Route) (h : l.length * 56 ≤ 140737488355328) : rclone_vc l (fun r => r = rclS l) := by
  intro _ nb hnb
  refine ⟨fun h1 => ?_, fun _ => ⟨by simp; omega, by simp [rclS]⟩⟩
  by_cases e : l = []
  · rw [e]; rfl
  · rw [hnb e] at h1; cases h1
def reqS (a b : List Route) : Bool := decide (a = b)
theorem route_eq (a b : Route) : ((a.From == b.From) && ((a.To == b.To) && (((a.F.Want == b.F.Want) && ((a.F.Mask == b.F.Mask) && ((a.F.Long == b.F.Long) && true))) && ((a.Add == b.Add) && ((a.Every == b.Every) && true))))) = decide (a = b) := by
  obtain ⟨a1, a2, ⟨a3, a4, a5⟩, a6, a7⟩ := a
  obtain ⟨b1, b2, ⟨b3, b4, b5⟩, b6, b7⟩ := b
  rw [Bool.eq_iff_iff]
  simp [and_assoc]
theorem req_ok (a b : List Route) : req_vc a b (fun r => r = reqS a b) := by
  intro ha hb
  refine ⟨fun h => ?_, fun h => ?_⟩
  · have h : ¬ (a.length : Int) = (b.length : Int) := by simpa using h
    unfold reqS
    rw [decide_eq_false]
    intro e
    rw [e] at h
    exact h rfl
  · have h : a.length = b.length := by
      have h : (a.length : Int) = (b.length : Int) := by simpa only [bne_eq_false_iff_eq] using h
      omega
    refine rg0 ha (fun k => ∀ (j : Nat) (x y : Route), j < k → a[j]? = some x → b[j]? = some y → x = y) (fun j _ _ hj => absurd hj (Nat.not_lt_zero _)) ?_ ?_
    · intro k q hk hq hj inv mu hn
      refine ⟨by omega, fun p hp => ⟨fun h2 => ?_, fun h2 => hn fun j x y hj1 hx hy => ?_⟩⟩
      · rw [Int.toNat_natCast] at hp
        unfold reqS
        rw [decide_eq_false]
        rintro rfl
        rw [hq] at hp
        cases hp
        rw [route_eq] at h2
        simp at h2
      · rw [Int.toNat_natCast] at hp
        rw [route_eq] at h2
        have h2 : q = p := by simpa using h2
        rcases Nat.lt_or_ge j k with hc | hc
        · exact hj j x y hc hx hy
        · have : j = k := by omega
          subst this
          rw [hq] at hx
          rw [hp] at hy
          cases hx; cases hy; exact h2
    · intro hj
      unfold reqS
      rw [decide_eq_true]
      exact list_eq_at h fun k x y hx hy => hj k x y (List.getElem?_eq_some_iff.1 hx).1 hx hy
theorem key_eq (a b : Key) : ((a.bus == b.bus) && ((a.id == b.id) && ((a.long == b.long) && true))) = decide (a = b) := by
  obtain ⟨a1, a2, a3⟩ := a
  obtain ⟨b1, b2, b3⟩ := b
  rw [Bool.eq_iff_iff]
  simp
theorem kindex_ok (l : List Key) (x : Key) : kindex_vc l x (fun r => r = sidx (fun q => decide (x = q)) l) := by
  intro hl
  refine rg0 hl (fun k => ∀ j y, j < k → l[j]? = some y → decide (x = y) = false) (fun j y h => absurd h (Nat.not_lt_zero _)) ?_ ?_
  · intro k q hk hq hj inv mu hn
    rw [key_eq]
    refine ⟨fun h => (sidx_at _ l k q hq h hj).symm, fun h => hn fun j y hj1 hy => ?_⟩
    rcases Nat.lt_or_ge j k with h1 | h1
    · exact hj j y h1 hy
    · have : j = k := by omega
      subst this
      rw [hq] at hy
      cases hy
      exact h
  · intro hj
    refine (sidx_none _ l fun j y hy => hj j y (List.getElem?_eq_some_iff.1 hy).1 hy).symm
def kcontainsS (l : List Key) (x : Key) : Bool := l.any fun q => decide (x = q)
theorem kcontains_ok (l : List Key) (x : Key) : kcontains_vc l x (fun r => r = kcontainsS l x) := fun _ => kindex_mono (fun r h => by subst h; exact sidx_ge _ l) (kindex_ok l x)

end Go.Proofs.Ytmkdnaecmombnaa
set_option linter.unusedVariables false
set_option linter.unusedSimpArgs false
namespace Go.Proofs.Ytmkdnaecmombnaa
open Go.Sy Go.RowKit
def fcheckfr_vc (u0 : Frame) (K : Int → Prop) : Prop :=
  (u0.Data.length ≤ 140737488355328 →
    (((((decide (u0.ID < 0)) || ((!u0.Long) && (decide (u0.ID > 2047)))) || (decide (u0.ID > 536870911))) = true →
      (K 3)) ∧
    ((((decide (u0.ID < 0)) || ((!u0.Long) && (decide (u0.ID > 2047)))) || (decide (u0.ID > 536870911))) = false →
      (((u0.Remote && (u0.Fast || (decide ((u0.Data.length : Int) > 0)))) = true →
        (K 4)) ∧
      ((u0.Remote && (u0.Fast || (decide ((u0.Data.length : Int) > 0)))) = false →
        (((((decide (u0.Size < 0)) || (decide (u0.Size > 8))) || ((!u0.Remote) && (u0.Size != 0))) = true →
          (K 3)) ∧
        ((((decide (u0.Size < 0)) || (decide (u0.Size > 8))) || ((!u0.Remote) && (u0.Size != 0))) = false →
          ((((decide ((u0.Data.length : Int) > 64)) || ((!u0.Fast) && (decide ((u0.Data.length : Int) > 8)))) = true →
            (K 2)) ∧
          (((decide ((u0.Data.length : Int) > 64)) || ((!u0.Fast) && (decide ((u0.Data.length : Int) > 8)))) = false →
            (((!(scontainsS fsizes (u0.Data.length : Int))) = true →
              (K 4)) ∧
            ((!(scontainsS fsizes (u0.Data.length : Int))) = false →
              (K 0))))))))))))
def fcheckfr (u0 : Frame) : Int :=
  bif ((decide (u0.ID < 0)) || ((!u0.Long) && (decide (u0.ID > 2047)))) || (decide (u0.ID > 536870911)) then 3
    else bif u0.Remote && (u0.Fast || (decide ((u0.Data.length : Int) > 0))) then 4
    else bif ((decide (u0.Size < 0)) || (decide (u0.Size > 8))) || ((!u0.Remote) && (u0.Size != 0)) then 3
    else bif (decide ((u0.Data.length : Int) > 64)) || ((!u0.Fast) && (decide ((u0.Data.length : Int) > 8))) then 2
    else bif !(scontainsS fsizes (u0.Data.length : Int)) then 4
    else 0
theorem fcheckfr_ok (u0 : Frame) : fcheckfr_vc u0 (fun r => r = fcheckfr u0) := (fun _ => ⟨fun h0 => (by simp only [fcheckfr, h0, cond_true, cond_false]), fun h0 => ⟨fun h1 => (by simp only [fcheckfr, h0, h1, cond_true, cond_false]), fun h1 => ⟨fun h2 => (by simp only [fcheckfr, h0, h1, h2, cond_true, cond_false]), fun h2 => ⟨fun h3 => (by simp only [fcheckfr, h0, h1, h2, h3, cond_true, cond_false]), fun h3 => ⟨fun h4 => (by simp only [fcheckfr, h0, h1, h2, h3, h4, cond_true, cond_false]), fun h4 => (by simp only [fcheckfr, h0, h1, h2, h3, h4, cond_true, cond_false])⟩⟩⟩⟩⟩)

def rcheckfr_vc (u0 : Frame) (K : Int → Prop) : Prop :=
  (u0.Data.length ≤ 140737488355328 →
    ((u0.Long = true →
      ((((decide (u0.ID < 0)) || (decide (u0.ID > 536870911))) = true →
        (K 3)) ∧
      (((decide (u0.ID < 0)) || (decide (u0.ID > 536870911))) = false →
        (((u0.Remote && (u0.Fast || ((u0.Data.length : Int) != 0))) = true →
          (K 4)) ∧
        ((u0.Remote && (u0.Fast || ((u0.Data.length : Int) != 0))) = false →
          (((((decide (u0.Size < 0)) || (decide (u0.Size > 8))) || ((decide (u0.Size > 0)) && (!u0.Remote))) = true →
            (K 3)) ∧
          ((((decide (u0.Size < 0)) || (decide (u0.Size > 8))) || ((decide (u0.Size > 0)) && (!u0.Remote))) = false →
            ((((decide ((u0.Data.length : Int) > 64)) || ((decide ((u0.Data.length : Int) > 8)) && (!u0.Fast))) = true →
              (K 2)) ∧
            (((decide ((u0.Data.length : Int) > 64)) || ((decide ((u0.Data.length : Int) > 8)) && (!u0.Fast))) = false →
              (((!(scontainsS rsizes (u0.Data.length : Int))) = true →
                (K 4)) ∧
              ((!(scontainsS rsizes (u0.Data.length : Int))) = false →
                (K 0)))))))))))) ∧
    (u0.Long = false →
      ((((decide (u0.ID < 0)) || (decide (u0.ID > 2047))) = true →
        (K 3)) ∧
      (((decide (u0.ID < 0)) || (decide (u0.ID > 2047))) = false →
        (((u0.Remote && (u0.Fast || ((u0.Data.length : Int) != 0))) = true →
          (K 4)) ∧
        ((u0.Remote && (u0.Fast || ((u0.Data.length : Int) != 0))) = false →
          (((((decide (u0.Size < 0)) || (decide (u0.Size > 8))) || ((decide (u0.Size > 0)) && (!u0.Remote))) = true →
            (K 3)) ∧
          ((((decide (u0.Size < 0)) || (decide (u0.Size > 8))) || ((decide (u0.Size > 0)) && (!u0.Remote))) = false →
            ((((decide ((u0.Data.length : Int) > 64)) || ((decide ((u0.Data.length : Int) > 8)) && (!u0.Fast))) = true →
              (K 2)) ∧
            (((decide ((u0.Data.length : Int) > 64)) || ((decide ((u0.Data.length : Int) > 8)) && (!u0.Fast))) = false →
              (((!(scontainsS rsizes (u0.Data.length : Int))) = true →
                (K 4)) ∧
              ((!(scontainsS rsizes (u0.Data.length : Int))) = false →
                (K 0))))))))))))))

def lets_vc (u0 : List Filter) (u1 : Frame) (K : Bool → Prop) : Prop :=
  (u0.length ≤ 140737488355328 →
    (u1.Data.length ≤ 140737488355328 →
    (K (fcontfS u0 (fun x0 => lets1 x0 u1)))))
def lets (u0 : List Filter) (u1 : Frame) : Bool :=
  (fcontfS u0 (fun x0 => lets1 x0 u1))
theorem lets_ok (u0 : List Filter) (u1 : Frame) : lets_vc u0 u1 (fun r => r = lets u0 u1) := (fun _ => (fun _ => (by rfl)))

def fcopy_vc (u0 : Frame) (K : Frame → Prop) : Prop :=
  (u0.Data.length ≤ 140737488355328 →
    ((u0.Data.length ≤ 140737488355328) ∧
    ((bcloneS u0.Data).length ≤ 140737488355328 →
    (K (⟨u0.ID, u0.Long, u0.Fast, u0.Remote, u0.Size, (bcloneS u0.Data)⟩ : Frame)))))

def gcheck_vc (u0 : Gate) (K : Int → Prop) : Prop :=
  (u0.Routes.length ≤ 140737488355328 →
    (u0.Last.length ≤ 140737488355328 →
    (((decide ((u0.Routes.length : Int) > 20)) = true →
      (K 2)) ∧
    ((decide ((u0.Routes.length : Int) > 20)) = false →
      ((((u0.Last.length : Int) != (u0.Routes.length : Int)) = true →
        (K 4)) ∧
      (((u0.Last.length : Int) != (u0.Routes.length : Int)) = false →
        (∃ inv63 : Int → Prop, ∃ mu63 : Int → Nat, inv63 0 ∧
        (∀ (x20 : Int), inv63 x20 →
        (((decide (x20 < (u0.Routes.length : Int))) = true →
          ((0 ≤ x20 ∧ x20 < (u0.Routes.length : Int)) ∧
          (∀ q91, u0.Routes[x20.toNat]? = some q91 →
          (((((((((decide (q91.From < 0)) || (decide (q91.From ≥ 4))) || (decide (q91.To < 0))) || (decide (q91.To ≥ 4))) || (q91.From == q91.To)) || (decide (q91.Every < 0))) || (decide (q91.Every > 1000000))) = true →
            (K 3)) ∧
          ((((((((decide (q91.From < 0)) || (decide (q91.From ≥ 4))) || (decide (q91.To < 0))) || (decide (q91.To ≥ 4))) || (q91.From == q91.To)) || (decide (q91.Every < 0))) || (decide (q91.Every > 1000000))) = false →
            ((0 ≤ x20 ∧ x20 < (u0.Last.length : Int)) ∧
            (∀ q238, u0.Last[x20.toNat]? = some q238 →
            (((decide (q238 < (-1))) = true →
              (K 3)) ∧
            ((decide (q238 < (-1))) = false →
              ((0 ≤ x20 ∧ x20 < (u0.Last.length : Int)) ∧
              (∀ q286, u0.Last[x20.toNat]? = some q286 →
              (((decide (q286 > 1000000)) = true →
                (K 3)) ∧
              ((decide (q286 > 1000000)) = false →
                ((((fcheckS ([q91.F] : List Filter)) != 0) = true →
                  (K (fcheckS ([q91.F] : List Filter)))) ∧
                (((fcheckS ([q91.F] : List Filter)) != 0) = false →
                  ((((decide (q91.Add < (-536870911))) || (decide (q91.Add > 536870911))) = true →
                    (K 3)) ∧
                  (((decide (q91.Add < (-536870911))) || (decide (q91.Add > 536870911))) = false →
                    (inv63 (w64 (x20 + 1)) ∧ mu63 (w64 (x20 + 1)) < mu63 x20)))))))))))))))))) ∧
        ((decide (x20 < (u0.Routes.length : Int))) = false →
          (K 0)))))))))))

def rcheckg_vc (u0 : Gate) (K : Int → Prop) : Prop :=
  (u0.Routes.length ≤ 140737488355328 →
    (u0.Last.length ≤ 140737488355328 →
    (((decide ((u0.Routes.length : Int) > 20)) = true →
      (K 2)) ∧
    ((decide ((u0.Routes.length : Int) > 20)) = false →
      ((((u0.Last.length : Int) != (u0.Routes.length : Int)) = true →
        (K 4)) ∧
      (((u0.Last.length : Int) != (u0.Routes.length : Int)) = false →
        (∃ inv63 : Int → Prop, ∃ mu63 : Int → Nat, inv63 0 ∧
        (∀ (x20 : Int), inv63 x20 →
        (((decide (x20 < (u0.Routes.length : Int))) = true →
          ((0 ≤ x20 ∧ x20 < (u0.Routes.length : Int)) ∧
          (∀ q91, u0.Routes[x20.toNat]? = some q91 →
          (((((((decide ((min q91.From q91.To) < 0)) || (decide ((max q91.From q91.To) > 3))) || (q91.From == q91.To)) || (decide (q91.Every < 0))) || (decide (q91.Every > 1000000))) = true →
            (K 3)) ∧
          ((((((decide ((min q91.From q91.To) < 0)) || (decide ((max q91.From q91.To) > 3))) || (q91.From == q91.To)) || (decide (q91.Every < 0))) || (decide (q91.Every > 1000000))) = false →
            ((0 ≤ x20 ∧ x20 < (u0.Last.length : Int)) ∧
            (∀ q228, u0.Last[x20.toNat]? = some q228 →
            (((decide (q228 < (-1))) = true →
              (K 3)) ∧
            ((decide (q228 < (-1))) = false →
              ((0 ≤ x20 ∧ x20 < (u0.Last.length : Int)) ∧
              (∀ q276, u0.Last[x20.toNat]? = some q276 →
              (((decide (q276 > 1000000)) = true →
                (K 3)) ∧
              ((decide (q276 > 1000000)) = false →
                ((((fcheckS ([q91.F] : List Filter)) != 0) = true →
                  (K (fcheckS ([q91.F] : List Filter)))) ∧
                (((fcheckS ([q91.F] : List Filter)) != 0) = false →
                  ((((decide (q91.Add > 536870911)) || (decide (q91.Add < (-536870911)))) = true →
                    (K 3)) ∧
                  (((decide (q91.Add > 536870911)) || (decide (q91.Add < (-536870911)))) = false →
                    (inv63 (w64 (x20 + 1)) ∧ mu63 (w64 (x20 + 1)) < mu63 x20)))))))))))))))))) ∧
        ((decide (x20 < (u0.Routes.length : Int))) = false →
          (K 0)))))))))))

def lless_vc (u0 : Line) (u1 : Line) (K : Int → Prop) : Prop :=
  (u0.F.Data.length ≤ 140737488355328 →
    (u1.F.Data.length ≤ 140737488355328 →
    (((u0.Bus != u1.Bus) = true →
      (K (w64 (u0.Bus - u1.Bus)))) ∧
    ((u0.Bus != u1.Bus) = false →
      (((u0.F.Long != u1.F.Long) = true →
        ((u1.F.Long = true →
          (K (-1))) ∧
        (u1.F.Long = false →
          (K 1)))) ∧
      ((u0.F.Long != u1.F.Long) = false →
        (K (w64 (u0.F.ID - u1.F.ID)))))))))

/-! Pure proofs: no program in sight. -/
theorem fcheck_eq (f : Frame) (c1 c2 c3 c4 : Bool) (h1 : c1 = (((decide (f.ID < 0)) || ((!f.Long) && (decide (f.ID > 2047)))) || (decide (f.ID > 536870911)))) (h2 : c2 = (f.Remote && (f.Fast || (decide ((f.Data.length : Int) > 0)))))
    (h3 : c3 = (((decide (f.Size < 0)) || (decide (f.Size > 8))) || ((!f.Remote) && (f.Size != 0)))) (h4 : c4 = ((decide ((f.Data.length : Int) > 64)) || ((!f.Fast) && (decide ((f.Data.length : Int) > 8))))) :
    fcheckfr f = bif c1 then 3 else bif c2 then 4 else bif c3 then 3 else bif c4 then 2 else bif !(scontainsS rsizes (f.Data.length : Int)) then 4 else 0 := by
  subst h1 h2 h3 h4
  rfl
theorem rcheckfr_ok (f : Frame) : rcheckfr_vc f (fun r => r = fcheckfr f) := by
  intro _
  have e2 : (f.Remote && (f.Fast || ((f.Data.length : Int) != 0))) = (f.Remote && (f.Fast || (decide ((f.Data.length : Int) > 0)))) := by
    congr 2
    rw [Bool.eq_iff_iff, bne_iff_ne, decide_eq_true_eq]
    omega
  have e3 : (((decide (f.Size < 0)) || (decide (f.Size > 8))) || ((decide (f.Size > 0)) && (!f.Remote))) = (((decide (f.Size < 0)) || (decide (f.Size > 8))) || ((!f.Remote) && (f.Size != 0))) := by
    cases f.Remote
    · rw [Bool.eq_iff_iff]
      simp
      omega
    · simp
  have e4 : ((decide ((f.Data.length : Int) > 64)) || ((decide ((f.Data.length : Int) > 8)) && (!f.Fast))) = ((decide ((f.Data.length : Int) > 64)) || ((!f.Fast) && (decide ((f.Data.length : Int) > 8)))) := by
    rw [Bool.and_comm (decide ((f.Data.length : Int) > 8))]
  refine ⟨fun hL => ?_, fun hL => ?_⟩
  · have e1 : ((decide (f.ID < 0)) || (decide (f.ID > 536870911))) = (((decide (f.ID < 0)) || ((!f.Long) && (decide (f.ID > 2047)))) || (decide (f.ID > 536870911))) := by rw [hL]; simp
    have e := fcheck_eq f _ _ _ _ e1 e2 e3 e4
    rw [e]
    refine ⟨fun g1 => by rw [g1]; rfl, fun g1 => ⟨fun g2 => by rw [g1, g2]; rfl, fun g2 => ⟨fun g3 => by rw [g1, g2, g3]; rfl, fun g3 => ⟨fun g4 => by rw [g1, g2, g3, g4]; rfl, fun g4 => ⟨fun g5 => by rw [g1, g2, g3, g4, g5]; rfl, fun g5 => by rw [g1, g2, g3, g4, g5]; rfl⟩⟩⟩⟩⟩
  · have e1 : ((decide (f.ID < 0)) || (decide (f.ID > 2047))) = (((decide (f.ID < 0)) || ((!f.Long) && (decide (f.ID > 2047)))) || (decide (f.ID > 536870911))) := by
      rw [hL, Bool.eq_iff_iff]
      simp
      omega
    have e := fcheck_eq f _ _ _ _ e1 e2 e3 e4
    rw [e]
    refine ⟨fun g1 => by rw [g1]; rfl, fun g1 => ⟨fun g2 => by rw [g1, g2]; rfl, fun g2 => ⟨fun g3 => by rw [g1, g2, g3]; rfl, fun g3 => ⟨fun g4 => by rw [g1, g2, g3, g4]; rfl, fun g4 => ⟨fun g5 => by rw [g1, g2, g3, g4, g5]; rfl, fun g5 => by rw [g1, g2, g3, g4, g5]; rfl⟩⟩⟩⟩⟩
def fcopyS (f : Frame) : Frame := f
theorem fcopy_ok (f : Frame) (h : f.Data.length ≤ 140737488355328) : fcopy_vc f (fun r => r = fcopyS f) := fun _ => ⟨h, fun _ => rfl⟩
def firstErr : List Int → Int
  | [] => 0
  | e :: r => if e ≠ 0 then e else firstErr r
theorem firstErr_at : ∀ (l : List Int) (k : Nat) (e : Int), (∀ j x, j < k → l[j]? = some x → x = 0) → l[k]? = some e → e ≠ 0 → firstErr l = e
  | [], k, e, _, h, _ => by simp at h
  | x :: l, 0, e, _, h, he => by
    simp only [List.getElem?_cons_zero, Option.some.injEq] at h
    subst h; simp [firstErr, he]
  | x :: l, k + 1, e, hb, h, he => by
    have h0 := hb 0 x (by omega) (by simp)
    subst h0
    simp only [firstErr, ne_eq, not_true_eq_false, if_false]
    exact firstErr_at l k e (fun j y hj hy => hb (j + 1) y (by omega) (by simpa using hy)) (by simpa using h) he
theorem firstErr_zero : ∀ (l : List Int), (∀ x ∈ l, x = 0) → firstErr l = 0
  | [], _ => rfl
  | x :: l, h => by
    have h0 := h x (by simp)
    subst h0
    simp only [firstErr, ne_eq, not_true_eq_false, if_false]
    exact firstErr_zero l fun y hy => h y (by simp [hy])
theorem firstErr_all : ∀ (l : List Int), firstErr l = 0 → ∀ x ∈ l, x = 0
  | [], _, x, hx => by cases hx
  | y :: l, h, x, hx => by
    unfold firstErr at h
    split at h
    · rename_i h1; exact absurd h h1
    · rename_i h1
      have h1 : y = 0 := by simpa using h1
      rcases List.mem_cons.1 hx with rfl | hx
      · exact h1
      · exact firstErr_all l h x hx
/-- What is wrong with a route and when it let one through at last. -/
def rok (r : Route) (t : Int) : Int :=
  if r.From < 0 ∨ 3 < r.From ∨ r.To < 0 ∨ 3 < r.To ∨ r.From = r.To ∨ r.Every < 0 ∨ 1000000 < r.Every ∨ t < -1 ∨ 1000000 < t then 3 else if fcheckS [r.F] ≠ 0 then fcheckS [r.F] else if r.Add < -536870911 ∨ 536870911 < r.Add then 3 else 0
def gcheckS (g : Gate) : Int := if 20 < g.Routes.length then 2 else if g.Last.length ≠ g.Routes.length then 4 else firstErr (List.zipWith rok g.Routes g.Last)
theorem zip_at {α β γ : Type} (f : α → β → γ) (a : List α) (b : List β) (k : Nat) (x : α) (y : β) (hx : a[k]? = some x) (hy : b[k]? = some y) : (List.zipWith f a b)[k]? = some (f x y) := by
  rw [List.getElem?_zipWith, hx, hy]
theorem gcheck_ok (g : Gate) : gcheck_vc g (fun r => r = gcheckS g) := by
  intro hl hl2
  unfold gcheckS
  refine ⟨fun h => ?_, fun h => ⟨fun h1 => ?_, fun h1 => ?_⟩⟩
  · have : 20 < g.Routes.length := by simp at h; omega
    simp [this]
  · have h0 : ¬ 20 < g.Routes.length := by simp at h; omega
    have h2 : g.Last.length ≠ g.Routes.length := by simp at h1; omega
    rw [if_neg h0, if_pos h2]
  · have h0 : ¬ 20 < g.Routes.length := by simp at h; omega
    have h2 : g.Last.length = g.Routes.length := by simp at h1; omega
    rw [if_neg h0, if_neg (by simp [h2])]
    refine rg0 hl (fun k => ∀ j x, j < k → (List.zipWith rok g.Routes g.Last)[j]? = some x → x = 0) (fun j x hj => absurd hj (Nat.not_lt_zero _)) ?_ ?_
    · intro k q hk hq hj inv mu hn
      have ht := List.getElem?_eq_getElem (l := g.Last) (show k < g.Last.length by omega)
      generalize g.Last[k]'(by omega) = t at ht
      have hz := zip_at rok _ _ k q t hq ht
      have bad : ∀ e, e ≠ 0 → rok q t = e → e = firstErr (List.zipWith rok g.Routes g.Last) := fun e he h => by
        rw [h] at hz
        exact (firstErr_at _ k e hj hz he).symm
      refine ⟨fun c1 => bad _ (by decide) ?_, fun c1 => ⟨by omega, fun t1 ht1 => ?_⟩⟩
      · unfold rok
        rw [if_pos]
        simp only [Bool.or_eq_true, decide_eq_true_eq, beq_iff_eq] at c1
        omega
      · rw [Int.toNat_natCast, ht] at ht1
        obtain rfl : t = t1 := by simpa using ht1
        refine ⟨fun c2 => bad _ (by decide) ?_, fun c2 => ⟨by omega, fun t2 ht2 => ?_⟩⟩
        · unfold rok
          rw [if_pos]
          simp only [decide_eq_true_eq] at c2
          omega
        · rw [Int.toNat_natCast, ht] at ht2
          obtain rfl : t = t2 := by simpa using ht2
          simp only [Bool.or_eq_false_iff, decide_eq_false_iff_not, beq_eq_false_iff_ne] at c1 c2
          refine ⟨fun c3 => bad _ (by decide) ?_, fun c3 => ?_⟩
          · unfold rok
            rw [if_pos]
            simp only [decide_eq_true_eq] at c3
            omega
          · simp only [decide_eq_false_iff_not] at c3
            have hn3 : ¬ (q.From < 0 ∨ 3 < q.From ∨ q.To < 0 ∨ 3 < q.To ∨ q.From = q.To ∨ q.Every < 0 ∨ 1000000 < q.Every ∨ t < -1 ∨ 1000000 < t) := by omega
            refine ⟨fun c4 => ?_, fun c4 => ⟨fun c5 => bad _ (by decide) ?_, fun c5 => hn ?_⟩⟩
            · have c4 : fcheckS [q.F] ≠ 0 := by simpa using c4
              exact bad _ c4 (by unfold rok; rw [if_neg hn3, if_pos c4])
            · have c4 : fcheckS [q.F] = 0 := by simpa using c4
              unfold rok
              rw [if_neg hn3, if_neg (by simp [c4]), if_pos]
              simp only [Bool.or_eq_true, decide_eq_true_eq] at c5
              omega
            · have c4 : fcheckS [q.F] = 0 := by simpa using c4
              intro j x hj1 hx
              rcases Nat.lt_or_ge j k with h3 | h3
              · exact hj j x h3 hx
              · have : j = k := by omega
                subst this
                rw [hz] at hx
                cases hx
                unfold rok
                rw [if_neg hn3, if_neg (by simp [c4]), if_neg]
                simp only [Bool.or_eq_false_iff, decide_eq_false_iff_not] at c5
                omega
    · intro hj
      refine (firstErr_zero _ fun x hx => ?_).symm
      obtain ⟨j, hj1⟩ := List.mem_iff_getElem?.1 hx
      refine hj j x ?_ hj1
      have := (List.getElem?_eq_some_iff.1 hj1).1
      simp at this
      omega
theorem rcheckg_ok (g : Gate) : rcheckg_vc g (fun r => r = gcheckS g) := by
  intro hl hl2
  unfold gcheckS
  refine ⟨fun h => ?_, fun h => ⟨fun h1 => ?_, fun h1 => ?_⟩⟩
  · have : 20 < g.Routes.length := by simp at h; omega
    simp [this]
  · have h0 : ¬ 20 < g.Routes.length := by simp at h; omega
    have h2 : g.Last.length ≠ g.Routes.length := by simp at h1; omega
    rw [if_neg h0, if_pos h2]
  · have h0 : ¬ 20 < g.Routes.length := by simp at h; omega
    have h2 : g.Last.length = g.Routes.length := by simp at h1; omega
    rw [if_neg h0, if_neg (by simp [h2])]
    refine rg0 hl (fun k => ∀ j x, j < k → (List.zipWith rok g.Routes g.Last)[j]? = some x → x = 0) (fun j x hj => absurd hj (Nat.not_lt_zero _)) ?_ ?_
    · intro k q hk hq hj inv mu hn
      have ht := List.getElem?_eq_getElem (l := g.Last) (show k < g.Last.length by omega)
      generalize g.Last[k]'(by omega) = t at ht
      have hz := zip_at rok _ _ k q t hq ht
      have bad : ∀ e, e ≠ 0 → rok q t = e → e = firstErr (List.zipWith rok g.Routes g.Last) := fun e he h => by
        rw [h] at hz
        exact (firstErr_at _ k e hj hz he).symm
      refine ⟨fun c1 => bad _ (by decide) ?_, fun c1 => ⟨by omega, fun t1 ht1 => ?_⟩⟩
      · unfold rok
        rw [if_pos]
        simp only [Bool.or_eq_true, decide_eq_true_eq, beq_iff_eq] at c1
        omega
      · rw [Int.toNat_natCast, ht] at ht1
        obtain rfl : t = t1 := by simpa using ht1
        refine ⟨fun c2 => bad _ (by decide) ?_, fun c2 => ⟨by omega, fun t2 ht2 => ?_⟩⟩
        · unfold rok
          rw [if_pos]
          simp only [decide_eq_true_eq] at c2
          omega
        · rw [Int.toNat_natCast, ht] at ht2
          obtain rfl : t = t2 := by simpa using ht2
          simp only [Bool.or_eq_false_iff, decide_eq_false_iff_not, beq_eq_false_iff_ne] at c1 c2
          refine ⟨fun c3 => bad _ (by decide) ?_, fun c3 => ?_⟩
          · unfold rok
            rw [if_pos]
            simp only [decide_eq_true_eq] at c3
            omega
          · simp only [decide_eq_false_iff_not] at c3
            have hn3 : ¬ (q.From < 0 ∨ 3 < q.From ∨ q.To < 0 ∨ 3 < q.To ∨ q.From = q.To ∨ q.Every < 0 ∨ 1000000 < q.Every ∨ t < -1 ∨ 1000000 < t) := by omega
            refine ⟨fun c4 => ?_, fun c4 => ⟨fun c5 => bad _ (by decide) ?_, fun c5 => hn ?_⟩⟩
            · have c4 : fcheckS [q.F] ≠ 0 := by simpa using c4
              exact bad _ c4 (by unfold rok; rw [if_neg hn3, if_pos c4])
            · have c4 : fcheckS [q.F] = 0 := by simpa using c4
              unfold rok
              rw [if_neg hn3, if_neg (by simp [c4]), if_pos]
              simp only [Bool.or_eq_true, decide_eq_true_eq] at c5
              omega
            · have c4 : fcheckS [q.F] = 0 := by simpa using c4
              intro j x hj1 hx
              rcases Nat.lt_or_ge j k with h3 | h3
              · exact hj j x h3 hx
              · have : j = k := by omega
                subst this
                rw [hz] at hx
                cases hx
                unfold rok
                rw [if_neg hn3, if_neg (by simp [c4]), if_neg]
                simp only [Bool.or_eq_false_iff, decide_eq_false_iff_not] at c5
                omega
    · intro hj
      refine (firstErr_zero _ fun x hx => ?_).symm
      obtain ⟨j, hj1⟩ := List.mem_iff_getElem?.1 hx
      refine hj j x ?_ hj1
      have := (List.getElem?_eq_some_iff.1 hj1).1
      simp at this
      omega
/-- Which line comes first. -/
def llessS (a b : Line) : Int := if a.Bus ≠ b.Bus then w64 (a.Bus - b.Bus) else if a.F.Long ≠ b.F.Long then (if b.F.Long = true then -1 else 1) else w64 (a.F.ID - b.F.ID)
theorem lless_ok (a b : Line) : lless_vc a b (fun r => r = llessS a b) := by
  intro _ _
  unfold llessS
  refine ⟨fun h => ?_, fun h => ⟨fun h1 => ⟨fun h2 => ?_, fun h2 => ?_⟩, fun h1 => ?_⟩⟩
  · rw [if_pos (by simpa using h)]
  · rw [if_neg (by simpa using h), if_pos (by simpa using h1), if_pos h2]
  · rw [if_neg (by simpa using h), if_pos (by simpa using h1), if_neg (by simp [h2])]
  · rw [if_neg (by simpa using h), if_neg (by simpa using h1)]

end Go.Proofs.Ytmkdnaecmombnaa
set_option linter.unusedVariables false
set_option linter.unusedSimpArgs false
namespace Go.Proofs.Ytmkdnaecmombnaa
open Go.Sy Go.RowKit
def carry_vc (u0 : Route) (u1 : Int) (u2 : Frame) (K : (Frame × Bool) → Prop) : Prop :=
  (u2.Data.length ≤ 140737488355328 →
    (((u0.From != u1) = true →
      (K ((⟨0, false, false, false, 0, []⟩ : Frame), false))) ∧
    ((u0.From != u1) = false →
      (((!(lets ([u0.F] : List Filter) u2)) = true →
        (K ((⟨0, false, false, false, 0, []⟩ : Frame), false))) ∧
      ((!(lets ([u0.F] : List Filter) u2)) = false →
        ((u2.Data.length ≤ 140737488355328) ∧
        ((fcopyS u2).Data.length ≤ 140737488355328 →
        (K ((⟨w64 ((fcopyS u2).ID + u0.Add), (fcopyS u2).Long, (fcopyS u2).Fast, (fcopyS u2).Remote, (fcopyS u2).Size, (fcopyS u2).Data⟩ : Frame), (fcheckfr (⟨w64 ((fcopyS u2).ID + u0.Add), (fcopyS u2).Long, (fcopyS u2).Fast, (fcopyS u2).Remote, (fcopyS u2).Size, (fcopyS u2).Data⟩ : Frame)) == 0)))))))))

def carried_vc (u0 : Route) (u1 : Int) (u2 : Frame) (K : (Frame × Bool) → Prop) : Prop :=
  (u2.Data.length ≤ 140737488355328 →
    ((((u1 != u0.From) || (!(letsin u0.F u2))) = true →
      (K (u2, false))) ∧
    (((u1 != u0.From) || (!(letsin u0.F u2))) = false →
      (K ((⟨w64 (u2.ID + u0.Add), u2.Long, u2.Fast, u2.Remote, u2.Size, u2.Data⟩ : Frame), (fcheckfr (⟨w64 (u2.ID + u0.Add), u2.Long, u2.Fast, u2.Remote, u2.Size, u2.Data⟩ : Frame)) == 0)))))

def gnew_vc (u0 : List Route) (K : (Gate × Int) → Prop) : Prop :=
  (u0.length ≤ 140737488355328 →
    ((u0.length * 56 ≤ 140737488355328) ∧
    ((rclS u0).length ≤ 140737488355328 →
    (∃ inv46 : Int → Gate → Prop, ∃ mu46 : Int → Gate → Nat, inv46 0 (⟨(rclS u0), ([] : List Int)⟩ : Gate) ∧
    (∀ (x11 : Int) (yb30 : Gate), inv46 x11 yb30 →
    (((decide (x11 < (u0.length : Int))) = true →
      (((yb30.Last.length + 1) * 8 ≤ 140737488355328) ∧
      (inv46 (w64 (x11 + 1)) (⟨yb30.Routes, yb30.Last ++ [-1]⟩ : Gate) ∧ mu46 (w64 (x11 + 1)) (⟨yb30.Routes, yb30.Last ++ [-1]⟩ : Gate) < mu46 x11 yb30))) ∧
    ((decide (x11 < (u0.length : Int))) = false →
      ((((gcheckS yb30) != 0) = true →
        (K ((⟨[], []⟩ : Gate), (gcheckS yb30)))) ∧
      (((gcheckS yb30) != 0) = false →
        (K (yb30, 0)))))))))))

def rsame_vc (u0 : Frame) (u1 : Frame) (K : Bool → Prop) : Prop :=
  (u0.Data.length ≤ 140737488355328 →
    (u1.Data.length ≤ 140737488355328 →
    (K ((((((u0.ID == u1.ID) && (u0.Long == u1.Long)) && (u0.Fast == u1.Fast)) && (u0.Remote == u1.Remote)) && (u0.Size == u1.Size)) && (beqS u0.Data u1.Data)))))

def sameg_vc (u0 : Gate) (u1 : Gate) (K : Bool → Prop) : Prop :=
  (u0.Routes.length ≤ 140737488355328 →
    (u0.Last.length ≤ 140737488355328 →
    (u1.Routes.length ≤ 140737488355328 →
    (u1.Last.length ≤ 140737488355328 →
    (K ((reqS u0.Routes u1.Routes) && (ieqS u0.Last u1.Last)))))))

def lsame_vc (u0 : Line) (u1 : Line) (K : Bool → Prop) : Prop :=
  (u0.F.Data.length ≤ 140737488355328 →
    (u1.F.Data.length ≤ 140737488355328 →
    (K ((llessS u0 u1) == 0))))
def lsame (u0 : Line) (u1 : Line) : Bool :=
  (llessS u0 u1) == 0
theorem lsame_ok (u0 : Line) (u1 : Line) : lsame_vc u0 u1 (fun r => r = lsame u0 u1) := (fun _ => (fun _ => (by rfl)))

/-! Pure proofs: no program in sight. -/
theorem ftop_le (long : Bool) : 0 ≤ ftop long ∧ ftop long ≤ 536870911 := by cases long <;> decide
theorem fcheckfr_id (f : Frame) (h : fcheckfr f = 0) : 0 ≤ f.ID ∧ f.ID ≤ ftop f.Long := by
  unfold fcheckfr at h
  cases hb : (((decide (f.ID < 0)) || ((!f.Long) && (decide (f.ID > 2047)))) || (decide (f.ID > 536870911))) with
  | true => rw [hb] at h; simp at h
  | false =>
    simp only [Bool.or_eq_false_iff, decide_eq_false_iff_not, Bool.and_eq_false_iff] at hb
    unfold ftop
    cases hL : f.Long with
    | true => simp only [cond_true]; omega
    | false =>
      rw [hL] at hb
      simp only [Bool.not_false, cond_false] at hb ⊢
      have := hb.1.2
      simp at this
      omega
theorem fcheckfr_id29 (f : Frame) (h : fcheckfr f = 0) : 0 ≤ f.ID ∧ f.ID ≤ 536870911 := by
  have := fcheckfr_id f h
  have := ftop_le f.Long
  omega
/-- The frame that a route makes of one. -/
def moved (r : Route) (f : Frame) : Frame := ⟨f.ID + r.Add, f.Long, f.Fast, f.Remote, f.Size, f.Data⟩
def carryS (r : Route) (bus : Int) (f : Frame) : Frame × Bool := if r.From ≠ bus ∨ lets [r.F] f = false then (⟨0, false, false, false, 0, []⟩, false) else (moved r f, fcheckfr (moved r f) == 0)
def carriedS (r : Route) (bus : Int) (f : Frame) : Frame × Bool := if r.From ≠ bus ∨ letsin r.F f = false then (f, false) else (moved r f, fcheckfr (moved r f) == 0)
theorem carry_ok (r : Route) (bus : Int) (f : Frame) (h : fcheckfr f = 0 ∧ -536870911 ≤ r.Add ∧ r.Add ≤ 536870911) : carry_vc r bus f (fun x => x = carryS r bus f) := by
  intro hl
  have hid := fcheckfr_id29 f h.1
  have e : w64 (f.ID + r.Add) = f.ID + r.Add := w64_eq _ (by omega)
  unfold carryS
  refine ⟨fun h1 => ?_, fun h1 => ⟨fun h2 => ?_, fun h2 => ⟨hl, fun _ => ?_⟩⟩⟩
  · have h1 : r.From ≠ bus := by simpa using h1
    rw [if_pos (.inl h1)]
  · have h2 : lets [r.F] f = false := by simpa using h2
    rw [if_pos (.inr h2)]
  · have h1 : r.From = bus := by simpa using h1
    have h2 : lets [r.F] f = true := by simpa using h2
    rw [if_neg (by simp [h1, h2])]
    show ((⟨w64 (f.ID + r.Add), _, _, _, _, _⟩ : Frame), _) = _
    unfold fcopyS
    rw [e]
    rfl
theorem carried_ok (r : Route) (bus : Int) (f : Frame) (h : fcheckfr f = 0 ∧ -536870911 ≤ r.Add ∧ r.Add ≤ 536870911) : carried_vc r bus f (fun x => x = carriedS r bus f) := by
  intro hl
  have hid := fcheckfr_id29 f h.1
  have e : w64 (f.ID + r.Add) = f.ID + r.Add := w64_eq _ (by omega)
  unfold carriedS
  refine ⟨fun h1 => ?_, fun h1 => ?_⟩
  · have h1 : r.From ≠ bus ∨ letsin r.F f = false := by
      simp only [Bool.or_eq_true, bne_iff_ne, Bool.not_eq_true'] at h1
      rcases h1 with h1 | h1
      · exact .inl fun e => h1 e.symm
      · exact .inr h1
    rw [if_pos h1]
  · simp only [Bool.or_eq_false_iff, bne_eq_false_iff_eq, Bool.not_eq_false'] at h1
    rw [if_neg (by simp [h1.1, h1.2])]
    show ((⟨w64 (f.ID + r.Add), _, _, _, _, _⟩ : Frame), _) = _
    rw [e]
    rfl
def gnewG (l : List Route) : Gate := ⟨l, List.replicate l.length (-1)⟩
def gnewS (l : List Route) : Gate × Int := if gcheckS (gnewG l) ≠ 0 then (⟨[], []⟩, gcheckS (gnewG l)) else (gnewG l, 0)
theorem gnew_ok (l : List Route) (h : l.length * 56 ≤ 140737488355328) : gnew_vc l (fun r => r = gnewS l) := by
  intro hl
  refine ⟨h, fun _ => ⟨fun x g => ∃ k : Nat, x = k ∧ k ≤ l.length ∧ g = ⟨l, List.replicate k (-1)⟩, fun x _ => l.length - x.toNat, ⟨0, rfl, Nat.zero_le _, rfl⟩, ?_⟩⟩
  rintro _ _ ⟨k, rfl, hk, rfl⟩
  refine ⟨fun h1 => ?_, fun h1 => ?_⟩
  · have h1 : k < l.length := by simpa using h1
    rw [w64_succ k (by omega)]
    refine ⟨by simp; omega, ⟨k + 1, rfl, h1, ?_⟩, by simp only [Int.toNat_natCast]; omega⟩
    show (⟨l, _⟩ : Gate) = _
    rw [List.replicate_succ']
  · have h1 : k = l.length := by simp at h1; omega
    subst h1
    unfold gnewS gnewG
    refine ⟨fun h2 => ?_, fun h2 => ?_⟩
    · rw [if_pos (by simpa using h2)]
    · rw [if_neg (by simpa using h2)]
def rsameS (a b : Frame) : Bool := decide (a = b)
theorem rsame_ok (a b : Frame) : rsame_vc a b (fun r => r = rsameS a b) := by
  intro _ _
  obtain ⟨a1, a2, a3, a4, a5, a6⟩ := a
  obtain ⟨b1, b2, b3, b4, b5, b6⟩ := b
  unfold rsameS beqS
  rw [Bool.eq_iff_iff]
  simp [and_assoc]
def samegS (a b : Gate) : Bool := decide (a = b)
theorem sameg_ok (a b : Gate) : sameg_vc a b (fun r => r = samegS a b) := by
  intro _ _ _ _
  obtain ⟨a1, a2⟩ := a
  obtain ⟨b1, b2⟩ := b
  unfold samegS reqS ieqS
  rw [Bool.eq_iff_iff]
  simp
/-- round, many, n, done, out -/
abbrev St := Bool × Bool × Int × List (Key × Bool) × List Line
abbrev kOf (bus : Int) (f : Frame) : Key := ⟨bus, f.ID, f.Long⟩
def fresh (t : St) (way : List Key) (k : Key) : Bool := (!((mget t.2.2.2.1 k).getD false)) && (!(kcontainsS way k))
def gout (t : St) (way : List Key) (to_ : Int) (x : Frame) : St := if fresh t way (kOf to_ x) = true then (t.1, t.2.1, t.2.2.1, t.2.2.2.1, t.2.2.2.2 ++ [⟨0, to_, x⟩]) else t
def gstep (go : Int → Frame → List Key → St → St) (bus : Int) (f : Frame) (way : List Key) (t : St) (r : Route) : St :=
  if (carryS r bus f).2 = true then go r.To (carryS r bus f).1 way (gout t way r.To (carryS r bus f).1) else t
def goF (rs : List Route) : Nat → Int → Frame → List Key → St → St
  | 0, _, _, _, s => s
  | F + 1, bus, f, way, s =>
    if kcontainsS way (kOf bus f) = true then (true, s.2)
    else if ((mget s.2.2.2.1 (kOf bus f)).getD false || s.2.1) = true then s
    else if 1000 < s.2.2.1 + 1 then (s.1, true, s.2.2.1 + 1, s.2.2.2)
    else
      let t := rs.foldl (gstep (goF rs F) bus f (way ++ [kOf bus f])) (s.1, s.2.1, s.2.2.1 + 1, s.2.2.2)
      (t.1, t.2.1, t.2.2.1, mput t.2.2.2.1 (kOf bus f) true, t.2.2.2.2)
def goS (bus : Int) (f : Frame) (way : List Key) (round : Bool) (done : List (Key × Bool)) (many : Bool) (n : Int) (g : Gate) (out : List Line) : St := goF g.Routes 1002 bus f way (round, many, n, done, out)
def goMu (_bus : Int) (_f : Frame) (_way : List Key) (_round : Bool) (_done : List (Key × Bool)) (_many : Bool) (n : Int) (_g : Gate) (_out : List Line) : Nat := (1001 - n).toNat
def goPre (_bus : Int) (f : Frame) (way : List Key) (_round : Bool) (_done : List (Key × Bool)) (many : Bool) (n : Int) (g : Gate) (out : List Line) : Prop :=
  (0 ≤ n ∧ n ≤ 1001 ∧ (many = false → n ≤ 1000)) ∧ fcheckfr f = 0 ∧ (∀ r ∈ g.Routes, -536870911 ≤ r.Add ∧ r.Add ≤ 536870911) ∧ g.Routes.length ≤ 20 ∧ (way.length : Int) ≤ n ∧ (out.length : Int) ≤ 20 * n
/-- How a call goes on. -/
structure Grew (s t : St) : Prop where
  n : s.2.2.1 ≤ t.2.2.1
  top : s.2.2.1 ≤ 1001 ∧ (s.2.1 = false → s.2.2.1 ≤ 1000) → t.2.2.1 ≤ 1001 ∧ (t.2.1 = false → t.2.2.1 ≤ 1000)
  out : (t.2.2.2.2.length : Int) + 20 * s.2.2.1 ≤ s.2.2.2.2.length + 20 * t.2.2.1
theorem Grew.refl (s : St) : Grew s s := ⟨Int.le_refl _, id, Int.le_refl _⟩
theorem gout_n (t : St) (way : List Key) (to_ : Int) (x : Frame) : (gout t way to_ x).2.2.1 = t.2.2.1 ∧ (gout t way to_ x).2.1 = t.2.1 ∧ (gout t way to_ x).2.2.2.2.length ≤ t.2.2.2.2.length + 1 := by
  unfold gout
  split <;> simp
theorem gstep_n {go : Int → Frame → List Key → St → St} (hgo : ∀ b f w s, Grew s (go b f w s)) (bus : Int) (f : Frame) (way : List Key) (t : St) (r : Route) :
    t.2.2.1 ≤ (gstep go bus f way t r).2.2.1 ∧ (t.2.2.1 ≤ 1001 ∧ (t.2.1 = false → t.2.2.1 ≤ 1000) → (gstep go bus f way t r).2.2.1 ≤ 1001 ∧ ((gstep go bus f way t r).2.1 = false → (gstep go bus f way t r).2.2.1 ≤ 1000)) ∧
    ((gstep go bus f way t r).2.2.2.2.length : Int) + 20 * t.2.2.1 ≤ t.2.2.2.2.length + 1 + 20 * (gstep go bus f way t r).2.2.1 := by
  unfold gstep
  split
  · have h := hgo r.To (carryS r bus f).1 way (gout t way r.To (carryS r bus f).1)
    have e := gout_n t way r.To (carryS r bus f).1
    obtain ⟨h1, h2, h3⟩ := h
    rw [e.1] at h1 h2 h3
    rw [e.2.1] at h2
    exact ⟨h1, h2, by have := e.2.2; omega⟩
  · exact ⟨Int.le_refl _, id, by omega⟩
theorem gfold_n {go : Int → Frame → List Key → St → St} (hgo : ∀ b f w s, Grew s (go b f w s)) (bus : Int) (f : Frame) (way : List Key) : ∀ (rs : List Route) (t : St),
    t.2.2.1 ≤ (rs.foldl (gstep go bus f way) t).2.2.1 ∧ (t.2.2.1 ≤ 1001 ∧ (t.2.1 = false → t.2.2.1 ≤ 1000) → (rs.foldl (gstep go bus f way) t).2.2.1 ≤ 1001 ∧ ((rs.foldl (gstep go bus f way) t).2.1 = false → (rs.foldl (gstep go bus f way) t).2.2.1 ≤ 1000)) ∧
    ((rs.foldl (gstep go bus f way) t).2.2.2.2.length : Int) + 20 * t.2.2.1 ≤ t.2.2.2.2.length + rs.length + 20 * (rs.foldl (gstep go bus f way) t).2.2.1
  | [], t => ⟨Int.le_refl _, id, by simp⟩
  | r :: rs, t => by
    obtain ⟨a1, a2, a3⟩ := gstep_n hgo bus f way t r
    obtain ⟨b1, b2, b3⟩ := gfold_n hgo bus f way rs (gstep go bus f way t r)
    rw [List.foldl_cons]
    refine ⟨by omega, fun h => b2 (a2 h), ?_⟩
    simp only [List.length_cons]
    omega
theorem goF_grew (rs : List Route) (hl : rs.length ≤ 20) : ∀ (F : Nat) (bus : Int) (f : Frame) (way : List Key) (s : St), Grew s (goF rs F bus f way s)
  | 0, _, _, _, s => Grew.refl s
  | F + 1, bus, f, way, s => by
    unfold goF
    split
    · exact ⟨Int.le_refl _, id, Int.le_refl _⟩
    · split
      · exact Grew.refl s
      · rename_i h2
        split
        · rename_i h3
          exact ⟨by simp only []; omega, fun h => by
            have : s.2.1 = false := by simp at h2; exact h2.2
            have := h.2 this
            exact ⟨by show s.2.2.1 + 1 ≤ 1001; omega, fun h => by simp at h⟩, by simp only []; omega⟩
        · rename_i h3
          obtain ⟨a1, a2, a3⟩ := gfold_n (goF_grew rs hl F) bus f (way ++ [kOf bus f]) rs (s.1, s.2.1, s.2.2.1 + 1, s.2.2.2)
          refine ⟨?_, fun h => a2 ⟨by simp only []; omega, fun _ => by simp only []; omega⟩, ?_⟩
          · simp only [] at a1 ⊢; omega
          · simp only [] at a3 ⊢; omega
theorem gfold_congr {go go' : Int → Frame → List Key → St → St} (m : Int) (hgo : ∀ b f w s, Grew s (go b f w s)) (bus : Int) (f : Frame) (way : List Key) (h : ∀ b f w s, m ≤ s.2.2.1 → go b f w s = go' b f w s) : ∀ (rs : List Route) (t : St), m ≤ t.2.2.1 →
    rs.foldl (gstep go bus f way) t = rs.foldl (gstep go' bus f way) t
  | [], _, _ => rfl
  | r :: rs, t, hm => by
    have e : gstep go bus f way t r = gstep go' bus f way t r := by
      unfold gstep
      split
      · exact h _ _ _ _ (by rw [(gout_n t way r.To _).1]; exact hm)
      · rfl
    rw [List.foldl_cons, List.foldl_cons, ← e]
    exact gfold_congr m hgo bus f way h rs _ (by have := (gstep_n hgo bus f way t r).1; omega)
theorem goF_fuel (rs : List Route) (hl : rs.length ≤ 20) : ∀ (F : Nat) (bus : Int) (f : Frame) (way : List Key) (s : St), (1001 - s.2.2.1).toNat < F → goF rs F bus f way s = goF rs (F + 1) bus f way s
  | 0, _, _, _, s, h => by omega
  | F + 1, bus, f, way, s, h => by
    rw [goF, goF]
    split
    · rfl
    · split
      · rfl
      · split
        · rfl
        · rename_i h3
          have e := gfold_congr (s.2.2.1 + 1) (goF_grew rs hl F) bus f (way ++ [kOf bus f]) (go' := goF rs (F + 1)) (fun b f w t ht => goF_fuel rs hl F b f w t (by omega)) rs (s.1, s.2.1, s.2.2.1 + 1, s.2.2.2) (Int.le_refl _)
          rw [e]
theorem moved_ok (r : Route) (bus : Int) (f : Frame) (h : (carryS r bus f).2 = true) : fcheckfr (carryS r bus f).1 = 0 ∧ (carryS r bus f).1 = moved r f ∧ r.From = bus ∧ lets [r.F] f = true := by
  unfold carryS at h ⊢
  split at h
  · cases h
  · rename_i hc
    rw [if_neg hc]
    exact ⟨by simpa using h, rfl, by simpa using fun e => hc (.inl e), by cases hl : lets [r.F] f with
      | true => rfl
      | false => exact absurd (.inr hl) hc⟩

end Go.Proofs.Ytmkdnaecmombnaa
set_option linter.unusedVariables false
set_option linter.unusedSimpArgs false
namespace Go.Proofs.Ytmkdnaecmombnaa
open Go.Sy Go.RowKit
def go1_vc (u0 : Int) (u1 : Frame) (u2 : List Key) (u3 : Bool) (u4 : List (Key × Bool)) (u5 : Bool) (u6 : Int) (u7 : Gate) (u8 : List Line) (K : (Bool × Bool × Int × (List (Key × Bool)) × (List Line)) → Prop) : Prop :=
  (u1.Data.length ≤ 140737488355328 →
    (u2.length ≤ 140737488355328 →
    (((kcontainsS u2 (⟨u0, u1.ID, u1.Long⟩ : Key)) = true →
      (K (true, u5, u6, u4, u8))) ∧
    ((kcontainsS u2 (⟨u0, u1.ID, u1.Long⟩ : Key)) = false →
      (((((mget u4 (⟨u0, u1.ID, u1.Long⟩ : Key)).getD (false : Bool)) || u5) = true →
        (K (u3, u5, u6, u4, u8))) ∧
      ((((mget u4 (⟨u0, u1.ID, u1.Long⟩ : Key)).getD (false : Bool)) || u5) = false →
        (((decide ((w64 (u6 + 1)) > 1000)) = true →
          (K (u3, true, w64 (u6 + 1), u4, u8))) ∧
        ((decide ((w64 (u6 + 1)) > 1000)) = false →
          (((u2.length + 1) * 24 ≤ 140737488355328) ∧
          (∃ inv162 : Int → Bool → (List (Key × Bool)) → Bool → Int → (List Line) → Prop, ∃ mu162 : Int → Bool → (List (Key × Bool)) → Bool → Int → (List Line) → Nat, inv162 0 u3 u4 u5 (w64 (u6 + 1)) u8 ∧
          (∀ (x50 : Int) (yb7c0 : Bool) (mmb10 : List (Key × Bool)) (yb12c0 : Bool) (yb13c0 : Int) (yb23 : List Line), inv162 x50 yb7c0 mmb10 yb12c0 yb13c0 yb23 →
          (((decide (x50 < (u7.Routes.length : Int))) = true →
            ((0 ≤ x50 ∧ x50 < (u7.Routes.length : Int)) ∧
            (∀ q199, u7.Routes[x50.toNat]? = some q199 →
            ((fcheckfr u1 = 0 ∧ -536870911 ≤ q199.Add ∧ q199.Add ≤ 536870911) ∧
            ((carryS q199 u0 u1).1.Data.length ≤ 140737488355328 →
            (((carryS q199 u0 u1).2 = true →
              ((((!((mget mmb10 (⟨q199.To, (carryS q199 u0 u1).1.ID, (carryS q199 u0 u1).1.Long⟩ : Key)).getD (false : Bool))) && (!(kcontainsS (u2 ++ [(⟨u0, u1.ID, u1.Long⟩ : Key)]) (⟨q199.To, (carryS q199 u0 u1).1.ID, (carryS q199 u0 u1).1.Long⟩ : Key)))) = true →
                (((yb23.length + 1) * 64 ≤ 140737488355328) ∧
                ((goMu q199.To (carryS q199 u0 u1).1 (u2 ++ [(⟨u0, u1.ID, u1.Long⟩ : Key)]) yb7c0 mmb10 yb12c0 yb13c0 u7 (yb23 ++ [(⟨0, q199.To, (carryS q199 u0 u1).1⟩ : Line)]) < goMu u0 u1 u2 u3 u4 u5 u6 u7 u8 ∧ goPre q199.To (carryS q199 u0 u1).1 (u2 ++ [(⟨u0, u1.ID, u1.Long⟩ : Key)]) yb7c0 mmb10 yb12c0 yb13c0 u7 (yb23 ++ [(⟨0, q199.To, (carryS q199 u0 u1).1⟩ : Line)])) ∧
                (∀ r353, (goS q199.To (carryS q199 u0 u1).1 (u2 ++ [(⟨u0, u1.ID, u1.Long⟩ : Key)]) yb7c0 mmb10 yb12c0 yb13c0 u7 (yb23 ++ [(⟨0, q199.To, (carryS q199 u0 u1).1⟩ : Line)])) = r353 →
                (r353.2.2.2.2.length ≤ 140737488355328 →
                (inv162 (w64 (x50 + 1)) r353.1 r353.2.2.2.1 r353.2.1 r353.2.2.1 r353.2.2.2.2 ∧ mu162 (w64 (x50 + 1)) r353.1 r353.2.2.2.1 r353.2.1 r353.2.2.1 r353.2.2.2.2 < mu162 x50 yb7c0 mmb10 yb12c0 yb13c0 yb23)))))) ∧
              (((!((mget mmb10 (⟨q199.To, (carryS q199 u0 u1).1.ID, (carryS q199 u0 u1).1.Long⟩ : Key)).getD (false : Bool))) && (!(kcontainsS (u2 ++ [(⟨u0, u1.ID, u1.Long⟩ : Key)]) (⟨q199.To, (carryS q199 u0 u1).1.ID, (carryS q199 u0 u1).1.Long⟩ : Key)))) = false →
                ((goMu q199.To (carryS q199 u0 u1).1 (u2 ++ [(⟨u0, u1.ID, u1.Long⟩ : Key)]) yb7c0 mmb10 yb12c0 yb13c0 u7 yb23 < goMu u0 u1 u2 u3 u4 u5 u6 u7 u8 ∧ goPre q199.To (carryS q199 u0 u1).1 (u2 ++ [(⟨u0, u1.ID, u1.Long⟩ : Key)]) yb7c0 mmb10 yb12c0 yb13c0 u7 yb23) ∧
                (∀ r388, (goS q199.To (carryS q199 u0 u1).1 (u2 ++ [(⟨u0, u1.ID, u1.Long⟩ : Key)]) yb7c0 mmb10 yb12c0 yb13c0 u7 yb23) = r388 →
                (r388.2.2.2.2.length ≤ 140737488355328 →
                (inv162 (w64 (x50 + 1)) r388.1 r388.2.2.2.1 r388.2.1 r388.2.2.1 r388.2.2.2.2 ∧ mu162 (w64 (x50 + 1)) r388.1 r388.2.2.2.1 r388.2.1 r388.2.2.1 r388.2.2.2.2 < mu162 x50 yb7c0 mmb10 yb12c0 yb13c0 yb23))))))) ∧
            ((carryS q199 u0 u1).2 = false →
              (inv162 (w64 (x50 + 1)) yb7c0 mmb10 yb12c0 yb13c0 yb23 ∧ mu162 (w64 (x50 + 1)) yb7c0 mmb10 yb12c0 yb13c0 yb23 < mu162 x50 yb7c0 mmb10 yb12c0 yb13c0 yb23)))))))) ∧
          ((decide (x50 < (u7.Routes.length : Int))) = false →
            (K (yb7c0, yb12c0, yb13c0, mput mmb10 (⟨u0, u1.ID, u1.Long⟩ : Key) true, yb23)))))))))))))))

/-! Pure proofs: no program in sight. -/
theorem go1_ok (bus : Int) (f : Frame) (way : List Key) (round : Bool) (done : List (Key × Bool)) (many : Bool) (n : Int) (g : Gate) (out : List Line) (h : goPre bus f way round done many n g out) :
    go1_vc bus f way round done many n g out (fun r => r = goS bus f way round done many n g out) := by
  obtain ⟨⟨hn0, hn1, hn2⟩, hf, hadd, hlen, hway, hout⟩ := h
  have hgrew := goF_grew g.Routes hlen 1002
  unfold goS
  rw [goF]
  intro _ _
  refine ⟨fun h1 => ?_, fun h1 => ⟨fun h2 => ?_, fun h2 => ⟨fun h3 => ?_, fun h3 => ?_⟩⟩⟩
  · rw [if_pos h1]
  · rw [if_neg (by simp [h1]), if_pos h2]
  · have e : w64 (n + 1) = n + 1 := w64_eq _ (by omega)
    rw [e] at h3 ⊢
    rw [if_neg (by simp [h1]), if_neg (by simpa using h2), if_pos (by simpa using h3)]
  · have e : w64 (n + 1) = n + 1 := w64_eq _ (by omega)
    rw [e] at h3 ⊢
    have h3 : ¬ 1000 < n + 1 := by simpa using h3
    have hm : many = false := by simp at h2; exact h2.2
    rw [if_neg (by simp [h1]), if_neg (by simpa using h2), if_neg h3]
    have hfuel : g.Routes.foldl (gstep (goF g.Routes 1001) bus f (way ++ [kOf bus f])) (round, many, n + 1, done, out) = g.Routes.foldl (gstep (goF g.Routes 1002) bus f (way ++ [kOf bus f])) (round, many, n + 1, done, out) :=
      gfold_congr (n + 1) (goF_grew g.Routes hlen 1001) bus f _ (fun b f w t ht => goF_fuel g.Routes hlen 1001 b f w t (by omega)) _ _ (Int.le_refl _)
    simp only [] at hfuel ⊢
    rw [hfuel]
    refine ⟨by omega, fun x a d m k o => ∃ j : Nat, x = j ∧ j ≤ g.Routes.length ∧ (a, m, k, d, o) = (g.Routes.take j).foldl (gstep (goF g.Routes 1002) bus f (way ++ [kOf bus f])) (round, many, n + 1, done, out) ∧ n + 1 ≤ k ∧ k ≤ 1001 ∧ (m = false → k ≤ 1000) ∧ (o.length : Int) + (g.Routes.length - j : Nat) ≤ 20 * k,
      fun x _ _ _ _ _ => g.Routes.length - x.toNat, ⟨0, rfl, Nat.zero_le _, rfl, Int.le_refl _, by omega, fun _ => by omega, by omega⟩, ?_⟩
    rintro _ a d m k o ⟨j, rfl, hj, hst, hk1, hk2, hk3, hlo⟩
    refine ⟨fun h4 => ?_, fun h4 => ?_⟩
    · have h4 : j < g.Routes.length := by simpa using h4
      refine ⟨by omega, fun r hr => ⟨⟨hf, ?_⟩, fun _ => ?_⟩⟩
      · rw [Int.toNat_natCast] at hr
        exact hadd r (List.mem_of_getElem? hr)
      · rw [Int.toNat_natCast] at hr
        have hnext : (g.Routes.take (j + 1)).foldl (gstep (goF g.Routes 1002) bus f (way ++ [kOf bus f])) (round, many, n + 1, done, out) = gstep (goF g.Routes 1002) bus f (way ++ [kOf bus f]) (a, m, k, d, o) r := by
          rw [List.take_add_one, hr, Option.toList_some, List.foldl_append, ← hst]
          rfl
        rw [w64_succ j (by omega)]
        have hwl : ((way ++ [kOf bus f]).length : Int) ≤ n + 1 := by simp; omega
        have fin : ∀ (o2 : List Line), (carryS r bus f).2 = true → gout (a, m, k, d, o) (way ++ [kOf bus f]) r.To (carryS r bus f).1 = (a, m, k, d, o2) → (o2.length : Int) ≤ o.length + 1 →
            (goMu r.To (carryS r bus f).1 (way ++ [kOf bus f]) a d m k g o2 < goMu bus f way round done many n g out ∧ goPre r.To (carryS r bus f).1 (way ++ [kOf bus f]) a d m k g o2) ∧
            ∀ x, goS r.To (carryS r bus f).1 (way ++ [kOf bus f]) a d m k g o2 = x → x.2.2.2.2.length ≤ 140737488355328 →
              (∃ j' : Nat, ((j + 1 : Nat) : Int) = j' ∧ j' ≤ g.Routes.length ∧ (x.1, x.2.1, x.2.2.1, x.2.2.2.1, x.2.2.2.2) = (g.Routes.take j').foldl (gstep (goF g.Routes 1002) bus f (way ++ [kOf bus f])) (round, many, n + 1, done, out) ∧ n + 1 ≤ x.2.2.1 ∧ x.2.2.1 ≤ 1001 ∧ (x.2.1 = false → x.2.2.1 ≤ 1000) ∧ (x.2.2.2.2.length : Int) + (g.Routes.length - j' : Nat) ≤ 20 * x.2.2.1) ∧
              g.Routes.length - ((j + 1 : Nat) : Int).toNat < g.Routes.length - (j : Int).toNat := by
          intro o2 hc he ho
          refine ⟨⟨by unfold goMu; omega, ⟨by omega, hk2, hk3⟩, (moved_ok r bus f hc).1, hadd, hlen, by omega, by omega⟩, ?_⟩
          rintro x rfl _
          unfold goS
          have hg := hgrew r.To (carryS r bus f).1 (way ++ [kOf bus f]) (a, m, k, d, o2)
          obtain ⟨g1, g2, g3⟩ := hg
          have g2 := g2 ⟨hk2, hk3⟩
          simp only [] at g1 g3
          refine ⟨⟨j + 1, rfl, h4, ?_, by omega, g2.1, g2.2, by omega⟩, by simp only [Int.toNat_natCast]; omega⟩
          rw [hnext]
          unfold gstep
          rw [if_pos hc, he]
        refine ⟨fun h5 => ⟨fun h6 => ?_, fun h6 => ?_⟩, fun h5 => ?_⟩
        · have he : gout (a, m, k, d, o) (way ++ [kOf bus f]) r.To (carryS r bus f).1 = (a, m, k, d, o ++ [⟨0, r.To, (carryS r bus f).1⟩]) := by
            unfold gout fresh
            rw [if_pos h6]
          have := fin (o ++ [⟨0, r.To, (carryS r bus f).1⟩]) h5 he (by simp)
          exact ⟨by omega, this.1, this.2⟩
        · have he : gout (a, m, k, d, o) (way ++ [kOf bus f]) r.To (carryS r bus f).1 = (a, m, k, d, o) := by
            unfold gout fresh
            rw [if_neg (by rw [h6]; simp)]
          exact fin o h5 he (by omega)
        · refine ⟨⟨j + 1, rfl, h4, ?_, hk1, hk2, hk3, by omega⟩, by simp only [Int.toNat_natCast]; omega⟩
          rw [hnext]
          unfold gstep
          rw [if_neg (by simp [h5])]
    · have h4 : j = g.Routes.length := by simp at h4; omega
      subst h4
      rw [List.take_length] at hst
      rw [← hst]

end Go.Proofs.Ytmkdnaecmombnaa
set_option linter.unusedVariables false
set_option linter.unusedSimpArgs false
namespace Go.Proofs.Ytmkdnaecmombnaa
open Go.Sy Go.RowKit
def sins_vc (u0 : List Line) (u1 : Int) (u2 : Int) (u3 : Line → Line → Int) (K : (List Line) → Prop) : Prop :=
  (u0.length ≤ 140737488355328 →
    (∃ inv16 : Int → (List Line) → Prop, ∃ mu16 : Int → (List Line) → Nat, inv16 (w64 (u1 + 1)) u0 ∧
    (∀ (x8 : Int) (zao1 : List Line), inv16 x8 zao1 →
    (((decide (x8 < u2)) = true →
      (∃ inv44 : Int → (List Line) → Prop, ∃ mu44 : Int → (List Line) → Nat, inv44 x8 zao1 ∧
      (∀ (x9 : Int) (zao1v : List Line), inv44 x9 zao1v →
      (((decide (x9 > u1)) = true →
        ((0 ≤ x9 ∧ x9 < (zao1v.length : Int)) ∧
        (∀ qd8_0, zao1v[x9.toNat]? = some qd8_0 →
        ((0 ≤ w64 (x9 - 1) ∧ w64 (x9 - 1) < (zao1v.length : Int)) ∧
        (∀ qd13_0, zao1v[(w64 (x9 - 1)).toNat]? = some qd13_0 →
        (((decide ((u3 qd8_0 qd13_0) < 0)) = true →
          ((0 ≤ w64 (x9 - 1) ∧ w64 (x9 - 1) < (zao1v.length : Int)) ∧
          (∀ qd9_0, zao1v[(w64 (x9 - 1)).toNat]? = some qd9_0 →
          ((0 ≤ x9 ∧ x9 < (zao1v.length : Int)) ∧
          (∀ qd13_0, zao1v[x9.toNat]? = some qd13_0 →
          ((0 ≤ x9 ∧ x9 < (zao1v.length : Int)) ∧
          ((0 ≤ w64 (x9 - 1) ∧ w64 (x9 - 1) < (zao1v.length : Int)) ∧
          (inv44 (w64 (x9 - 1)) ((zao1v.set x9.toNat qd9_0).set (w64 (x9 - 1)).toNat qd13_0) ∧ mu44 (w64 (x9 - 1)) ((zao1v.set x9.toNat qd9_0).set (w64 (x9 - 1)).toNat qd13_0) < mu44 x9 zao1v)))))))) ∧
        ((decide ((u3 qd8_0 qd13_0) < 0)) = false →
          (inv16 (w64 (x8 + 1)) zao1v ∧ mu16 (w64 (x8 + 1)) zao1v < mu16 x8 zao1)))))))) ∧
      ((decide (x9 > u1)) = false →
        (inv16 (w64 (x8 + 1)) zao1v ∧ mu16 (w64 (x8 + 1)) zao1v < mu16 x8 zao1)))))) ∧
    ((decide (x8 < u2)) = false →
      ((zao1.length = u0.length) ∧
      (K zao1)))))))
theorem sins_mono {u0 : List Line} {u1 : Int} {u2 : Int} {u3 : Line → Line → Int} {K K1 : (List Line) → Prop} (hK : ∀ r, K r → K1 r) (h : sins_vc u0 u1 u2 u3 K) : sins_vc u0 u1 u2 u3 K1 :=
  fun z0 => (Exists.elim (h z0) fun i1 e1 => Exists.elim e1 fun m1 g1 => ⟨i1, m1, g1.1, fun x8 zao1 z1 => ⟨fun c2 => (Exists.elim ((g1.2 x8 zao1 z1).1 c2) fun i3 e3 => Exists.elim e3 fun m3 g3 => ⟨i3, m3, g3.1, fun x9 zao1v z3 => ⟨fun c4 => ⟨((g3.2 x9 zao1v z3).1 c4).1, fun y6 z6 => ⟨(((g3.2 x9 zao1v z3).1 c4).2 y6 z6).1, fun y8 z8 => ⟨fun c9 => ⟨(((((g3.2 x9 zao1v z3).1 c4).2 y6 z6).2 y8 z8).1 c9).1, fun y11 z11 => ⟨((((((g3.2 x9 zao1v z3).1 c4).2 y6 z6).2 y8 z8).1 c9).2 y11 z11).1, fun y13 z13 => ⟨(((((((g3.2 x9 zao1v z3).1 c4).2 y6 z6).2 y8 z8).1 c9).2 y11 z11).2 y13 z13).1, ⟨(((((((g3.2 x9 zao1v z3).1 c4).2 y6 z6).2 y8 z8).1 c9).2 y11 z11).2 y13 z13).2.1, (((((((g3.2 x9 zao1v z3).1 c4).2 y6 z6).2 y8 z8).1 c9).2 y11 z11).2 y13 z13).2.2⟩⟩⟩⟩, fun c9 => (((((g3.2 x9 zao1v z3).1 c4).2 y6 z6).2 y8 z8).2 c9)⟩⟩⟩, fun c4 => ((g3.2 x9 zao1v z3).2 c4)⟩⟩), fun c2 => ⟨((g1.2 x8 zao1 z1).2 c2).1, hK _ ((g1.2 x8 zao1 z1).2 c2).2⟩⟩⟩)

def sswap_vc (u0 : List Line) (u1 : Int) (u2 : Int) (u3 : Int) (u4 : Line → Line → Int) (K : (List Line) → Prop) : Prop :=
  (u0.length ≤ 140737488355328 →
    (∃ inv12 : Int → (List Line) → Prop, ∃ mu12 : Int → (List Line) → Nat, inv12 0 u0 ∧
    (∀ (x10 : Int) (zao1 : List Line), inv12 x10 zao1 →
    (((decide (x10 < u3)) = true →
      ((0 ≤ w64 (u2 + x10) ∧ w64 (u2 + x10) < (zao1.length : Int)) ∧
      (∀ qd13_0, zao1[(w64 (u2 + x10)).toNat]? = some qd13_0 →
      ((0 ≤ w64 (u1 + x10) ∧ w64 (u1 + x10) < (zao1.length : Int)) ∧
      (∀ qd19_0, zao1[(w64 (u1 + x10)).toNat]? = some qd19_0 →
      ((0 ≤ w64 (u1 + x10) ∧ w64 (u1 + x10) < (zao1.length : Int)) ∧
      ((0 ≤ w64 (u2 + x10) ∧ w64 (u2 + x10) < (zao1.length : Int)) ∧
      (inv12 (w64 (x10 + 1)) ((zao1.set (w64 (u1 + x10)).toNat qd13_0).set (w64 (u2 + x10)).toNat qd19_0) ∧ mu12 (w64 (x10 + 1)) ((zao1.set (w64 (u1 + x10)).toNat qd13_0).set (w64 (u2 + x10)).toNat qd19_0) < mu12 x10 zao1)))))))) ∧
    ((decide (x10 < u3)) = false →
      ((zao1.length = u0.length) ∧
      (K zao1)))))))
theorem sswap_mono {u0 : List Line} {u1 : Int} {u2 : Int} {u3 : Int} {u4 : Line → Line → Int} {K K1 : (List Line) → Prop} (hK : ∀ r, K r → K1 r) (h : sswap_vc u0 u1 u2 u3 u4 K) : sswap_vc u0 u1 u2 u3 u4 K1 :=
  fun z0 => (Exists.elim (h z0) fun i1 e1 => Exists.elim e1 fun m1 g1 => ⟨i1, m1, g1.1, fun x10 zao1 z1 => ⟨fun c2 => ⟨((g1.2 x10 zao1 z1).1 c2).1, fun y4 z4 => ⟨(((g1.2 x10 zao1 z1).1 c2).2 y4 z4).1, fun y6 z6 => ⟨((((g1.2 x10 zao1 z1).1 c2).2 y4 z4).2 y6 z6).1, ⟨((((g1.2 x10 zao1 z1).1 c2).2 y4 z4).2 y6 z6).2.1, ((((g1.2 x10 zao1 z1).1 c2).2 y4 z4).2 y6 z6).2.2⟩⟩⟩⟩, fun c2 => ⟨((g1.2 x10 zao1 z1).2 c2).1, hK _ ((g1.2 x10 zao1 z1).2 c2).2⟩⟩⟩)

def srot_vc (u0 : List Line) (u1 : Int) (u2 : Int) (u3 : Int) (u4 : Line → Line → Int) (K : (List Line) → Prop) : Prop :=
  (u0.length ≤ 140737488355328 →
    (∃ inv27 : Int → Int → (List Line) → Prop, ∃ mu27 : Int → Int → (List Line) → Nat, inv27 (w64 (u2 - u1)) (w64 (u3 - u2)) u0 ∧
    (∀ (x10 : Int) (x11 : Int) (zao1 : List Line), inv27 x10 x11 zao1 →
    (((x10 != x11) = true →
      (((decide (x10 > x11)) = true →
        (sswap_vc zao1 (w64 (u2 - x10)) u2 x11 u4 fun r73 =>
        (r73.length ≤ 140737488355328 →
        (inv27 (w64 (x10 - x11)) x11 r73 ∧ mu27 (w64 (x10 - x11)) x11 r73 < mu27 x10 x11 zao1)))) ∧
      ((decide (x10 > x11)) = false →
        (sswap_vc zao1 (w64 (u2 - x10)) (w64 ((w64 (u2 + x11)) - x10)) x10 u4 fun r118 =>
        (r118.length ≤ 140737488355328 →
        (inv27 x10 (w64 (x11 - x10)) r118 ∧ mu27 x10 (w64 (x11 - x10)) r118 < mu27 x10 x11 zao1)))))) ∧
    ((x10 != x11) = false →
      (sswap_vc zao1 (w64 (u2 - x10)) u2 x10 u4 fun r155 =>
      (r155.length ≤ 140737488355328 →
      ((r155.length = u0.length) ∧
      (K r155)))))))))
theorem srot_mono {u0 : List Line} {u1 : Int} {u2 : Int} {u3 : Int} {u4 : Line → Line → Int} {K K1 : (List Line) → Prop} (hK : ∀ r, K r → K1 r) (h : srot_vc u0 u1 u2 u3 u4 K) : srot_vc u0 u1 u2 u3 u4 K1 :=
  fun z0 => (Exists.elim (h z0) fun i1 e1 => Exists.elim e1 fun m1 g1 => ⟨i1, m1, g1.1, fun x10 x11 zao1 z1 => ⟨fun c2 => ⟨fun c3 => sswap_mono (fun r73 h4 => fun z5 => (h4 z5)) (((g1.2 x10 x11 zao1 z1).1 c2).1 c3), fun c3 => sswap_mono (fun r118 h4 => fun z5 => (h4 z5)) (((g1.2 x10 x11 zao1 z1).1 c2).2 c3)⟩, fun c2 => sswap_mono (fun r155 h3 => fun z4 => ⟨(h3 z4).1, hK _ (h3 z4).2⟩) ((g1.2 x10 x11 zao1 z1).2 c2)⟩⟩)

def lcomp_vc (u0 : List Line) (u1 : Line → Line → Bool) (K : (List Line) → Prop) : Prop :=
  (u0.length ≤ 140737488355328 →
    (((decide ((u0.length : Int) < 2)) = true →
      (K u0)) ∧
    ((decide ((u0.length : Int) < 2)) = false →
      (∃ inv30 : Int → Prop, ∃ mu30 : Int → Nat, inv30 1 ∧
      (∀ (x5 : Int), inv30 x5 →
      (((decide (x5 < (u0.length : Int))) = true →
        ((0 ≤ x5 ∧ x5 < (u0.length : Int)) ∧
        (∀ qd4_0, u0[x5.toNat]? = some qd4_0 →
        ((0 ≤ w64 (x5 - 1) ∧ w64 (x5 - 1) < (u0.length : Int)) ∧
        (∀ qd9_0, u0[(w64 (x5 - 1)).toNat]? = some qd9_0 →
        (((u1 qd4_0 qd9_0) = true →
          ((0 ≤ x5 ∧ x5 ≤ (u0.length : Int) ∧ (u0.length : Int) ≤ (u0.length : Int)) ∧
          (∃ inv198 : Int → Int → (List Line) → Prop, ∃ mu198 : Int → Int → (List Line) → Nat, inv198 x5 1 u0 ∧
          (∀ (x5v : Int) (x7 : Int) (zao1 : List Line), inv198 x5v x7 zao1 →
          (((decide (x7 < ((u0.length - x5.toNat : Nat) : Int))) = true →
            (((0 ≤ x7 ∧ x7 < ((u0.length - x5.toNat : Nat) : Int)) ∧ u0.length ≤ zao1.length) ∧
            (∀ qd4_0, zao1[((x5.toNat + x7.toNat : Nat) : Int).toNat]? = some qd4_0 →
            (((0 ≤ w64 (x7 - 1) ∧ w64 (x7 - 1) < ((u0.length - x5.toNat : Nat) : Int)) ∧ u0.length ≤ zao1.length) ∧
            (∀ qd9_0, zao1[((x5.toNat + (w64 (x7 - 1)).toNat : Nat) : Int).toNat]? = some qd9_0 →
            (((!(u1 qd4_0 qd9_0)) = true →
              (((0 ≤ x7 ∧ x7 < ((u0.length - x5.toNat : Nat) : Int)) ∧ u0.length ≤ zao1.length) ∧
              (∀ q439, zao1[((x5.toNat + x7.toNat : Nat) : Int).toNat]? = some q439 →
              (q439.F.Data.length ≤ 140737488355328 →
              ((0 ≤ x5v ∧ x5v < (zao1.length : Int)) ∧
              (inv198 (w64 (x5v + 1)) (w64 (x7 + 1)) (zao1.set x5v.toNat q439) ∧ mu198 (w64 (x5v + 1)) (w64 (x7 + 1)) (zao1.set x5v.toNat q439) < mu198 x5v x7 zao1)))))) ∧
            ((!(u1 qd4_0 qd9_0)) = false →
              (inv198 x5v (w64 (x7 + 1)) zao1 ∧ mu198 x5v (w64 (x7 + 1)) zao1 < mu198 x5v x7 zao1)))))))) ∧
          ((decide (x7 < ((u0.length - x5.toNat : Nat) : Int))) = false →
            ((0 ≤ x5v ∧ x5v ≤ (zao1.length : Int)) ∧
            ((x5v = ((zao1.take x5v.toNat).length : Int)) ∧
            (K (zao1.take x5v.toNat)))))))))) ∧
        ((u1 qd4_0 qd9_0) = false →
          (inv30 (w64 (x5 + 1)) ∧ mu30 (w64 (x5 + 1)) < mu30 x5)))))))) ∧
      ((decide (x5 < (u0.length : Int))) = false →
        (K u0))))))))

/-! Pure proofs: no program in sight. -/
/-! Stable sorting by a key, of lists. -/
def insC {α : Type} (cmp : α → α → Int) (x : α) : List α → List α
  | [] => [x]
  | y :: r => if cmp x y < 0 then x :: y :: r else y :: insC cmp x r
/-- The stable sort: each goes behind all that aren't greater. -/
def sortC {α : Type} (cmp : α → α → Int) (l : List α) : List α := l.foldl (fun s x => insC cmp x s) []
/-- As much of each key, in the same order. -/
def Fe {α : Type} (key : α → Int) (x y : List α) : Prop := ∀ k : Int, x.filter (fun a => key a == k) = y.filter (fun a => key a == k)
def Srt {α : Type} (key : α → Int) (l : List α) : Prop := l.Pairwise fun a b => key a ≤ key b
section stab
variable {α : Type} {key : α → Int} {x y z u v : List α}
theorem Fe.refl (x : List α) : Fe key x x := fun _ => rfl
theorem Fe.symm (h : Fe key x y) : Fe key y x := fun k => (h k).symm
theorem Fe.trans (h : Fe key x y) (h' : Fe key y z) : Fe key x z := fun k => (h k).trans (h' k)
theorem Fe.app (h : Fe key x y) (h' : Fe key u v) : Fe key (x ++ u) (y ++ v) := fun k => by rw [List.filter_append, List.filter_append, h k, h' k]
theorem Fe.mem (h : Fe key x y) (a : α) : a ∈ x ↔ a ∈ y := by
  have := h (key a)
  constructor
  · intro ha
    have h1 : a ∈ x.filter (fun b => key b == key a) := List.mem_filter.2 ⟨ha, by simp⟩
    rw [this] at h1
    exact (List.mem_filter.1 h1).1
  · intro ha
    have h1 : a ∈ y.filter (fun b => key b == key a) := List.mem_filter.2 ⟨ha, by simp⟩
    rw [← this] at h1
    exact (List.mem_filter.1 h1).1
theorem Fe.swap (h : ∀ a ∈ x, ∀ b ∈ y, key a ≠ key b) : Fe key (x ++ y) (y ++ x) := fun k => by
  rw [List.filter_append, List.filter_append]
  by_cases hx : x.filter (fun a => key a == k) = []
  · rw [hx]; simp
  · have hy : y.filter (fun a => key a == k) = [] := by
      obtain ⟨a, ha⟩ := List.exists_mem_of_ne_nil _ hx
      have ha := List.mem_filter.1 ha
      refine List.filter_eq_nil_iff.2 fun b hb => ?_
      have h1 := h a ha.1 b hb
      have h2 : key a = k := by simpa using ha.2
      simp; omega
    rw [hy]; simp
theorem Fe.len (h : Fe key x y) : x.length = y.length := by
  suffices H : ∀ (n : Nat) (x y : List α), x.length ≤ n → Fe key x y → x.length = y.length from H x.length x y (Nat.le_refl _) h
  intro n
  induction n with
  | zero =>
    intro x y hn h
    have : x = [] := by cases x <;> simp_all
    subst this
    cases y with
    | nil => rfl
    | cons b t => exact absurd ((h.mem b).2 (by simp)) (by simp)
  | succ n ih =>
    intro x y hn h
    cases x with
    | nil =>
      cases y with
      | nil => rfl
      | cons b t => exact absurd ((h.mem b).2 (by simp)) (by simp)
    | cons a r =>
      have hsp : ∀ z : List α, z.length = (z.filter (fun b => key b == key a)).length + (z.filter (fun b => !(key b == key a))).length := by
        intro z
        induction z with
        | nil => rfl
        | cons c t ih =>
          by_cases hc : key c = key a
          · simp [List.filter_cons, hc] at ih ⊢; omega
          · simp [List.filter_cons, hc] at ih ⊢; omega
      rw [hsp (a :: r), hsp y, h (key a)]
      congr 1
      refine ih _ _ ?_ ?_
      · simp [List.filter_cons]
        have := List.length_filter_le (fun b => !(key b == key a)) r
        simp at hn this
        omega
      · intro k
        rw [List.filter_filter, List.filter_filter]
        by_cases hk : k = key a
        · subst hk
          rw [List.filter_eq_nil_iff.2 (by simp), List.filter_eq_nil_iff.2 (by simp)]
        · have e : ∀ z : List α, z.filter (fun b => (key b == k) && !(key b == key a)) = z.filter (fun b => key b == k) := by
            intro z
            refine List.filter_congr fun b _ => ?_
            by_cases hb : key b = k
            · have : key b ≠ key a := by omega
              simp [hb]; omega
            · simp [hb]
          rw [e, e, h k]
/-- Sorted, with as much of each key: the same. -/
theorem stab_unique : ∀ {x y : List α}, Srt key x → Srt key y → Fe key x y → x = y := by
  intro x
  induction x with
  | nil =>
    intro y _ _ h
    cases y with
    | nil => rfl
    | cons b t => exact absurd ((h.mem b).2 (by simp)) (by simp)
  | cons a r ih =>
    intro y hx hy h
    cases y with
    | nil => exact absurd ((h.mem a).1 (by simp)) (by simp)
    | cons b t =>
      have h1 := List.pairwise_cons.1 hx
      have h2 := List.pairwise_cons.1 hy
      have hk : key a = key b := by
        have hab : key b ≤ key a := by
          rcases List.mem_cons.1 ((h.mem a).1 (by simp)) with e | e
          · rw [e]; exact Int.le_refl _
          · exact h2.1 a e
        have hba : key a ≤ key b := by
          rcases List.mem_cons.1 ((h.mem b).2 (by simp)) with e | e
          · rw [e]; exact Int.le_refl _
          · exact h1.1 b e
        omega
      have h3 := h (key a)
      simp [List.filter_cons, hk] at h3
      obtain ⟨rfl, h4⟩ := h3
      have : r = t := by
        refine ih h1.2 h2.2 fun k => ?_
        have h5 := h k
        by_cases hka : key a = k
        · subst hka; simpa [List.filter_cons] using h5
        · simpa [List.filter_cons, hka] using h5
      rw [this]
theorem Srt.app (hx : Srt key x) (hy : Srt key y) (h : ∀ a ∈ x, ∀ b ∈ y, key a ≤ key b) : Srt key (x ++ y) := List.pairwise_append.2 ⟨hx, hy, h⟩
theorem Srt.left (h : Srt key (x ++ y)) : Srt key x := (List.pairwise_append.1 h).1
theorem Srt.right (h : Srt key (x ++ y)) : Srt key y := (List.pairwise_append.1 h).2.1
theorem Srt.rel (h : Srt key (x ++ y)) : ∀ a ∈ x, ∀ b ∈ y, key a ≤ key b := (List.pairwise_append.1 h).2.2
theorem Srt.at_ {l : List α} (h : Srt key l) {i j : Nat} {a b : α} (hij : i ≤ j) (ha : l[i]? = some a) (hb : l[j]? = some b) : key a ≤ key b := by
  rcases Nat.lt_or_ge i j with hlt | hge
  · obtain ⟨hi, ei⟩ := List.getElem?_eq_some_iff.1 ha
    obtain ⟨hj, ej⟩ := List.getElem?_eq_some_iff.1 hb
    have := List.pairwise_iff_getElem.1 h i j hi hj hlt
    rw [ei, ej] at this
    exact this
  · have : i = j := by omega
    subst this
    rw [ha] at hb
    cases hb
    exact Int.le_refl _
/-- A comparison that goes by a key, on some elements. -/
def Keyed {α : Type} (cmp : α → α → Int) (key : α → Int) (l : List α) : Prop := ∀ a ∈ l, ∀ b ∈ l, (cmp a b < 0 ↔ key a < key b)
theorem Keyed.sub {cmp : α → α → Int} (h : Keyed cmp key x) (hs : ∀ a ∈ y, a ∈ x) : Keyed cmp key y := fun a ha b hb => h a (hs a ha) b (hs b hb)
theorem insC_spec {cmp : α → α → Int} {a : α} (h : Keyed cmp key (a :: x)) (hs : Srt key x) : Srt key (insC cmp a x) ∧ Fe key (insC cmp a x) (x ++ [a]) := by
  induction x with
  | nil => exact ⟨by simp [insC, Srt], fun _ => rfl⟩
  | cons b r ih =>
    rw [insC]
    have hk := h a (by simp) b (by simp)
    have hp := List.pairwise_cons.1 hs
    by_cases hc : cmp a b < 0
    · rw [if_pos hc]
      have hab := hk.1 hc
      have hall : ∀ c ∈ b :: r, key a < key c := fun c hc => by
        rcases List.mem_cons.1 hc with rfl | e
        · exact hab
        · have := hp.1 c e; omega
      refine ⟨List.pairwise_cons.2 ⟨fun c hc => by have := hall c hc; omega, hs⟩, ?_⟩
      exact (Fe.swap (x := [a]) (y := b :: r) fun c hc d hd => by
        have : c = a := by simpa using hc
        subst this
        have := hall d hd
        omega)
    · rw [if_neg hc]
      obtain ⟨i1, i2⟩ := ih (h.sub fun c hc => by rcases List.mem_cons.1 hc with rfl | e <;> simp [*]) hp.2
      refine ⟨List.pairwise_cons.2 ⟨fun c hc => ?_, i1⟩, (Fe.refl [b]).app i2⟩
      have hm := (i2.mem c).1 hc
      rcases List.mem_append.1 hm with e | e
      · exact hp.1 c e
      · have : c = a := by simpa using e
        subst this
        omega
theorem sortC_go {cmp : α → α → Int} : ∀ {x s p : List α}, Keyed cmp key (p ++ x) → Srt key s → Fe key s p → Srt key (x.foldl (fun s a => insC cmp a s) s) ∧ Fe key (x.foldl (fun s a => insC cmp a s) s) (p ++ x) := by
  intro x
  induction x with
  | nil => intro s p _ hs hf; exact ⟨hs, by simpa using hf⟩
  | cons a r ih =>
    intro s p hk hs hf
    obtain ⟨h1, h2⟩ := insC_spec (cmp := cmp) (a := a) (x := s) (hk.sub fun c hc => by
      rcases List.mem_cons.1 hc with rfl | e
      · simp
      · exact List.mem_append.2 (.inl ((hf.mem c).1 e))) hs
    have := ih (s := insC cmp a s) (p := p ++ [a]) (by simpa using hk) h1 (h2.trans (hf.app (Fe.refl [a])))
    simpa using this
theorem sortC_spec {cmp : α → α → Int} (h : Keyed cmp key x) : Srt key (sortC cmp x) ∧ Fe key (sortC cmp x) x := by
  have := sortC_go (x := x) (s := []) (p := []) (by simpa using h) (by simp [Srt]) (Fe.refl [])
  simpa [sortC] using this
theorem sortC_eq {cmp : α → α → Int} (h : Keyed cmp key x) (hs : Srt key y) (hf : Fe key y x) : y = sortC cmp x := by
  obtain ⟨h1, h2⟩ := sortC_spec h
  exact stab_unique hs h1 (hf.trans h2.symm)
theorem sortC_len {cmp : α → α → Int} (x : List α) : (sortC cmp x).length = x.length := by
  have h1 : ∀ (a : α) (s : List α), (insC cmp a s).length = s.length + 1 := by
    intro a s
    induction s with
    | nil => rfl
    | cons b r ih => rw [insC]; split <;> simp [ih]
  have h2 : ∀ (x s : List α), (x.foldl (fun s a => insC cmp a s) s).length = s.length + x.length := by
    intro x
    induction x with
    | nil => intro s; rfl
    | cons a r ih => intro s; rw [List.foldl_cons, ih, h1, List.length_cons]; omega
  have := h2 x []
  simpa [sortC] using this
theorem sortC_sorted {cmp : α → α → Int} (h : Keyed cmp key x) (hs : Srt key x) : sortC cmp x = x := (sortC_eq h hs (Fe.refl x)).symm
/-- One element is set. -/
theorem set_mid (p : List α) (a b : α) (q : List α) : (p ++ a :: q).set p.length b = p ++ b :: q := by simp
theorem get_mid (p : List α) (a : α) (q : List α) : (p ++ a :: q)[p.length]? = some a := by simp
/-- What lies between two places is another. -/
def segC {α : Type} (cmp : α → α → Int) (l : List α) (a b : Int) : List α := l.take a.toNat ++ (sortC cmp ((l.drop a.toNat).take (b - a).toNat) ++ l.drop b.toNat)
theorem segC_eq {cmp : α → α → Int} {p q : List α} {a b : Int} (ha : a = p.length) (hb : b = a + x.length) (h : Keyed cmp key x) (hs : Srt key y) (hf : Fe key y x) : segC cmp (p ++ (x ++ q)) a b = p ++ (y ++ q) := by
  subst ha
  unfold segC
  have e1 : (p.length : Int).toNat = p.length := by omega
  have e2 : (b - p.length).toNat = x.length := by omega
  have e3 : b.toNat = p.length + x.length := by omega
  rw [e1, e2, e3, List.take_left' rfl, List.drop_left' rfl, List.take_left' rfl, ← sortC_eq h hs hf]
  congr 2
  rw [← List.append_assoc, List.drop_left' (by simp)]
theorem segC_len {cmp : α → α → Int} {l : List α} {a b : Int} (h : 0 ≤ a ∧ a ≤ b ∧ b ≤ (l.length : Int)) : (segC cmp l a b).length = l.length := by
  unfold segC
  simp [sortC_len]
  omega
end stab
theorem swap2 {α : Type} (P M Q : List α) (c d : α) {i j : Nat} (hi : i = P.length) (hj : j = P.length + 1 + M.length) : (P ++ c :: (M ++ d :: Q))[i]? = some c ∧ (P ++ c :: (M ++ d :: Q))[j]? = some d ∧ ((P ++ c :: (M ++ d :: Q)).set i d).set j c = P ++ d :: (M ++ c :: Q) ∧ ((P ++ c :: (M ++ d :: Q)).set j c).set i d = P ++ d :: (M ++ c :: Q) := by
  subst hi
  subst hj
  have e : ∀ (a b : α), P ++ a :: (M ++ b :: Q) = (P ++ a :: M) ++ b :: Q := fun a b => by simp
  have l : ∀ a : α, (P ++ a :: M).length = P.length + 1 + M.length := fun a => by simp; omega
  refine ⟨get_mid P c _, ?_, ?_, ?_⟩
  · rw [e, ← l c]; exact get_mid _ d Q
  · rw [set_mid, e, ← l d, set_mid, ← e]
  · rw [e, ← l c, set_mid, ← e, set_mid]
theorem sswap_ok (l : List Line) (a b n : Int) (cmp : Line → Line → Int) (p u m v q : List Line) (hl : l = p ++ (u ++ (m ++ (v ++ q)))) (ha : a = p.length) (hb : b = p.length + u.length + m.length) (hn : n = u.length) (hv : v.length = u.length) (hs : l.length ≤ 10000000) : sswap_vc l a b n cmp (fun r => r = p ++ (v ++ (m ++ (u ++ q)))) := by
  intro _
  have hlen : l.length = p.length + u.length + m.length + v.length + q.length := by rw [hl]; simp; omega
  refine ⟨fun x z => ∃ k : Nat, x = k ∧ k ≤ u.length ∧ z = p ++ (v.take k ++ (u.drop k ++ (m ++ (u.take k ++ (v.drop k ++ q))))), fun x _ => u.length - x.toNat, ⟨0, rfl, by omega, by rw [hl]; simp⟩, ?_⟩
  rintro _ _ ⟨k, rfl, hk, rfl⟩
  have hzl : (p ++ (v.take k ++ (u.drop k ++ (m ++ (u.take k ++ (v.drop k ++ q)))))).length = l.length := by rw [hlen]; simp; omega
  refine ⟨fun h => ?_, fun h => ?_⟩
  · have hk : k < u.length := by have := of_decide_eq_true h; omega
    have e1 : w64 (b + (k : Int)) = b + k := w64_eq _ (by omega)
    have e2 : w64 (a + (k : Int)) = a + k := w64_eq _ (by omega)
    rw [e1, e2, w64_succ k (by omega)]
    obtain ⟨c, hc⟩ : ∃ c, u[k]? = some c := ⟨_, List.getElem?_eq_getElem hk⟩
    obtain ⟨d, hd⟩ : ∃ d, v[k]? = some d := ⟨_, List.getElem?_eq_getElem (by omega)⟩
    have eu : u.drop k = c :: u.drop (k + 1) := by rw [List.drop_eq_getElem_cons hk]; congr 1; rw [List.getElem?_eq_getElem hk] at hc; exact Option.some.inj hc
    have ev : v.drop k = d :: v.drop (k + 1) := by have hk' : k < v.length := by omega
                                                   rw [List.drop_eq_getElem_cons hk']; congr 1; rw [List.getElem?_eq_getElem hk'] at hd; exact Option.some.inj hd
    have tu : u.take (k + 1) = u.take k ++ [c] := by rw [List.take_add_one, hc]; rfl
    have tv : v.take (k + 1) = v.take k ++ [d] := by rw [List.take_add_one, hd]; rfl
    have ez : p ++ (v.take k ++ (u.drop k ++ (m ++ (u.take k ++ (v.drop k ++ q))))) = (p ++ v.take k) ++ c :: ((u.drop (k + 1) ++ (m ++ u.take k)) ++ d :: (v.drop (k + 1) ++ q)) := by rw [eu, ev]; simp
    have ez2 : p ++ (v.take (k + 1) ++ (u.drop (k + 1) ++ (m ++ (u.take (k + 1) ++ (v.drop (k + 1) ++ q))))) = (p ++ v.take k) ++ d :: ((u.drop (k + 1) ++ (m ++ u.take k)) ++ c :: (v.drop (k + 1) ++ q)) := by rw [tu, tv]; simp
    obtain ⟨g1, g2, g3, _⟩ := swap2 (p ++ v.take k) (u.drop (k + 1) ++ (m ++ u.take k)) (v.drop (k + 1) ++ q) c d (i := (a + (k : Int)).toNat) (j := (b + (k : Int)).toNat) (by simp; omega) (by simp; omega)
    rw [hzl]
    rw [ez]
    refine ⟨by omega, fun y hy => ⟨by omega, fun y' hy' => ⟨by omega, by omega, ?_⟩⟩⟩
    rw [g2] at hy
    rw [g1] at hy'
    cases hy
    cases hy'
    rw [g3, ← ez2]
    exact ⟨⟨k + 1, rfl, by omega, rfl⟩, by (try dsimp only); omega⟩
  · have hk : k = u.length := by have := of_decide_eq_false h; omega
    subst hk
    refine ⟨hzl, ?_⟩
    rw [List.take_of_length_le (by omega), List.drop_of_length_le (by omega), List.take_of_length_le (by omega), List.drop_of_length_le (by omega)]
    simp
theorem sins_ok (l : List Line) (a b : Int) (cmp : Line → Line → Int) (key : Line → Int) (p x q : List Line) (hl : l = p ++ (x ++ q)) (ha : a = p.length) (hb : b = p.length + x.length) (hk : Keyed cmp key x) (hs : l.length ≤ 10000000) : sins_vc l a b cmp (fun r => r = p ++ (sortC cmp x ++ q)) := by
  intro _
  have hlen : l.length = p.length + x.length + q.length := by rw [hl]; simp; omega
  have e0 : w64 (a + 1) = a + 1 := w64_eq _ (by omega)
  rw [e0]
  by_cases h0 : x = []
  · subst h0
    simp at hb hl
    refine ⟨fun i z => i = a + 1 ∧ z = l, fun _ _ => 0, ⟨rfl, rfl⟩, ?_⟩
    rintro _ _ ⟨rfl, rfl⟩
    refine ⟨fun h => ?_, fun h => ⟨rfl, ?_⟩⟩
    · have := of_decide_eq_true h; omega
    · rw [hl]; simp [sortC]
  refine ⟨fun i z => ∃ (k : Nat) (s : List Line), i = a + k ∧ 1 ≤ k ∧ k ≤ x.length ∧ z = p ++ (s ++ (x.drop k ++ q)) ∧ Srt key s ∧ Fe key s (x.take k), fun i _ => (a + x.length - i).toNat, ⟨1, x.take 1, rfl, by omega, ?_, ?_, ?_, Fe.refl _⟩, ?_⟩
  · cases x with
    | nil => exact absurd rfl h0
    | cons c r => simp
  · rw [hl]
    congr 1
    rw [← List.append_assoc, List.take_append_drop]
  · cases x with
    | nil => exact absurd rfl h0
    | cons c r => simp [Srt]
  rintro _ _ ⟨k, s, rfl, hk1, hkx, rfl, hs1, hs2⟩
  have hsl : s.length = k := by rw [hs2.len]; simp; omega
  refine ⟨fun h => ?_, fun h => ?_⟩
  · have hkx : k < x.length := by have := of_decide_eq_true h; omega
    have en : w64 (a + (k : Int) + 1) = a + ((k + 1 : Nat) : Int) := by rw [w64_eq _ (by omega)]; omega
    rw [en]
    obtain ⟨c, hc⟩ : ∃ c, x[k]? = some c := ⟨_, List.getElem?_eq_getElem hkx⟩
    have ex : x.drop k = c :: x.drop (k + 1) := by rw [List.drop_eq_getElem_cons hkx]; congr 1; rw [List.getElem?_eq_getElem hkx] at hc; exact Option.some.inj hc
    have tx : x.take (k + 1) = x.take k ++ [c] := by rw [List.take_add_one, hc]; rfl
    have hcx : c ∈ x := List.mem_of_getElem? hc
    have hsx : ∀ d ∈ s, d ∈ x := fun d hd => List.mem_of_mem_take ((hs2.mem d).1 hd)
    -- what is done: s1 ahead, then c, then s2, all of which are greater
    refine ⟨fun j z => ∃ (s1 s2 : List Line), s = s1 ++ s2 ∧ j = a + s1.length ∧ z = p ++ (s1 ++ c :: (s2 ++ (x.drop (k + 1) ++ q))) ∧ ∀ d ∈ s2, key c < key d, fun j _ => (j - a).toNat, ⟨s, [], by simp, by omega, by rw [ex]; simp, by simp⟩, ?_⟩
    rintro _ _ ⟨s1, s2, hss, rfl, rfl, h2⟩
    have hfin : ∀ (hle : ∀ d ∈ s1, key d ≤ key c), ∃ (k' : Nat) (s' : List Line), a + ((k + 1 : Nat) : Int) = a + k' ∧ 1 ≤ k' ∧ k' ≤ x.length ∧ p ++ (s1 ++ c :: (s2 ++ (x.drop (k + 1) ++ q))) = p ++ (s' ++ (x.drop k' ++ q)) ∧ Srt key s' ∧ Fe key s' (x.take k') := by
      intro hle
      refine ⟨k + 1, s1 ++ c :: s2, rfl, by omega, by omega, by simp, ?_, ?_⟩
      · rw [hss] at hs1
        refine hs1.left.app (List.pairwise_cons.2 ⟨fun d hd => by have := h2 d hd; omega, hs1.right⟩) fun d hd e he => ?_
        rcases List.mem_cons.1 he with rfl | he
        · exact hle d hd
        · exact hs1.rel d hd e he
      · rw [tx]
        refine Fe.trans ?_ (hs2.app (Fe.refl [c]))
        rw [hss, List.append_assoc]
        exact (Fe.refl s1).app (Fe.swap (x := [c]) (y := s2) fun d hd e he => by
          have : d = c := by simpa using hd
          subst this
          have := h2 e he
          omega)
    have hmu : (a + (x.length : Int) - (a + ((k + 1 : Nat) : Int))).toNat < (a + (x.length : Int) - (a + (k : Int))).toNat := by omega
    have hs12 : s1.length + s2.length = k := by rw [← hsl, hss]; simp
    have hzl : (p ++ (s1 ++ c :: (s2 ++ (x.drop (k + 1) ++ q)))).length = l.length := by rw [hlen]; simp; omega
    refine ⟨fun h3 => ?_, fun h3 => ?_⟩
    · have h3 : 0 < s1.length := by have := of_decide_eq_true h3; omega
      have ed : w64 (a + (s1.length : Int) - 1) = a + (s1.length : Int) - 1 := w64_eq _ (by omega)
      rw [ed, hzl]
      obtain ⟨s0, d, rfl⟩ : ∃ s0 d, s1 = s0 ++ [d] := ⟨s1.dropLast, s1.getLast (by intro e; rw [e] at h3; simp at h3), (List.dropLast_concat_getLast _).symm⟩
      have ez : p ++ ((s0 ++ [d]) ++ c :: (s2 ++ (x.drop (k + 1) ++ q))) = (p ++ s0) ++ d :: ([] ++ c :: (s2 ++ (x.drop (k + 1) ++ q))) := by simp
      obtain ⟨g1, g2, _, g4⟩ := swap2 (p ++ s0) [] (s2 ++ (x.drop (k + 1) ++ q)) d c (i := (a + (((s0 ++ [d]).length : Nat) : Int) - 1).toNat) (j := (a + (((s0 ++ [d]).length : Nat) : Int)).toNat) (by simp; omega) (by simp; omega)
      simp only [List.length_append, List.length_cons, List.length_nil] at *
      rw [ez]
      refine ⟨by omega, fun y hy => ⟨by omega, fun y' hy' => ?_⟩⟩
      rw [g2] at hy
      rw [g1] at hy'
      cases hy
      cases hy'
      have hkd := hk c hcx d (hsx d (by rw [hss]; simp))
      refine ⟨fun h4 => ?_, fun h4 => ?_⟩
      · have hlt := hkd.1 (of_decide_eq_true h4)
        refine ⟨by omega, fun y hy => ⟨by omega, fun y' hy' => ⟨by omega, by omega, ?_⟩⟩⟩
        rw [g1] at hy
        rw [g2] at hy'
        cases hy
        cases hy'
        rw [g4]
        refine ⟨⟨s0, d :: s2, by rw [hss]; simp, by omega, by simp, fun e he => ?_⟩, by omega⟩
        rcases List.mem_cons.1 he with rfl | he
        · exact hlt
        · exact h2 e he
      · have hge : key d ≤ key c := by
          have h5 : ¬ cmp c d < 0 := of_decide_eq_false h4
          rw [hkd] at h5
          omega
        rw [← ez]
        refine ⟨hfin fun e he => ?_, hmu⟩
        rcases List.mem_append.1 he with he | he
        · rw [hss] at hs1
          have := hs1.left.rel e he d (by simp)
          omega
        · have : e = d := by simpa using he
          rw [this]; exact hge
    · have h3 : s1 = [] := by
        have := of_decide_eq_false h3
        exact List.eq_nil_of_length_eq_zero (by omega)
      exact ⟨hfin (fun d hd => by rw [h3] at hd; cases hd), hmu⟩
  · have hkx : k = x.length := by have := of_decide_eq_false h; omega
    subst hkx
    rw [List.take_of_length_le (by omega)] at hs2
    refine ⟨by rw [hlen]; simp; omega, ?_⟩
    rw [sortC_eq hk hs1 hs2, List.drop_of_length_le (by omega)]
    simp
def segC2 (l : List Line) (a m b : Int) (cmp : Line → Line → Int) : List Line := segC cmp l a b
def symMu (l : List Line) (a m b : Int) (cmp : Line → Line → Int) : Nat := (b - a).toNat
def symPre (l : List Line) (a m b : Int) (cmp : Line → Line → Int) : Prop := ∃ (key : Line → Int) (p x y q : List Line), l = p ++ (x ++ (y ++ q)) ∧ a = p.length ∧ m = a + x.length ∧ b = m + y.length ∧ x ≠ [] ∧ y ≠ [] ∧ Keyed cmp key (x ++ y) ∧ Srt key x ∧ Srt key y ∧ l.length ≤ 10000000
/-! ### slices.CompactFunc -/
def compL {α : Type} (eq : α → α → Bool) : α → List α → List α
  | _, [] => []
  | p, y :: r => if eq y p = true then compL eq y r else y :: compL eq y r
def compS {α : Type} (eq : α → α → Bool) : List α → List α
  | [] => []
  | x :: r => x :: compL eq x r
theorem compL_snoc {α : Type} (eq : α → α → Bool) (y : α) : ∀ (r : List α) (p q : α), (p :: r)[r.length]? = some q → compL eq p (r ++ [y]) = compL eq p r ++ (if eq y q = true then [] else [y])
  | [], p, q, h => by
    simp at h
    subst h
    simp [compL]
  | x :: r, p, q, h => by
    have h : (x :: r)[r.length]? = some q := by simpa using h
    have ih := compL_snoc eq y r x q h
    simp only [List.cons_append, compL, ih]
    split <;> simp
theorem compS_snoc {α : Type} (eq : α → α → Bool) (l : List α) (y q : α) (h : l[l.length - 1]? = some q) : compS eq (l ++ [y]) = compS eq l ++ (if eq y q = true then [] else [y]) := by
  cases l with
  | nil => simp at h
  | cons x r =>
    simp only [List.cons_append, compS, List.cons.injEq, true_and]
    exact compL_snoc eq y r x q (by simpa using h)
theorem compS_at {α : Type} (eq : α → α → Bool) (l : List α) (m : Nat) (y q : α) (hy : l[m + 1]? = some y) (hq : l[m]? = some q) : compS eq (l.take (m + 2)) = compS eq (l.take (m + 1)) ++ (if eq y q = true then [] else [y]) := by
  have hlt := (List.getElem?_eq_some_iff.1 hy).1
  have e : l.take (m + 2) = l.take (m + 1) ++ [y] := by rw [List.take_add_one, hy]; rfl
  rw [e]
  refine compS_snoc eq _ y q ?_
  rw [List.length_take, Nat.min_eq_left (by omega), Nat.add_sub_cancel, List.getElem?_take_of_lt (by omega)]
  exact hq
theorem lcomp_ok (l : List Line) (eq : Line → Line → Bool) : lcomp_vc l eq (fun r => r = compS eq l) := by
  intro hl
  refine ⟨fun h => ?_, fun h => ?_⟩
  · have h : l.length < 2 := by simp at h; omega
    rcases l with _ | ⟨x, _ | ⟨y, r⟩⟩
    · rfl
    · rfl
    · simp at h; omega
  · have h2 : 2 ≤ l.length := by simp at h; omega
    have h1 : compS eq (l.take 1) = l.take 1 := by
      rcases l with _ | ⟨x, r⟩
      · rfl
      · rfl
    refine ⟨fun x => ∃ k : Nat, x = ((k + 1 : Nat) : Int) ∧ k + 1 ≤ l.length ∧ compS eq (l.take (k + 1)) = l.take (k + 1), fun x => l.length - x.toNat, ⟨0, rfl, by omega, h1⟩, ?_⟩
    rintro _ ⟨k, rfl, hk, hc⟩
    refine ⟨fun h3 => ?_, fun h3 => ?_⟩
    · have h3 : k + 1 < l.length := by simp at h3; omega
      have e1 : w64 (((k + 1 : Nat) : Int) - 1) = (k : Int) := by rw [w64_eq _ (by omega)]; omega
      rw [e1]
      refine ⟨by omega, fun y hy => ⟨by omega, fun q hq => ⟨fun h4 => ?_, fun h4 => ?_⟩⟩⟩
      · rw [Int.toNat_natCast] at hy hq
        refine ⟨by omega, fun a b z => ∃ (i j : Nat), a = i ∧ b = ((j + 1 : Nat) : Int) ∧ i ≤ k + 1 + j ∧ k + 1 + j + 1 ≤ l.length ∧ z.length = l.length ∧ z.drop (k + 1 + j) = l.drop (k + 1 + j) ∧ z.take i = compS eq (l.take (k + 1 + j + 1)), fun _ b _ => l.length - b.toNat, ⟨k + 1, 0, rfl, rfl, by omega, by omega, rfl, rfl, ?_⟩, ?_⟩
        · have := compS_at eq l k y q hy hq
          rw [h4, if_pos rfl, List.append_nil] at this
          exact (this.trans hc).symm
        · rintro _ _ z ⟨i, j, rfl, rfl, hi, hj, hz, hd, ht⟩
          have e2 : w64 (((j + 1 : Nat) : Int) - 1) = (j : Int) := by rw [w64_eq _ (by omega)]; omega
          rw [e2]
          simp only [Int.toNat_natCast]
          have hget : ∀ m, k + 1 + j ≤ m → z[m]? = l[m]? := fun m hm => by
            have h5 := congrArg (fun t => t[m - (k + 1 + j)]?) hd
            simp only [List.getElem?_drop] at h5
            rwa [show k + 1 + j + (m - (k + 1 + j)) = m by omega] at h5
          refine ⟨fun h5 => ?_, fun h5 => ?_⟩
          · have h5 : k + 1 + j + 1 < l.length := by simp at h5; omega
            refine ⟨⟨by omega, by omega⟩, fun y2 hy2 => ⟨⟨by omega, by omega⟩, fun q2 hq2 => ?_⟩⟩
            rw [show k + 1 + (j + 1) = k + 1 + j + 1 by omega, hget _ (by omega)] at hy2
            rw [hget _ (by omega)] at hq2
            have hnext := compS_at eq l (k + 1 + j) y2 q2 hy2 hq2
            rw [w64_succ (j + 1) (by omega)]
            refine ⟨fun h6 => ?_, fun h6 => ?_⟩
            · have h6 : eq y2 q2 = false := by simpa using h6
              rw [h6, if_neg (by simp)] at hnext
              refine ⟨⟨by omega, by omega⟩, fun y3 hy3 _ => ⟨by omega, ?_⟩⟩
              rw [show k + 1 + (j + 1) = k + 1 + j + 1 by omega, hget _ (by omega), hy2] at hy3
              obtain rfl : y2 = y3 := by simpa using hy3
              rw [w64_succ i (by omega)]
              refine ⟨⟨i + 1, j + 1, rfl, rfl, by omega, by omega, by simpa using hz, ?_, ?_⟩, by omega⟩
              · rw [List.drop_set_of_lt (by omega)]
                have := congrArg (List.drop 1) hd
                rw [List.drop_drop, List.drop_drop] at this
                exact this
              · rw [show k + 1 + (j + 1) + 1 = k + 1 + j + 2 by omega, hnext, ← ht]
                rw [List.take_set, List.take_add_one]
                have : (z.take i).length = i := by rw [List.length_take]; omega
                have hzi : z[i]? = some (z[i]'(by omega)) := List.getElem?_eq_getElem _
                rw [hzi]
                rw [List.set_append]
                rw [if_neg (by omega), this]
                simp
            · have h6 : eq y2 q2 = true := by simpa using h6
              rw [h6, if_pos rfl, List.append_nil] at hnext
              refine ⟨⟨i, j + 1, rfl, rfl, by omega, by omega, hz, ?_, ?_⟩, by omega⟩
              · have := congrArg (List.drop 1) hd
                rw [List.drop_drop, List.drop_drop] at this
                exact this
              · rw [show k + 1 + (j + 1) + 1 = k + 1 + j + 2 by omega, hnext, ← ht]
          · have h5 : k + 1 + j + 1 = l.length := by simp at h5; omega
            refine ⟨by omega, by simp; omega, ?_⟩
            rw [ht, h5, List.take_length]
      · rw [Int.toNat_natCast] at hy hq
        rw [w64_succ (k + 1) (by omega)]
        refine ⟨⟨k + 1, rfl, by omega, ?_⟩, by (try dsimp only); omega⟩
        have := compS_at eq l k y q hy hq
        rw [h4, if_neg (by simp), hc] at this
        rw [this, List.take_add_one (i := k + 1), hy]
        rfl
    · have h3 : k + 1 = l.length := by simp at h3; omega
      rw [h3, List.take_length] at hc
      exact hc.symm

end Go.Proofs.Ytmkdnaecmombnaa
set_option linter.unusedVariables false
set_option linter.unusedSimpArgs false
namespace Go.Proofs.Ytmkdnaecmombnaa
open Go.Sy Go.RowKit
def ssym_vc (u0 : List Line) (u1 : Int) (u2 : Int) (u3 : Int) (u4 : Line → Line → Int) (K : (List Line) → Prop) : Prop :=
  (u0.length ≤ 140737488355328 →
    ((((w64 (u2 - u1)) == 1) = true →
      (∃ inv30 : Int → Prop,
      (∃ inv276 : Int → Int → Prop, ∃ mu276 : Int → Int → Nat, inv276 u2 u3 ∧
      (∀ (x10v : Int) (x11 : Int), inv276 x10v x11 →
      (((decide (x10v < x11)) = true →
        ((0 ≤ w64 (bShr .u64 (wu64 (w64 (x10v + x11))) 1) ∧ w64 (bShr .u64 (wu64 (w64 (x10v + x11))) 1) < (u0.length : Int)) ∧
        (∀ qd4_0, u0[(w64 (bShr .u64 (wu64 (w64 (x10v + x11))) 1)).toNat]? = some qd4_0 →
        ((0 ≤ u1 ∧ u1 < (u0.length : Int)) ∧
        (∀ qd8_0, u0[u1.toNat]? = some qd8_0 →
        (((decide ((u4 qd4_0 qd8_0) < 0)) = true →
          (inv276 (w64 ((w64 (bShr .u64 (wu64 (w64 (x10v + x11))) 1)) + 1)) x11 ∧ mu276 (w64 ((w64 (bShr .u64 (wu64 (w64 (x10v + x11))) 1)) + 1)) x11 < mu276 x10v x11)) ∧
        ((decide ((u4 qd4_0 qd8_0) < 0)) = false →
          (inv276 x10v (w64 (bShr .u64 (wu64 (w64 (x10v + x11))) 1)) ∧ mu276 x10v (w64 (bShr .u64 (wu64 (w64 (x10v + x11))) 1)) < mu276 x10v x11)))))))) ∧
      ((decide (x10v < x11)) = false →
        (inv30 x10v))))) ∧
      (∀ (x10 : Int), inv30 x10 →
        (∃ inv49 : Int → (List Line) → Prop, ∃ mu49 : Int → (List Line) → Nat, inv49 u1 u0 ∧
        (∀ (x13 : Int) (zao1 : List Line), inv49 x13 zao1 →
        (((decide (x13 < (w64 (x10 - 1)))) = true →
          ((0 ≤ w64 (x13 + 1) ∧ w64 (x13 + 1) < (zao1.length : Int)) ∧
          (∀ qd9_0, zao1[(w64 (x13 + 1)).toNat]? = some qd9_0 →
          ((0 ≤ x13 ∧ x13 < (zao1.length : Int)) ∧
          (∀ qd13_0, zao1[x13.toNat]? = some qd13_0 →
          ((0 ≤ x13 ∧ x13 < (zao1.length : Int)) ∧
          ((0 ≤ w64 (x13 + 1) ∧ w64 (x13 + 1) < (zao1.length : Int)) ∧
          (inv49 (w64 (x13 + 1)) ((zao1.set x13.toNat qd9_0).set (w64 (x13 + 1)).toNat qd13_0) ∧ mu49 (w64 (x13 + 1)) ((zao1.set x13.toNat qd9_0).set (w64 (x13 + 1)).toNat qd13_0) < mu49 x13 zao1)))))))) ∧
        ((decide (x13 < (w64 (x10 - 1)))) = false →
          ((zao1.length = u0.length) ∧
          (K zao1))))))))) ∧
    (((w64 (u2 - u1)) == 1) = false →
      ((((w64 (u3 - u2)) == 1) = true →
        (∃ inv481 : Int → Prop,
        (∃ inv725 : Int → Int → Prop, ∃ mu725 : Int → Int → Nat, inv725 u1 u2 ∧
        (∀ (x14v : Int) (x15 : Int), inv725 x14v x15 →
        (((decide (x14v < x15)) = true →
          ((0 ≤ u2 ∧ u2 < (u0.length : Int)) ∧
          (∀ qd4_0, u0[u2.toNat]? = some qd4_0 →
          ((0 ≤ w64 (bShr .u64 (wu64 (w64 (x14v + x15))) 1) ∧ w64 (bShr .u64 (wu64 (w64 (x14v + x15))) 1) < (u0.length : Int)) ∧
          (∀ qd8_0, u0[(w64 (bShr .u64 (wu64 (w64 (x14v + x15))) 1)).toNat]? = some qd8_0 →
          (((!(decide ((u4 qd4_0 qd8_0) < 0))) = true →
            (inv725 (w64 ((w64 (bShr .u64 (wu64 (w64 (x14v + x15))) 1)) + 1)) x15 ∧ mu725 (w64 ((w64 (bShr .u64 (wu64 (w64 (x14v + x15))) 1)) + 1)) x15 < mu725 x14v x15)) ∧
          ((!(decide ((u4 qd4_0 qd8_0) < 0))) = false →
            (inv725 x14v (w64 (bShr .u64 (wu64 (w64 (x14v + x15))) 1)) ∧ mu725 x14v (w64 (bShr .u64 (wu64 (w64 (x14v + x15))) 1)) < mu725 x14v x15)))))))) ∧
        ((decide (x14v < x15)) = false →
          (inv481 x14v))))) ∧
        (∀ (x14 : Int), inv481 x14 →
          (∃ inv500 : Int → (List Line) → Prop, ∃ mu500 : Int → (List Line) → Nat, inv500 u2 u0 ∧
          (∀ (x17 : Int) (zao1 : List Line), inv500 x17 zao1 →
          (((decide (x17 > x14)) = true →
            ((0 ≤ w64 (x17 - 1) ∧ w64 (x17 - 1) < (zao1.length : Int)) ∧
            (∀ qd9_0, zao1[(w64 (x17 - 1)).toNat]? = some qd9_0 →
            ((0 ≤ x17 ∧ x17 < (zao1.length : Int)) ∧
            (∀ qd13_0, zao1[x17.toNat]? = some qd13_0 →
            ((0 ≤ x17 ∧ x17 < (zao1.length : Int)) ∧
            ((0 ≤ w64 (x17 - 1) ∧ w64 (x17 - 1) < (zao1.length : Int)) ∧
            (inv500 (w64 (x17 - 1)) ((zao1.set x17.toNat qd9_0).set (w64 (x17 - 1)).toNat qd13_0) ∧ mu500 (w64 (x17 - 1)) ((zao1.set x17.toNat qd9_0).set (w64 (x17 - 1)).toNat qd13_0) < mu500 x17 zao1)))))))) ∧
          ((decide (x17 > x14)) = false →
            ((zao1.length = u0.length) ∧
            (K zao1))))))))) ∧
      (((w64 (u3 - u2)) == 1) = false →
        (((decide (u2 > (w64 (bShr .u64 (wu64 (w64 (u1 + u3))) 1)))) = true →
          (∃ inv978 : Int → Prop,
          (∃ inv1325 : Int → Int → Prop, ∃ mu1325 : Int → Int → Nat, inv1325 (w64 ((w64 ((w64 (bShr .u64 (wu64 (w64 (u1 + u3))) 1)) + u2)) - u3)) (w64 (bShr .u64 (wu64 (w64 (u1 + u3))) 1)) ∧
          (∀ (x20v : Int) (x21 : Int), inv1325 x20v x21 →
          (((decide (x20v < x21)) = true →
            ((0 ≤ w64 ((w64 ((w64 ((w64 (bShr .u64 (wu64 (w64 (u1 + u3))) 1)) + u2)) - 1)) - (w64 (bShr .u64 (wu64 (w64 (x20v + x21))) 1))) ∧ w64 ((w64 ((w64 ((w64 (bShr .u64 (wu64 (w64 (u1 + u3))) 1)) + u2)) - 1)) - (w64 (bShr .u64 (wu64 (w64 (x20v + x21))) 1))) < (u0.length : Int)) ∧
            (∀ qd6_0, u0[(w64 ((w64 ((w64 ((w64 (bShr .u64 (wu64 (w64 (u1 + u3))) 1)) + u2)) - 1)) - (w64 (bShr .u64 (wu64 (w64 (x20v + x21))) 1)))).toNat]? = some qd6_0 →
            ((0 ≤ w64 (bShr .u64 (wu64 (w64 (x20v + x21))) 1) ∧ w64 (bShr .u64 (wu64 (w64 (x20v + x21))) 1) < (u0.length : Int)) ∧
            (∀ qd10_0, u0[(w64 (bShr .u64 (wu64 (w64 (x20v + x21))) 1)).toNat]? = some qd10_0 →
            (((!(decide ((u4 qd6_0 qd10_0) < 0))) = true →
              (inv1325 (w64 ((w64 (bShr .u64 (wu64 (w64 (x20v + x21))) 1)) + 1)) x21 ∧ mu1325 (w64 ((w64 (bShr .u64 (wu64 (w64 (x20v + x21))) 1)) + 1)) x21 < mu1325 x20v x21)) ∧
            ((!(decide ((u4 qd6_0 qd10_0) < 0))) = false →
              (inv1325 x20v (w64 (bShr .u64 (wu64 (w64 (x20v + x21))) 1)) ∧ mu1325 x20v (w64 (bShr .u64 (wu64 (w64 (x20v + x21))) 1)) < mu1325 x20v x21)))))))) ∧
          ((decide (x20v < x21)) = false →
            (inv978 x20v))))) ∧
          (∀ (x20 : Int), inv978 x20 →
            ((((decide (x20 < u2)) && (decide (u2 < (w64 ((w64 ((w64 (bShr .u64 (wu64 (w64 (u1 + u3))) 1)) + u2)) - x20))))) = true →
              (srot_vc u0 x20 u2 (w64 ((w64 ((w64 (bShr .u64 (wu64 (w64 (u1 + u3))) 1)) + u2)) - x20)) u4 fun r1031 =>
              (r1031.length ≤ 140737488355328 →
              ((((decide (u1 < x20)) && (decide (x20 < (w64 (bShr .u64 (wu64 (w64 (u1 + u3))) 1))))) = true →
                ((symMu r1031 u1 x20 (w64 (bShr .u64 (wu64 (w64 (u1 + u3))) 1)) u4 < symMu u0 u1 u2 u3 u4 ∧ symPre r1031 u1 x20 (w64 (bShr .u64 (wu64 (w64 (u1 + u3))) 1)) u4) ∧
                ((segC2 r1031 u1 x20 (w64 (bShr .u64 (wu64 (w64 (u1 + u3))) 1)) u4).length ≤ 140737488355328 →
                ((((decide ((w64 (bShr .u64 (wu64 (w64 (u1 + u3))) 1)) < (w64 ((w64 ((w64 (bShr .u64 (wu64 (w64 (u1 + u3))) 1)) + u2)) - x20)))) && (decide ((w64 ((w64 ((w64 (bShr .u64 (wu64 (w64 (u1 + u3))) 1)) + u2)) - x20)) < u3))) = true →
                  ((symMu (segC2 r1031 u1 x20 (w64 (bShr .u64 (wu64 (w64 (u1 + u3))) 1)) u4) (w64 (bShr .u64 (wu64 (w64 (u1 + u3))) 1)) (w64 ((w64 ((w64 (bShr .u64 (wu64 (w64 (u1 + u3))) 1)) + u2)) - x20)) u3 u4 < symMu u0 u1 u2 u3 u4 ∧ symPre (segC2 r1031 u1 x20 (w64 (bShr .u64 (wu64 (w64 (u1 + u3))) 1)) u4) (w64 (bShr .u64 (wu64 (w64 (u1 + u3))) 1)) (w64 ((w64 ((w64 (bShr .u64 (wu64 (w64 (u1 + u3))) 1)) + u2)) - x20)) u3 u4) ∧
                  ((segC2 (segC2 r1031 u1 x20 (w64 (bShr .u64 (wu64 (w64 (u1 + u3))) 1)) u4) (w64 (bShr .u64 (wu64 (w64 (u1 + u3))) 1)) (w64 ((w64 ((w64 (bShr .u64 (wu64 (w64 (u1 + u3))) 1)) + u2)) - x20)) u3 u4).length ≤ 140737488355328 →
                  (((segC2 (segC2 r1031 u1 x20 (w64 (bShr .u64 (wu64 (w64 (u1 + u3))) 1)) u4) (w64 (bShr .u64 (wu64 (w64 (u1 + u3))) 1)) (w64 ((w64 ((w64 (bShr .u64 (wu64 (w64 (u1 + u3))) 1)) + u2)) - x20)) u3 u4).length = u0.length) ∧
                  (K (segC2 (segC2 r1031 u1 x20 (w64 (bShr .u64 (wu64 (w64 (u1 + u3))) 1)) u4) (w64 (bShr .u64 (wu64 (w64 (u1 + u3))) 1)) (w64 ((w64 ((w64 (bShr .u64 (wu64 (w64 (u1 + u3))) 1)) + u2)) - x20)) u3 u4)))))) ∧
                (((decide ((w64 (bShr .u64 (wu64 (w64 (u1 + u3))) 1)) < (w64 ((w64 ((w64 (bShr .u64 (wu64 (w64 (u1 + u3))) 1)) + u2)) - x20)))) && (decide ((w64 ((w64 ((w64 (bShr .u64 (wu64 (w64 (u1 + u3))) 1)) + u2)) - x20)) < u3))) = false →
                  (((segC2 r1031 u1 x20 (w64 (bShr .u64 (wu64 (w64 (u1 + u3))) 1)) u4).length = u0.length) ∧
                  (K (segC2 r1031 u1 x20 (w64 (bShr .u64 (wu64 (w64 (u1 + u3))) 1)) u4)))))))) ∧
              (((decide (u1 < x20)) && (decide (x20 < (w64 (bShr .u64 (wu64 (w64 (u1 + u3))) 1))))) = false →
                ((((decide ((w64 (bShr .u64 (wu64 (w64 (u1 + u3))) 1)) < (w64 ((w64 ((w64 (bShr .u64 (wu64 (w64 (u1 + u3))) 1)) + u2)) - x20)))) && (decide ((w64 ((w64 ((w64 (bShr .u64 (wu64 (w64 (u1 + u3))) 1)) + u2)) - x20)) < u3))) = true →
                  ((symMu r1031 (w64 (bShr .u64 (wu64 (w64 (u1 + u3))) 1)) (w64 ((w64 ((w64 (bShr .u64 (wu64 (w64 (u1 + u3))) 1)) + u2)) - x20)) u3 u4 < symMu u0 u1 u2 u3 u4 ∧ symPre r1031 (w64 (bShr .u64 (wu64 (w64 (u1 + u3))) 1)) (w64 ((w64 ((w64 (bShr .u64 (wu64 (w64 (u1 + u3))) 1)) + u2)) - x20)) u3 u4) ∧
                  ((segC2 r1031 (w64 (bShr .u64 (wu64 (w64 (u1 + u3))) 1)) (w64 ((w64 ((w64 (bShr .u64 (wu64 (w64 (u1 + u3))) 1)) + u2)) - x20)) u3 u4).length ≤ 140737488355328 →
                  (((segC2 r1031 (w64 (bShr .u64 (wu64 (w64 (u1 + u3))) 1)) (w64 ((w64 ((w64 (bShr .u64 (wu64 (w64 (u1 + u3))) 1)) + u2)) - x20)) u3 u4).length = u0.length) ∧
                  (K (segC2 r1031 (w64 (bShr .u64 (wu64 (w64 (u1 + u3))) 1)) (w64 ((w64 ((w64 (bShr .u64 (wu64 (w64 (u1 + u3))) 1)) + u2)) - x20)) u3 u4)))))) ∧
                (((decide ((w64 (bShr .u64 (wu64 (w64 (u1 + u3))) 1)) < (w64 ((w64 ((w64 (bShr .u64 (wu64 (w64 (u1 + u3))) 1)) + u2)) - x20)))) && (decide ((w64 ((w64 ((w64 (bShr .u64 (wu64 (w64 (u1 + u3))) 1)) + u2)) - x20)) < u3))) = false →
                  ((r1031.length = u0.length) ∧
                  (K r1031))))))))) ∧
            (((decide (x20 < u2)) && (decide (u2 < (w64 ((w64 ((w64 (bShr .u64 (wu64 (w64 (u1 + u3))) 1)) + u2)) - x20))))) = false →
              ((((decide (u1 < x20)) && (decide (x20 < (w64 (bShr .u64 (wu64 (w64 (u1 + u3))) 1))))) = true →
                ((symMu u0 u1 x20 (w64 (bShr .u64 (wu64 (w64 (u1 + u3))) 1)) u4 < symMu u0 u1 u2 u3 u4 ∧ symPre u0 u1 x20 (w64 (bShr .u64 (wu64 (w64 (u1 + u3))) 1)) u4) ∧
                ((segC2 u0 u1 x20 (w64 (bShr .u64 (wu64 (w64 (u1 + u3))) 1)) u4).length ≤ 140737488355328 →
                ((((decide ((w64 (bShr .u64 (wu64 (w64 (u1 + u3))) 1)) < (w64 ((w64 ((w64 (bShr .u64 (wu64 (w64 (u1 + u3))) 1)) + u2)) - x20)))) && (decide ((w64 ((w64 ((w64 (bShr .u64 (wu64 (w64 (u1 + u3))) 1)) + u2)) - x20)) < u3))) = true →
                  ((symMu (segC2 u0 u1 x20 (w64 (bShr .u64 (wu64 (w64 (u1 + u3))) 1)) u4) (w64 (bShr .u64 (wu64 (w64 (u1 + u3))) 1)) (w64 ((w64 ((w64 (bShr .u64 (wu64 (w64 (u1 + u3))) 1)) + u2)) - x20)) u3 u4 < symMu u0 u1 u2 u3 u4 ∧ symPre (segC2 u0 u1 x20 (w64 (bShr .u64 (wu64 (w64 (u1 + u3))) 1)) u4) (w64 (bShr .u64 (wu64 (w64 (u1 + u3))) 1)) (w64 ((w64 ((w64 (bShr .u64 (wu64 (w64 (u1 + u3))) 1)) + u2)) - x20)) u3 u4) ∧
                  ((segC2 (segC2 u0 u1 x20 (w64 (bShr .u64 (wu64 (w64 (u1 + u3))) 1)) u4) (w64 (bShr .u64 (wu64 (w64 (u1 + u3))) 1)) (w64 ((w64 ((w64 (bShr .u64 (wu64 (w64 (u1 + u3))) 1)) + u2)) - x20)) u3 u4).length ≤ 140737488355328 →
                  (((segC2 (segC2 u0 u1 x20 (w64 (bShr .u64 (wu64 (w64 (u1 + u3))) 1)) u4) (w64 (bShr .u64 (wu64 (w64 (u1 + u3))) 1)) (w64 ((w64 ((w64 (bShr .u64 (wu64 (w64 (u1 + u3))) 1)) + u2)) - x20)) u3 u4).length = u0.length) ∧
                  (K (segC2 (segC2 u0 u1 x20 (w64 (bShr .u64 (wu64 (w64 (u1 + u3))) 1)) u4) (w64 (bShr .u64 (wu64 (w64 (u1 + u3))) 1)) (w64 ((w64 ((w64 (bShr .u64 (wu64 (w64 (u1 + u3))) 1)) + u2)) - x20)) u3 u4)))))) ∧
                (((decide ((w64 (bShr .u64 (wu64 (w64 (u1 + u3))) 1)) < (w64 ((w64 ((w64 (bShr .u64 (wu64 (w64 (u1 + u3))) 1)) + u2)) - x20)))) && (decide ((w64 ((w64 ((w64 (bShr .u64 (wu64 (w64 (u1 + u3))) 1)) + u2)) - x20)) < u3))) = false →
                  (((segC2 u0 u1 x20 (w64 (bShr .u64 (wu64 (w64 (u1 + u3))) 1)) u4).length = u0.length) ∧
                  (K (segC2 u0 u1 x20 (w64 (bShr .u64 (wu64 (w64 (u1 + u3))) 1)) u4)))))))) ∧
              (((decide (u1 < x20)) && (decide (x20 < (w64 (bShr .u64 (wu64 (w64 (u1 + u3))) 1))))) = false →
                ((((decide ((w64 (bShr .u64 (wu64 (w64 (u1 + u3))) 1)) < (w64 ((w64 ((w64 (bShr .u64 (wu64 (w64 (u1 + u3))) 1)) + u2)) - x20)))) && (decide ((w64 ((w64 ((w64 (bShr .u64 (wu64 (w64 (u1 + u3))) 1)) + u2)) - x20)) < u3))) = true →
                  ((symMu u0 (w64 (bShr .u64 (wu64 (w64 (u1 + u3))) 1)) (w64 ((w64 ((w64 (bShr .u64 (wu64 (w64 (u1 + u3))) 1)) + u2)) - x20)) u3 u4 < symMu u0 u1 u2 u3 u4 ∧ symPre u0 (w64 (bShr .u64 (wu64 (w64 (u1 + u3))) 1)) (w64 ((w64 ((w64 (bShr .u64 (wu64 (w64 (u1 + u3))) 1)) + u2)) - x20)) u3 u4) ∧
                  ((segC2 u0 (w64 (bShr .u64 (wu64 (w64 (u1 + u3))) 1)) (w64 ((w64 ((w64 (bShr .u64 (wu64 (w64 (u1 + u3))) 1)) + u2)) - x20)) u3 u4).length ≤ 140737488355328 →
                  (((segC2 u0 (w64 (bShr .u64 (wu64 (w64 (u1 + u3))) 1)) (w64 ((w64 ((w64 (bShr .u64 (wu64 (w64 (u1 + u3))) 1)) + u2)) - x20)) u3 u4).length = u0.length) ∧
                  (K (segC2 u0 (w64 (bShr .u64 (wu64 (w64 (u1 + u3))) 1)) (w64 ((w64 ((w64 (bShr .u64 (wu64 (w64 (u1 + u3))) 1)) + u2)) - x20)) u3 u4)))))) ∧
                (((decide ((w64 (bShr .u64 (wu64 (w64 (u1 + u3))) 1)) < (w64 ((w64 ((w64 (bShr .u64 (wu64 (w64 (u1 + u3))) 1)) + u2)) - x20)))) && (decide ((w64 ((w64 ((w64 (bShr .u64 (wu64 (w64 (u1 + u3))) 1)) + u2)) - x20)) < u3))) = false →
                  ((u0.length = u0.length) ∧
                  (K u0))))))))))) ∧
        ((decide (u2 > (w64 (bShr .u64 (wu64 (w64 (u1 + u3))) 1)))) = false →
          (∃ inv1548 : Int → Prop,
          (∃ inv1895 : Int → Int → Prop, ∃ mu1895 : Int → Int → Nat, inv1895 u1 u2 ∧
          (∀ (x20v : Int) (x21 : Int), inv1895 x20v x21 →
          (((decide (x20v < x21)) = true →
            ((0 ≤ w64 ((w64 ((w64 ((w64 (bShr .u64 (wu64 (w64 (u1 + u3))) 1)) + u2)) - 1)) - (w64 (bShr .u64 (wu64 (w64 (x20v + x21))) 1))) ∧ w64 ((w64 ((w64 ((w64 (bShr .u64 (wu64 (w64 (u1 + u3))) 1)) + u2)) - 1)) - (w64 (bShr .u64 (wu64 (w64 (x20v + x21))) 1))) < (u0.length : Int)) ∧
            (∀ qd6_0, u0[(w64 ((w64 ((w64 ((w64 (bShr .u64 (wu64 (w64 (u1 + u3))) 1)) + u2)) - 1)) - (w64 (bShr .u64 (wu64 (w64 (x20v + x21))) 1)))).toNat]? = some qd6_0 →
            ((0 ≤ w64 (bShr .u64 (wu64 (w64 (x20v + x21))) 1) ∧ w64 (bShr .u64 (wu64 (w64 (x20v + x21))) 1) < (u0.length : Int)) ∧
            (∀ qd10_0, u0[(w64 (bShr .u64 (wu64 (w64 (x20v + x21))) 1)).toNat]? = some qd10_0 →
            (((!(decide ((u4 qd6_0 qd10_0) < 0))) = true →
              (inv1895 (w64 ((w64 (bShr .u64 (wu64 (w64 (x20v + x21))) 1)) + 1)) x21 ∧ mu1895 (w64 ((w64 (bShr .u64 (wu64 (w64 (x20v + x21))) 1)) + 1)) x21 < mu1895 x20v x21)) ∧
            ((!(decide ((u4 qd6_0 qd10_0) < 0))) = false →
              (inv1895 x20v (w64 (bShr .u64 (wu64 (w64 (x20v + x21))) 1)) ∧ mu1895 x20v (w64 (bShr .u64 (wu64 (w64 (x20v + x21))) 1)) < mu1895 x20v x21)))))))) ∧
          ((decide (x20v < x21)) = false →
            (inv1548 x20v))))) ∧
          (∀ (x20 : Int), inv1548 x20 →
            ((((decide (x20 < u2)) && (decide (u2 < (w64 ((w64 ((w64 (bShr .u64 (wu64 (w64 (u1 + u3))) 1)) + u2)) - x20))))) = true →
              (srot_vc u0 x20 u2 (w64 ((w64 ((w64 (bShr .u64 (wu64 (w64 (u1 + u3))) 1)) + u2)) - x20)) u4 fun r1601 =>
              (r1601.length ≤ 140737488355328 →
              ((((decide (u1 < x20)) && (decide (x20 < (w64 (bShr .u64 (wu64 (w64 (u1 + u3))) 1))))) = true →
                ((symMu r1601 u1 x20 (w64 (bShr .u64 (wu64 (w64 (u1 + u3))) 1)) u4 < symMu u0 u1 u2 u3 u4 ∧ symPre r1601 u1 x20 (w64 (bShr .u64 (wu64 (w64 (u1 + u3))) 1)) u4) ∧
                ((segC2 r1601 u1 x20 (w64 (bShr .u64 (wu64 (w64 (u1 + u3))) 1)) u4).length ≤ 140737488355328 →
                ((((decide ((w64 (bShr .u64 (wu64 (w64 (u1 + u3))) 1)) < (w64 ((w64 ((w64 (bShr .u64 (wu64 (w64 (u1 + u3))) 1)) + u2)) - x20)))) && (decide ((w64 ((w64 ((w64 (bShr .u64 (wu64 (w64 (u1 + u3))) 1)) + u2)) - x20)) < u3))) = true →
                  ((symMu (segC2 r1601 u1 x20 (w64 (bShr .u64 (wu64 (w64 (u1 + u3))) 1)) u4) (w64 (bShr .u64 (wu64 (w64 (u1 + u3))) 1)) (w64 ((w64 ((w64 (bShr .u64 (wu64 (w64 (u1 + u3))) 1)) + u2)) - x20)) u3 u4 < symMu u0 u1 u2 u3 u4 ∧ symPre (segC2 r1601 u1 x20 (w64 (bShr .u64 (wu64 (w64 (u1 + u3))) 1)) u4) (w64 (bShr .u64 (wu64 (w64 (u1 + u3))) 1)) (w64 ((w64 ((w64 (bShr .u64 (wu64 (w64 (u1 + u3))) 1)) + u2)) - x20)) u3 u4) ∧
                  ((segC2 (segC2 r1601 u1 x20 (w64 (bShr .u64 (wu64 (w64 (u1 + u3))) 1)) u4) (w64 (bShr .u64 (wu64 (w64 (u1 + u3))) 1)) (w64 ((w64 ((w64 (bShr .u64 (wu64 (w64 (u1 + u3))) 1)) + u2)) - x20)) u3 u4).length ≤ 140737488355328 →
                  (((segC2 (segC2 r1601 u1 x20 (w64 (bShr .u64 (wu64 (w64 (u1 + u3))) 1)) u4) (w64 (bShr .u64 (wu64 (w64 (u1 + u3))) 1)) (w64 ((w64 ((w64 (bShr .u64 (wu64 (w64 (u1 + u3))) 1)) + u2)) - x20)) u3 u4).length = u0.length) ∧
                  (K (segC2 (segC2 r1601 u1 x20 (w64 (bShr .u64 (wu64 (w64 (u1 + u3))) 1)) u4) (w64 (bShr .u64 (wu64 (w64 (u1 + u3))) 1)) (w64 ((w64 ((w64 (bShr .u64 (wu64 (w64 (u1 + u3))) 1)) + u2)) - x20)) u3 u4)))))) ∧
                (((decide ((w64 (bShr .u64 (wu64 (w64 (u1 + u3))) 1)) < (w64 ((w64 ((w64 (bShr .u64 (wu64 (w64 (u1 + u3))) 1)) + u2)) - x20)))) && (decide ((w64 ((w64 ((w64 (bShr .u64 (wu64 (w64 (u1 + u3))) 1)) + u2)) - x20)) < u3))) = false →
                  (((segC2 r1601 u1 x20 (w64 (bShr .u64 (wu64 (w64 (u1 + u3))) 1)) u4).length = u0.length) ∧
                  (K (segC2 r1601 u1 x20 (w64 (bShr .u64 (wu64 (w64 (u1 + u3))) 1)) u4)))))))) ∧
              (((decide (u1 < x20)) && (decide (x20 < (w64 (bShr .u64 (wu64 (w64 (u1 + u3))) 1))))) = false →
                ((((decide ((w64 (bShr .u64 (wu64 (w64 (u1 + u3))) 1)) < (w64 ((w64 ((w64 (bShr .u64 (wu64 (w64 (u1 + u3))) 1)) + u2)) - x20)))) && (decide ((w64 ((w64 ((w64 (bShr .u64 (wu64 (w64 (u1 + u3))) 1)) + u2)) - x20)) < u3))) = true →
                  ((symMu r1601 (w64 (bShr .u64 (wu64 (w64 (u1 + u3))) 1)) (w64 ((w64 ((w64 (bShr .u64 (wu64 (w64 (u1 + u3))) 1)) + u2)) - x20)) u3 u4 < symMu u0 u1 u2 u3 u4 ∧ symPre r1601 (w64 (bShr .u64 (wu64 (w64 (u1 + u3))) 1)) (w64 ((w64 ((w64 (bShr .u64 (wu64 (w64 (u1 + u3))) 1)) + u2)) - x20)) u3 u4) ∧
                  ((segC2 r1601 (w64 (bShr .u64 (wu64 (w64 (u1 + u3))) 1)) (w64 ((w64 ((w64 (bShr .u64 (wu64 (w64 (u1 + u3))) 1)) + u2)) - x20)) u3 u4).length ≤ 140737488355328 →
                  (((segC2 r1601 (w64 (bShr .u64 (wu64 (w64 (u1 + u3))) 1)) (w64 ((w64 ((w64 (bShr .u64 (wu64 (w64 (u1 + u3))) 1)) + u2)) - x20)) u3 u4).length = u0.length) ∧
                  (K (segC2 r1601 (w64 (bShr .u64 (wu64 (w64 (u1 + u3))) 1)) (w64 ((w64 ((w64 (bShr .u64 (wu64 (w64 (u1 + u3))) 1)) + u2)) - x20)) u3 u4)))))) ∧
                (((decide ((w64 (bShr .u64 (wu64 (w64 (u1 + u3))) 1)) < (w64 ((w64 ((w64 (bShr .u64 (wu64 (w64 (u1 + u3))) 1)) + u2)) - x20)))) && (decide ((w64 ((w64 ((w64 (bShr .u64 (wu64 (w64 (u1 + u3))) 1)) + u2)) - x20)) < u3))) = false →
                  ((r1601.length = u0.length) ∧
                  (K r1601))))))))) ∧
            (((decide (x20 < u2)) && (decide (u2 < (w64 ((w64 ((w64 (bShr .u64 (wu64 (w64 (u1 + u3))) 1)) + u2)) - x20))))) = false →
              ((((decide (u1 < x20)) && (decide (x20 < (w64 (bShr .u64 (wu64 (w64 (u1 + u3))) 1))))) = true →
                ((symMu u0 u1 x20 (w64 (bShr .u64 (wu64 (w64 (u1 + u3))) 1)) u4 < symMu u0 u1 u2 u3 u4 ∧ symPre u0 u1 x20 (w64 (bShr .u64 (wu64 (w64 (u1 + u3))) 1)) u4) ∧
                ((segC2 u0 u1 x20 (w64 (bShr .u64 (wu64 (w64 (u1 + u3))) 1)) u4).length ≤ 140737488355328 →
                ((((decide ((w64 (bShr .u64 (wu64 (w64 (u1 + u3))) 1)) < (w64 ((w64 ((w64 (bShr .u64 (wu64 (w64 (u1 + u3))) 1)) + u2)) - x20)))) && (decide ((w64 ((w64 ((w64 (bShr .u64 (wu64 (w64 (u1 + u3))) 1)) + u2)) - x20)) < u3))) = true →
                  ((symMu (segC2 u0 u1 x20 (w64 (bShr .u64 (wu64 (w64 (u1 + u3))) 1)) u4) (w64 (bShr .u64 (wu64 (w64 (u1 + u3))) 1)) (w64 ((w64 ((w64 (bShr .u64 (wu64 (w64 (u1 + u3))) 1)) + u2)) - x20)) u3 u4 < symMu u0 u1 u2 u3 u4 ∧ symPre (segC2 u0 u1 x20 (w64 (bShr .u64 (wu64 (w64 (u1 + u3))) 1)) u4) (w64 (bShr .u64 (wu64 (w64 (u1 + u3))) 1)) (w64 ((w64 ((w64 (bShr .u64 (wu64 (w64 (u1 + u3))) 1)) + u2)) - x20)) u3 u4) ∧
                  ((segC2 (segC2 u0 u1 x20 (w64 (bShr .u64 (wu64 (w64 (u1 + u3))) 1)) u4) (w64 (bShr .u64 (wu64 (w64 (u1 + u3))) 1)) (w64 ((w64 ((w64 (bShr .u64 (wu64 (w64 (u1 + u3))) 1)) + u2)) - x20)) u3 u4).length ≤ 140737488355328 →
                  (((segC2 (segC2 u0 u1 x20 (w64 (bShr .u64 (wu64 (w64 (u1 + u3))) 1)) u4) (w64 (bShr .u64 (wu64 (w64 (u1 + u3))) 1)) (w64 ((w64 ((w64 (bShr .u64 (wu64 (w64 (u1 + u3))) 1)) + u2)) - x20)) u3 u4).length = u0.length) ∧
                  (K (segC2 (segC2 u0 u1 x20 (w64 (bShr .u64 (wu64 (w64 (u1 + u3))) 1)) u4) (w64 (bShr .u64 (wu64 (w64 (u1 + u3))) 1)) (w64 ((w64 ((w64 (bShr .u64 (wu64 (w64 (u1 + u3))) 1)) + u2)) - x20)) u3 u4)))))) ∧
                (((decide ((w64 (bShr .u64 (wu64 (w64 (u1 + u3))) 1)) < (w64 ((w64 ((w64 (bShr .u64 (wu64 (w64 (u1 + u3))) 1)) + u2)) - x20)))) && (decide ((w64 ((w64 ((w64 (bShr .u64 (wu64 (w64 (u1 + u3))) 1)) + u2)) - x20)) < u3))) = false →
                  (((segC2 u0 u1 x20 (w64 (bShr .u64 (wu64 (w64 (u1 + u3))) 1)) u4).length = u0.length) ∧
                  (K (segC2 u0 u1 x20 (w64 (bShr .u64 (wu64 (w64 (u1 + u3))) 1)) u4)))))))) ∧
              (((decide (u1 < x20)) && (decide (x20 < (w64 (bShr .u64 (wu64 (w64 (u1 + u3))) 1))))) = false →
                ((((decide ((w64 (bShr .u64 (wu64 (w64 (u1 + u3))) 1)) < (w64 ((w64 ((w64 (bShr .u64 (wu64 (w64 (u1 + u3))) 1)) + u2)) - x20)))) && (decide ((w64 ((w64 ((w64 (bShr .u64 (wu64 (w64 (u1 + u3))) 1)) + u2)) - x20)) < u3))) = true →
                  ((symMu u0 (w64 (bShr .u64 (wu64 (w64 (u1 + u3))) 1)) (w64 ((w64 ((w64 (bShr .u64 (wu64 (w64 (u1 + u3))) 1)) + u2)) - x20)) u3 u4 < symMu u0 u1 u2 u3 u4 ∧ symPre u0 (w64 (bShr .u64 (wu64 (w64 (u1 + u3))) 1)) (w64 ((w64 ((w64 (bShr .u64 (wu64 (w64 (u1 + u3))) 1)) + u2)) - x20)) u3 u4) ∧
                  ((segC2 u0 (w64 (bShr .u64 (wu64 (w64 (u1 + u3))) 1)) (w64 ((w64 ((w64 (bShr .u64 (wu64 (w64 (u1 + u3))) 1)) + u2)) - x20)) u3 u4).length ≤ 140737488355328 →
                  (((segC2 u0 (w64 (bShr .u64 (wu64 (w64 (u1 + u3))) 1)) (w64 ((w64 ((w64 (bShr .u64 (wu64 (w64 (u1 + u3))) 1)) + u2)) - x20)) u3 u4).length = u0.length) ∧
                  (K (segC2 u0 (w64 (bShr .u64 (wu64 (w64 (u1 + u3))) 1)) (w64 ((w64 ((w64 (bShr .u64 (wu64 (w64 (u1 + u3))) 1)) + u2)) - x20)) u3 u4)))))) ∧
                (((decide ((w64 (bShr .u64 (wu64 (w64 (u1 + u3))) 1)) < (w64 ((w64 ((w64 (bShr .u64 (wu64 (w64 (u1 + u3))) 1)) + u2)) - x20)))) && (decide ((w64 ((w64 ((w64 (bShr .u64 (wu64 (w64 (u1 + u3))) 1)) + u2)) - x20)) < u3))) = false →
                  ((u0.length = u0.length) ∧
                  (K u0)))))))))))))))))

/-! Pure proofs: no program in sight. -/
theorem srot_ok (l : List Line) (a m b : Int) (cmp : Line → Line → Int) (p u v q : List Line) (hl : l = p ++ (u ++ (v ++ q))) (ha : a = p.length) (hm : m = a + u.length) (hb : b = m + v.length) (hu : u ≠ []) (hv : v ≠ []) (hs : l.length ≤ 10000000) : srot_vc l a m b cmp (fun r => r = p ++ (v ++ (u ++ q))) := by
  intro _
  have hlen : l.length = p.length + u.length + v.length + q.length := by rw [hl]; simp; omega
  have pos : ∀ {x : List Line}, x ≠ [] → 0 < x.length := fun h => List.length_pos_iff.2 h
  have ne : ∀ {x : List Line}, 0 < x.length → x ≠ [] := fun h => List.length_pos_iff.1 h
  have e1 : w64 (m - a) = u.length := by rw [w64_eq _ (by omega)]; omega
  have e2 : w64 (b - m) = v.length := by rw [w64_eq _ (by omega)]; omega
  rw [e1, e2]
  refine ⟨fun i j z => ∃ (p' u' v' q' : List Line), i = u'.length ∧ j = v'.length ∧ u' ≠ [] ∧ v' ≠ [] ∧ z = p' ++ (u' ++ (v' ++ q')) ∧ m = p'.length + u'.length ∧ z.length = l.length ∧ p' ++ (v' ++ (u' ++ q')) = p ++ (v ++ (u ++ q)), fun i j _ => (i + j).toNat, ⟨p, u, v, q, rfl, rfl, hu, hv, hl, by omega, rfl, rfl⟩, ?_⟩
  rintro _ _ _ ⟨p', u', v', q', rfl, rfl, hu', hv', rfl, hm', hz, hf⟩
  have h1 := pos hu'
  have h2 := pos hv'
  have hzl : (p' ++ (u' ++ (v' ++ q'))).length = p'.length + u'.length + v'.length + q'.length := by simp; omega
  refine ⟨fun h3 => ⟨fun h4 => ?_, fun h4 => ?_⟩, fun h3 => ?_⟩
  · have h4 := of_decide_eq_true h4
    have e3 : w64 (m - (u'.length : Int)) = p'.length := by rw [w64_eq _ (by omega)]; omega
    rw [e3]
    obtain ⟨u1, u2, rfl, l1⟩ : ∃ u1 u2, u' = u1 ++ u2 ∧ u1.length = v'.length := ⟨_, _, (List.take_append_drop v'.length u').symm, by simp; omega⟩
    have l2 : (u1 ++ u2).length = u1.length + u2.length := List.length_append
    refine sswap_mono ?_ (sswap_ok _ _ _ _ cmp p' u1 u2 v' q' (by simp) rfl (by omega) (by rw [l1]) l1.symm (by omega))
    rintro _ rfl _
    have e4 : w64 (((u1 ++ u2).length : Int) - (v'.length : Int)) = u2.length := by rw [w64_eq _ (by omega), l2]; omega
    rw [e4]
    refine ⟨⟨p' ++ v', u2, u1, q', rfl, by rw [l1], ne (by omega), ne (by omega), by simp, by simp; omega, by simp; omega, ?_⟩, by (try dsimp only); omega⟩
    rw [← hf]
    simp
  · have h3 : (u'.length : Int) ≠ (v'.length : Int) := by simpa using h3
    have h4 : ¬ (u'.length : Int) > (v'.length : Int) := of_decide_eq_false h4
    have e3 : w64 (m - (u'.length : Int)) = p'.length := by rw [w64_eq _ (by omega)]; omega
    have e5 : w64 (w64 (m + (v'.length : Int)) - (u'.length : Int)) = p'.length + v'.length := by rw [w64_eq (m + _) (by omega), w64_eq _ (by omega)]; omega
    rw [e3, e5]
    obtain ⟨v1, v2, rfl, l1⟩ : ∃ v1 v2, v' = v1 ++ v2 ∧ v2.length = u'.length := ⟨_, _, (List.take_append_drop (v'.length - u'.length) v').symm, by simp; omega⟩
    have l2 : (v1 ++ v2).length = v1.length + v2.length := List.length_append
    refine sswap_mono ?_ (sswap_ok _ _ _ _ cmp p' u' v1 v2 q' (by simp) rfl (by omega) rfl l1 (by omega))
    rintro _ rfl _
    have e4 : w64 (((v1 ++ v2).length : Int) - (u'.length : Int)) = v1.length := by rw [w64_eq _ (by omega), l2]; omega
    rw [e4]
    refine ⟨⟨p', v2, v1, u' ++ q', by rw [l1], rfl, ne (by omega), ne (by omega), by simp, by omega, by simp; omega, ?_⟩, by (try dsimp only); omega⟩
    rw [← hf]
    simp
  · have h3 : (u'.length : Int) = (v'.length : Int) := by simpa using h3
    have e3 : w64 (m - (u'.length : Int)) = p'.length := by rw [w64_eq _ (by omega)]; omega
    rw [e3]
    refine sswap_mono ?_ (sswap_ok _ _ _ _ cmp p' u' [] v' q' (by simp) rfl (by simp; omega) rfl (by omega) (by omega))
    rintro _ rfl _
    exact ⟨by simp; omega, by rw [← hf]; simp⟩
theorem half_eq (x : Int) (h : 0 ≤ x ∧ x ≤ 1000000000) : w64 (bShr .u64 (wu64 (w64 x)) 1) = x / 2 := by
  have e1 : wu64 (w64 x) = x := by rw [w64_eq x (by omega)]; exact IntWalk.u64_in x (by omega)
  have e2 : bShr .u64 x 1 = x / 2 := by
    unfold bShr
    rw [Int.fdiv_eq_ediv_of_nonneg _ (by decide)]
    rfl
  rw [e1, e2, w64_eq _ (by omega)]
theorem Srt.take_le {key : Line → Int} {x : List Line} (h : Srt key x) {i : Nat} {d : Line} (hd : x[i]? = some d) : ∀ e ∈ x.take (i + 1), key e ≤ key d := by
  intro e he
  obtain ⟨j, hj⟩ := List.getElem?_of_mem he
  rw [List.getElem?_take] at hj
  split at hj
  · exact h.at_ (by omega) hj hd
  · cases hj
theorem Srt.drop_ge {key : Line → Int} {x : List Line} (h : Srt key x) {i : Nat} {d : Line} (hd : x[i]? = some d) : ∀ e ∈ x.drop i, key d ≤ key e := by
  intro e he
  obtain ⟨j, hj⟩ := List.getElem?_of_mem he
  rw [List.getElem?_drop] at hj
  exact h.at_ (by omega) hd hj
theorem Srt.take {key : Line → Int} {x : List Line} (h : Srt key x) (n : Nat) : Srt key (x.take n) := h.sublist (List.take_sublist _ _)
theorem Srt.drop {key : Line → Int} {x : List Line} (h : Srt key x) (n : Nat) : Srt key (x.drop n) := h.sublist (List.drop_sublist _ _)
theorem take_drop_cons {x : List Line} {k : Nat} {c : Line} (h : x[k]? = some c) : x.drop k = c :: x.drop (k + 1) ∧ x.take (k + 1) = x.take k ++ [c] := by
  have hk := (List.getElem?_eq_some_iff.1 h).1
  refine ⟨?_, by rw [List.take_add_one, h]; rfl⟩
  rw [List.drop_eq_getElem_cons hk]
  congr 1
  rw [List.getElem?_eq_getElem hk] at h
  exact Option.some.inj h
theorem and_dec {a b c d : Int} : (decide (a < b) && decide (c < d)) = true ↔ a < b ∧ c < d := by simp
theorem and_decF {a b c d : Int} : (decide (a < b) && decide (c < d)) = false ↔ ¬ (a < b ∧ c < d) := by simp
theorem ssym_right (l z : List Line) (a m b mi en : Int) (cmp : Line → Line → Int) (key : Line → Int) (p s1 u v q : List Line) (ha : a = p.length) (hmi : mi = a + s1.length) (hen : en = mi + u.length) (hb : b = en + v.length) (hz : z = p ++ (s1 ++ (u ++ (v ++ q)))) (h0 : 0 < s1.length) (hlen : z.length = l.length) (hlim : l.length ≤ 10000000)
    (hk : Keyed cmp key (u ++ v)) (hu : Srt key u) (hv : Srt key v) (hend : p ++ (s1 ++ (sortC cmp (u ++ v) ++ q)) = segC2 l a m b cmp) :
    ((((decide (mi < en)) && (decide (en < b))) = true → ((symMu z mi en b cmp < symMu l a m b cmp ∧ symPre z mi en b cmp) ∧ ((segC2 z mi en b cmp).length ≤ 140737488355328 → (((segC2 z mi en b cmp).length = l.length) ∧ (segC2 z mi en b cmp = segC2 l a m b cmp))))) ∧
      (((decide (mi < en)) && (decide (en < b))) = false → ((z.length = l.length) ∧ (z = segC2 l a m b cmp)))) := by
  have hzl : z.length = p.length + s1.length + u.length + v.length + q.length := by rw [hz]; simp; omega
  refine ⟨fun h => ?_, fun h => ⟨hlen, ?_⟩⟩
  · have h := and_dec.1 h
    refine ⟨⟨by unfold symMu; omega, key, p ++ s1, u, v, q, by rw [hz]; simp, by simp; omega, by omega, by omega, List.length_pos_iff.1 (by omega), List.length_pos_iff.1 (by omega), hk, hu, hv, by omega⟩, fun _ => ?_⟩
    have e : segC2 z mi en b cmp = segC2 l a m b cmp := by
      rw [← hend]
      have e1 : z = (p ++ s1) ++ ((u ++ v) ++ q) := by rw [hz]; simp
      obtain ⟨k1, k2⟩ := sortC_spec hk
      unfold segC2
      rw [e1, segC_eq (y := sortC cmp (u ++ v)) (by simp; omega) (by simp; omega) hk k1 k2]
      simp
    refine ⟨?_, e⟩
    unfold segC2
    rw [segC_len (by omega)]
    exact hlen
  · have h := and_decF.1 h
    have hs : Srt key (u ++ v) := by
      by_cases hu0 : u.length = 0
      · rw [List.eq_nil_of_length_eq_zero hu0]; exact hv
      · have : v.length = 0 := by omega
        rw [List.eq_nil_of_length_eq_zero this]; simpa using hu
    rw [← hend, sortC_sorted hk hs, hz]
    simp
theorem ssym_left (l z : List Line) (a m b s mi en : Int) (cmp : Line → Line → Int) (key : Line → Int) (p a1 b1 u v q : List Line) (ha : a = p.length) (hs : s = a + a1.length) (hmi : mi = s + b1.length) (hen : en = mi + u.length) (hb : b = en + v.length) (hz : z = p ++ (a1 ++ (b1 ++ (u ++ (v ++ q))))) (h0 : 0 < a1.length + b1.length) (h9 : 0 < u.length + v.length) (hlen : z.length = l.length) (hlim : l.length ≤ 10000000)
    (hk1 : Keyed cmp key (a1 ++ b1)) (ha1 : Srt key a1) (hb1 : Srt key b1) (hk : Keyed cmp key (u ++ v)) (hu : Srt key u) (hv : Srt key v) (hend : p ++ ((sortC cmp (a1 ++ b1) ++ sortC cmp (u ++ v)) ++ q) = segC2 l a m b cmp) :
    ((((decide (a < s)) && (decide (s < mi))) = true → ((symMu z a s mi cmp < symMu l a m b cmp ∧ symPre z a s mi cmp) ∧ ((segC2 z a s mi cmp).length ≤ 140737488355328 →
      ((((decide (mi < en)) && (decide (en < b))) = true → ((symMu (segC2 z a s mi cmp) mi en b cmp < symMu l a m b cmp ∧ symPre (segC2 z a s mi cmp) mi en b cmp) ∧ ((segC2 (segC2 z a s mi cmp) mi en b cmp).length ≤ 140737488355328 → (((segC2 (segC2 z a s mi cmp) mi en b cmp).length = l.length) ∧ (segC2 (segC2 z a s mi cmp) mi en b cmp = segC2 l a m b cmp))))) ∧
      (((decide (mi < en)) && (decide (en < b))) = false → (((segC2 z a s mi cmp).length = l.length) ∧ (segC2 z a s mi cmp = segC2 l a m b cmp))))))) ∧
     (((decide (a < s)) && (decide (s < mi))) = false →
      ((((decide (mi < en)) && (decide (en < b))) = true → ((symMu z mi en b cmp < symMu l a m b cmp ∧ symPre z mi en b cmp) ∧ ((segC2 z mi en b cmp).length ≤ 140737488355328 → (((segC2 z mi en b cmp).length = l.length) ∧ (segC2 z mi en b cmp = segC2 l a m b cmp))))) ∧
      (((decide (mi < en)) && (decide (en < b))) = false → ((z.length = l.length) ∧ (z = segC2 l a m b cmp)))))) := by
  have hzl : z.length = p.length + a1.length + b1.length + u.length + v.length + q.length := by rw [hz]; simp; omega
  have hsl : (sortC cmp (a1 ++ b1)).length = a1.length + b1.length := by rw [sortC_len]; simp
  refine ⟨fun h => ?_, fun h => ?_⟩
  · have h := and_dec.1 h
    refine ⟨⟨by unfold symMu; omega, key, p, a1, b1, u ++ (v ++ q), hz, ha, by omega, by omega, List.length_pos_iff.1 (by omega), List.length_pos_iff.1 (by omega), hk1, ha1, hb1, by omega⟩, fun _ => ?_⟩
    have e : segC2 z a s mi cmp = p ++ (sortC cmp (a1 ++ b1) ++ (u ++ (v ++ q))) := by
      have e1 : z = p ++ ((a1 ++ b1) ++ (u ++ (v ++ q))) := by rw [hz]; simp
      obtain ⟨k1, k2⟩ := sortC_spec hk1
      unfold segC2
      rw [e1, segC_eq (y := sortC cmp (a1 ++ b1)) ha (by simp; omega) hk1 k1 k2]
    exact ssym_right l _ a m b mi en cmp key p (sortC cmp (a1 ++ b1)) u v q ha (by omega) hen hb e (by omega) (by unfold segC2; rw [segC_len (by omega)]; exact hlen) hlim hk hu hv (by rw [← hend]; simp)
  · have h := and_decF.1 h
    have hs1 : Srt key (a1 ++ b1) := by
      by_cases hu0 : a1.length = 0
      · rw [List.eq_nil_of_length_eq_zero hu0]; exact hb1
      · have : b1.length = 0 := by omega
        rw [List.eq_nil_of_length_eq_zero this]; simpa using ha1
    rw [sortC_sorted hk1 hs1] at hend
    exact ssym_right l _ a m b mi en cmp key p (a1 ++ b1) u v q ha (by simp; omega) hen hb (by rw [hz]; simp) (by simp; omega) hlen hlim hk hu hv (by rw [← hend]; simp)
theorem ssym_ok (l : List Line) (a m b : Int) (cmp : Line → Line → Int) (hpre : symPre l a m b cmp) : ssym_vc l a m b cmp (fun r => r = segC2 l a m b cmp) := by
  obtain ⟨key, p, x, y, q, rfl, rfl, rfl, rfl, hx0, hy0, hk, hsx, hsy, hlim⟩ := hpre
  have hx1 : 0 < x.length := List.length_pos_iff.2 hx0
  have hy1 : 0 < y.length := List.length_pos_iff.2 hy0
  have hkc : ∀ c ∈ x ++ y, ∀ d ∈ x ++ y, (cmp c d < 0 ↔ key c < key d) := hk
  have hlen : (p ++ (x ++ (y ++ q))).length = p.length + x.length + y.length + q.length := by simp; omega
  have hat : ∀ (i : Nat), (p ++ (x ++ (y ++ q)))[p.length + i]? = (x ++ (y ++ q))[i]? := fun i => by rw [List.getElem?_append_right (by omega)]; congr 1; omega
  have hatx : ∀ (i : Nat), i < x.length → (p ++ (x ++ (y ++ q)))[p.length + i]? = x[i]? := fun i hi => by rw [hat, List.getElem?_append_left hi]
  have haty : ∀ (i : Nat), i < y.length → (p ++ (x ++ (y ++ q)))[p.length + x.length + i]? = y[i]? := fun i hi => by rw [show p.length + x.length + i = p.length + (x.length + i) by omega, hat, List.getElem?_append_right (by omega), List.getElem?_append_left (by omega)]; congr 1; omega
  have hfin : ∀ z : List Line, Srt key z → Fe key z (x ++ y) → p ++ (z ++ q) = segC2 (p ++ (x ++ (y ++ q))) (p.length : Int) ((p.length : Int) + x.length) ((p.length : Int) + x.length + y.length) cmp := fun z h1 h2 => by
    have := (segC_eq (cmp := cmp) (key := key) (p := p) (q := q) (x := x ++ y) (y := z) (a := p.length) (b := (p.length : Int) + x.length + y.length) rfl (by simp; omega) hk h1 h2)
    rw [← this]
    unfold segC2
    simp
  intro _
  rw [w64_eq ((p.length : Int) + x.length - p.length) (by omega), w64_eq ((p.length : Int) + x.length + y.length - ((p.length : Int) + x.length)) (by omega)]
  refine ⟨fun h1 => ?_, fun h1 => ⟨fun h2 => ?_, fun h2 => ?_⟩⟩
  · -- one ahead
    have h1 : x.length = 1 := by simp at h1; omega
    obtain ⟨c, rfl⟩ : ∃ c, x = [c] := List.length_eq_one_iff.1 h1
    have hL : (p ++ ([c] ++ (y ++ q))).length = p.length + 1 + y.length + q.length := hlen
    refine ⟨fun i => ∃ k : Nat, i = (p.length : Int) + 1 + k ∧ k ≤ y.length ∧ (∀ d ∈ y.take k, key d < key c) ∧ ∀ d ∈ y.drop k, key c ≤ key d, ?_, ?_⟩
    · refine ⟨fun i j => ∃ k t : Nat, i = (p.length : Int) + 1 + k ∧ j = (p.length : Int) + 1 + t ∧ k ≤ t ∧ t ≤ y.length ∧ (∀ d ∈ y.take k, key d < key c) ∧ ∀ d ∈ y.drop t, key c ≤ key d, fun i j => (j - i).toNat, ⟨0, y.length, by simp, by simp, by omega, by omega, by simp, by simp⟩, ?_⟩
      rintro _ _ ⟨k, t, rfl, rfl, hkt, hty, h3, h4⟩
      refine ⟨fun h5 => ?_, fun h5 => ⟨k, rfl, by omega, h3, ?_⟩⟩
      · have h5 := of_decide_eq_true h5
        rw [half_eq _ (by omega)]
        obtain ⟨e, he, hek, het⟩ : ∃ e : Nat, ((p.length : Int) + 1 + k + ((p.length : Int) + 1 + t)) / 2 = (p.length : Int) + 1 + e ∧ k ≤ e ∧ e < t := ⟨(((p.length : Int) + 1 + k + ((p.length : Int) + 1 + t)) / 2 - p.length - 1).toNat, by omega, by omega, by omega⟩
        rw [he]
        obtain ⟨d, hd⟩ : ∃ d, y[e]? = some d := ⟨_, List.getElem?_eq_getElem (by omega)⟩
        have hdy : d ∈ y := List.mem_of_getElem? hd
        refine ⟨by omega, fun d' hd' => ⟨by omega, fun c' hc' => ?_⟩⟩
        have e1 : ((p.length : Int) + 1 + e).toNat = p.length + [c].length + e := by simp; omega
        have e2 : ((p.length : Int)).toNat = p.length + 0 := by omega
        rw [e1, haty e (by omega), hd] at hd'
        rw [e2, hatx 0 (by simp)] at hc'
        cases hd'
        cases hc'
        have hkk := hkc d (by simp [hdy]) c (by simp)
        refine ⟨fun h6 => ?_, fun h6 => ?_⟩
        · have h6 := hkk.1 (of_decide_eq_true h6)
          rw [w64_eq _ (by omega)]
          exact ⟨⟨e + 1, t, by omega, rfl, by omega, hty, fun d' hd' => by have := hsy.take_le hd d' hd'; omega, h4⟩, by (try dsimp only); omega⟩
        · have h6 : ¬ key d < key c := by rw [← hkk]; exact of_decide_eq_false h6
          exact ⟨⟨k, e, rfl, rfl, by omega, by omega, h3, fun d' hd' => by have := hsy.drop_ge hd d' hd'; omega⟩, by (try dsimp only); omega⟩
      · have : k = t := by have := of_decide_eq_false h5; omega
        subst this
        exact h4
    · rintro _ ⟨k, rfl, hky, h3, h4⟩
      rw [w64_eq ((p.length : Int) + 1 + k - 1) (by omega)]
      refine ⟨fun i z => ∃ t : Nat, i = (p.length : Int) + t ∧ t ≤ k ∧ z = p ++ (y.take t ++ c :: (y.drop t ++ q)), fun i _ => ((p.length : Int) + k - i).toNat, ⟨0, by simp, by omega, by simp⟩, ?_⟩
      rintro _ _ ⟨t, rfl, htk, rfl⟩
      have hzl : (p ++ (y.take t ++ c :: (y.drop t ++ q))).length = (p ++ ([c] ++ (y ++ q))).length := by simp; omega
      refine ⟨fun h5 => ?_, fun h5 => ?_⟩
      · have h5 : t < k := by have := of_decide_eq_true h5; omega
        rw [w64_eq ((p.length : Int) + t + 1) (by omega), hzl]
        obtain ⟨d, hd⟩ : ∃ d, y[t]? = some d := ⟨_, List.getElem?_eq_getElem (by omega)⟩
        obtain ⟨e1, e2⟩ := take_drop_cons hd
        have ez : p ++ (y.take t ++ c :: (y.drop t ++ q)) = (p ++ y.take t) ++ c :: ([] ++ d :: (y.drop (t + 1) ++ q)) := by rw [e1]; simp
        obtain ⟨g1, g2, g3, _⟩ := swap2 (p ++ y.take t) [] (y.drop (t + 1) ++ q) c d (i := ((p.length : Int) + t).toNat) (j := ((p.length : Int) + t + 1).toNat) (by simp; omega) (by simp; omega)
        rw [ez]
        refine ⟨by omega, fun d' hd' => ⟨by omega, fun c' hc' => ⟨by omega, by omega, ?_⟩⟩⟩
        rw [g2] at hd'
        rw [g1] at hc'
        cases hd'
        cases hc'
        rw [g3]
        exact ⟨⟨t + 1, by omega, by omega, by rw [e2]; simp⟩, by (try dsimp only); omega⟩
      · have h5 : t = k := by have := of_decide_eq_false h5; omega
        subst h5
        refine ⟨hzl, ?_⟩
        have := hfin (y.take t ++ c :: y.drop t) ((hsy.take t).app (List.pairwise_cons.2 ⟨h4, hsy.drop t⟩) fun d hd e he => by
          have := h3 d hd
          rcases List.mem_cons.1 he with rfl | he
          · omega
          · have := h4 e he; omega) (by
          have h6 : Fe key (y.take t ++ [c]) ([c] ++ y.take t) := Fe.swap fun d hd e he => by
            have : e = c := by simpa using he
            subst this
            have := h3 d hd
            omega
          have := h6.app (Fe.refl (y.drop t))
          simpa using this)
        rw [← this]
        simp
  · -- one behind
    have h2 : y.length = 1 := by simp at h2; omega
    obtain ⟨c, rfl⟩ : ∃ c, y = [c] := List.length_eq_one_iff.1 h2
    have hL : (p ++ (x ++ ([c] ++ q))).length = p.length + x.length + 1 + q.length := hlen
    refine ⟨fun i => ∃ k : Nat, i = (p.length : Int) + k ∧ k ≤ x.length ∧ (∀ d ∈ x.take k, key d ≤ key c) ∧ ∀ d ∈ x.drop k, key c < key d, ?_, ?_⟩
    · refine ⟨fun i j => ∃ k t : Nat, i = (p.length : Int) + k ∧ j = (p.length : Int) + t ∧ k ≤ t ∧ t ≤ x.length ∧ (∀ d ∈ x.take k, key d ≤ key c) ∧ ∀ d ∈ x.drop t, key c < key d, fun i j => (j - i).toNat, ⟨0, x.length, by simp, by simp, by omega, by omega, by simp, by simp⟩, ?_⟩
      rintro _ _ ⟨k, t, rfl, rfl, hkt, hty, h3, h4⟩
      refine ⟨fun h5 => ?_, fun h5 => ⟨k, rfl, by omega, h3, ?_⟩⟩
      · have h5 := of_decide_eq_true h5
        rw [half_eq _ (by omega)]
        obtain ⟨e, he, hek, het⟩ : ∃ e : Nat, ((p.length : Int) + k + ((p.length : Int) + t)) / 2 = (p.length : Int) + e ∧ k ≤ e ∧ e < t := ⟨(((p.length : Int) + k + ((p.length : Int) + t)) / 2 - p.length).toNat, by omega, by omega, by omega⟩
        rw [he]
        obtain ⟨d, hd⟩ : ∃ d, x[e]? = some d := ⟨_, List.getElem?_eq_getElem (by omega)⟩
        have hdx : d ∈ x := List.mem_of_getElem? hd
        refine ⟨by omega, fun c' hc' => ⟨by omega, fun d' hd' => ?_⟩⟩
        have e1 : ((p.length : Int) + e).toNat = p.length + e := by omega
        have e2 : ((p.length : Int) + x.length).toNat = p.length + x.length + 0 := by omega
        rw [e1, hatx e (by omega), hd] at hd'
        rw [e2, haty 0 (by simp)] at hc'
        cases hd'
        cases hc'
        have hkk := hkc c (by simp) d (by simp [hdx])
        refine ⟨fun h6 => ?_, fun h6 => ?_⟩
        · have h6 : ¬ key c < key d := by rw [← hkk]; simpa using h6
          rw [w64_eq _ (by omega)]
          exact ⟨⟨e + 1, t, by omega, rfl, by omega, hty, fun d' hd' => by have := hsx.take_le hd d' hd'; omega, h4⟩, by (try dsimp only); omega⟩
        · have h6 : key c < key d := by rw [← hkk]; simpa using h6
          exact ⟨⟨k, e, rfl, rfl, by omega, by omega, h3, fun d' hd' => by have := hsx.drop_ge hd d' hd'; omega⟩, by (try dsimp only); omega⟩
      · have : k = t := by have := of_decide_eq_false h5; omega
        subst this
        exact h4
    · rintro _ ⟨k, rfl, hky, h3, h4⟩
      refine ⟨fun i z => ∃ t : Nat, i = (p.length : Int) + t ∧ k ≤ t ∧ t ≤ x.length ∧ z = p ++ (x.take t ++ c :: (x.drop t ++ q)), fun i _ => (i - ((p.length : Int) + k)).toNat, ⟨x.length, rfl, by omega, by omega, by simp⟩, ?_⟩
      rintro _ _ ⟨t, rfl, htk, htx, rfl⟩
      have hzl : (p ++ (x.take t ++ c :: (x.drop t ++ q))).length = (p ++ (x ++ ([c] ++ q))).length := by simp; omega
      refine ⟨fun h5 => ?_, fun h5 => ?_⟩
      · have h5 : k < t := by have := of_decide_eq_true h5; omega
        rw [w64_eq ((p.length : Int) + t - 1) (by omega), hzl]
        obtain ⟨s, rfl⟩ : ∃ s, t = s + 1 := ⟨t - 1, by omega⟩
        obtain ⟨d, hd⟩ : ∃ d, x[s]? = some d := ⟨_, List.getElem?_eq_getElem (by omega)⟩
        obtain ⟨e1, e2⟩ := take_drop_cons hd
        have ez : p ++ (x.take (s + 1) ++ c :: (x.drop (s + 1) ++ q)) = (p ++ x.take s) ++ d :: ([] ++ c :: (x.drop (s + 1) ++ q)) := by rw [e2]; simp
        obtain ⟨g1, g2, _, g4⟩ := swap2 (p ++ x.take s) [] (x.drop (s + 1) ++ q) d c (i := ((p.length : Int) + ((s + 1 : Nat) : Int) - 1).toNat) (j := ((p.length : Int) + ((s + 1 : Nat) : Int)).toNat) (by simp; omega) (by simp; omega)
        rw [ez]
        refine ⟨by omega, fun d' hd' => ⟨by omega, fun c' hc' => ⟨by omega, by omega, ?_⟩⟩⟩
        rw [g1] at hd'
        rw [g2] at hc'
        cases hd'
        cases hc'
        rw [g4]
        exact ⟨⟨s, by omega, by omega, by omega, by rw [e1]; simp⟩, by (try dsimp only); omega⟩
      · have h5 : t = k := by have := of_decide_eq_false h5; omega
        subst h5
        refine ⟨hzl, ?_⟩
        have := hfin (x.take t ++ c :: x.drop t) ((hsx.take t).app (List.pairwise_cons.2 ⟨fun d hd => by have := h4 d hd; omega, hsx.drop t⟩) fun d hd e he => by
          have := h3 d hd
          rcases List.mem_cons.1 he with rfl | he
          · omega
          · have := h4 e he; omega) (by
          have h6 : Fe key ([c] ++ x.drop t) (x.drop t ++ [c]) := Fe.swap fun e he d hd => by
            have : e = c := by simpa using he
            subst this
            have := h4 d hd
            omega
          have := (Fe.refl (x.take t)).app h6
          rw [← List.append_assoc, ← List.append_assoc, List.take_append_drop] at this
          simpa using this)
        rw [← this]
        simp
  · -- both longer
    have h1 : x.length ≠ 1 := by
      intro e
      have : ((p.length : Int) + x.length - p.length) = 1 := by omega
      rw [this] at h1
      cases h1
    obtain ⟨g, hg⟩ : ∃ g : Nat, ((p.length : Int) + ((p.length : Int) + x.length + y.length)) / 2 = (p.length : Int) + g := ⟨(x.length + y.length) / 2, by omega⟩
    have hg2 : 2 * g ≤ x.length + y.length ∧ x.length + y.length ≤ 2 * g + 1 := by omega
    rw [half_eq ((p.length : Int) + ((p.length : Int) + x.length + y.length)) (by omega), hg, w64_eq ((p.length : Int) + g + ((p.length : Int) + x.length)) (by omega), w64_eq ((p.length : Int) + g + ((p.length : Int) + x.length) - ((p.length : Int) + x.length + y.length)) (by omega), w64_eq ((p.length : Int) + g + ((p.length : Int) + x.length) - 1) (by omega)]
    refine ⟨fun h3 => ⟨fun i => ∃ s : Nat, i = (p.length : Int) + s ∧ s ≤ x.length ∧ s ≤ g ∧ g - s ≤ y.length ∧ (∀ d ∈ x.take s, ∀ e ∈ y.drop (g - s), key d ≤ key e) ∧ ∀ e ∈ y.take (g - s), ∀ d ∈ x.drop s, key e < key d, ⟨fun i j => ∃ s r : Nat, i = (p.length : Int) + s ∧ j = (p.length : Int) + r ∧ s ≤ r ∧ r ≤ x.length ∧ r ≤ g ∧ g - s ≤ y.length ∧ (∀ d ∈ x.take s, ∀ e ∈ y.drop (g - s), key d ≤ key e) ∧ ∀ e ∈ y.take (g - r), ∀ d ∈ x.drop r, key e < key d, fun i j => (j - i).toNat, ?i1, ?st1⟩, ?tl1⟩,
      fun h3 => ⟨fun i => ∃ s : Nat, i = (p.length : Int) + s ∧ s ≤ x.length ∧ s ≤ g ∧ g - s ≤ y.length ∧ (∀ d ∈ x.take s, ∀ e ∈ y.drop (g - s), key d ≤ key e) ∧ ∀ e ∈ y.take (g - s), ∀ d ∈ x.drop s, key e < key d, ⟨fun i j => ∃ s r : Nat, i = (p.length : Int) + s ∧ j = (p.length : Int) + r ∧ s ≤ r ∧ r ≤ x.length ∧ r ≤ g ∧ g - s ≤ y.length ∧ (∀ d ∈ x.take s, ∀ e ∈ y.drop (g - s), key d ≤ key e) ∧ ∀ e ∈ y.take (g - r), ∀ d ∈ x.drop r, key e < key d, fun i j => (j - i).toNat, ?i2, ?st2⟩, ?tl2⟩⟩
    case i1 =>
      have h3 := of_decide_eq_true h3
      have h4 : y.drop (g - (g - y.length)) = [] := List.drop_of_length_le (by omega)
      have h5 : y.take (g - g) = [] := by rw [Nat.sub_self]; rfl
      exact ⟨g - y.length, g, by omega, rfl, by omega, by omega, by omega, by omega, (fun d _ e he => by rw [h4] at he; cases he), (fun e he => by rw [h5] at he; cases he)⟩
    case i2 =>
      have h3 := of_decide_eq_false h3
      have h5 : x.drop x.length = [] := List.drop_of_length_le (by omega)
      exact ⟨0, x.length, by simp, rfl, by omega, by omega, by omega, by omega, (fun d hd => by simp at hd), (fun e he d hd => by rw [h5] at hd; cases hd)⟩
    case st1 | st2 =>
      rintro _ _ ⟨s, r, rfl, rfl, hsr, hrx, hrg, hgs, hp1, hp2⟩
      refine ⟨fun h5 => ?_, fun h5 => ?_⟩
      · have h5 := of_decide_eq_true h5
        rw [half_eq _ (by omega)]
        obtain ⟨t, ht, hst, htr⟩ : ∃ t : Nat, ((p.length : Int) + s + ((p.length : Int) + r)) / 2 = (p.length : Int) + t ∧ s ≤ t ∧ t < r := ⟨(s + r) / 2, by omega, by omega, by omega⟩
        rw [ht, w64_eq ((p.length : Int) + g + ((p.length : Int) + x.length) - 1 - ((p.length : Int) + t)) (by omega)]
        obtain ⟨d, hd⟩ : ∃ d, x[t]? = some d := ⟨_, List.getElem?_eq_getElem (by omega)⟩
        obtain ⟨e, he⟩ : ∃ e, y[g - 1 - t]? = some e := ⟨_, List.getElem?_eq_getElem (by omega)⟩
        have hdx : d ∈ x := List.mem_of_getElem? hd
        have hey : e ∈ y := List.mem_of_getElem? he
        refine ⟨by omega, fun e' he' => ⟨by omega, fun d' hd' => ?_⟩⟩
        have e1 : ((p.length : Int) + g + ((p.length : Int) + x.length) - 1 - ((p.length : Int) + t)).toNat = p.length + x.length + (g - 1 - t) := by omega
        have e2 : ((p.length : Int) + t).toNat = p.length + t := by omega
        rw [e1, haty _ (by omega), he] at he'
        rw [e2, hatx _ (by omega), hd] at hd'
        cases hd'
        cases he'
        have hkk := hkc e (by simp [hey]) d (by simp [hdx])
        refine ⟨fun h6 => ?_, fun h6 => ?_⟩
        · have h6 : ¬ key e < key d := by rw [← hkk]; simpa using h6
          rw [w64_eq ((p.length : Int) + t + 1) (by omega)]
          refine ⟨⟨t + 1, r, by omega, rfl, by omega, hrx, hrg, by omega, fun d' hd' e' he' => ?_, hp2⟩, by (try dsimp only); omega⟩
          have k1 := hsx.take_le hd d' hd'
          rw [show g - (t + 1) = g - 1 - t by omega] at he'
          have k2 := hsy.drop_ge he e' he'
          omega
        · have h6 : key e < key d := by rw [← hkk]; simpa using h6
          refine ⟨⟨s, t, rfl, rfl, by omega, by omega, by omega, hgs, hp1, fun e' he' d' hd' => ?_⟩, by (try dsimp only); omega⟩
          have k1 := hsx.drop_ge hd d' hd'
          rw [show g - t = g - 1 - t + 1 by omega] at he'
          have k2 := hsy.take_le he e' he'
          omega
      · have : s = r := by have := of_decide_eq_false h5; omega
        subst this
        exact ⟨s, rfl, hrx, hrg, hgs, hp1, hp2⟩
    case tl1 | tl2 =>
      rintro _ ⟨s, rfl, hsx1, hsg, hgs, hp1, hp2⟩
      have hen : w64 ((p.length : Int) + g + ((p.length : Int) + x.length) - ((p.length : Int) + s)) = (p.length : Int) + x.length + ((g - s : Nat) : Int) := by rw [w64_eq _ (by omega)]; omega
      rw [hen]
      have ex : x = x.take s ++ x.drop s := (List.take_append_drop _ _).symm
      have ey : y = y.take (g - s) ++ y.drop (g - s) := (List.take_append_drop _ _).symm
      have l1 : (x.take s).length = s := by simp; omega
      have l2 : (x.drop s).length = x.length - s := by simp
      have l3 : (y.take (g - s)).length = g - s := by simp; omega
      have l4 : (y.drop (g - s)).length = y.length - (g - s) := by simp
      have hend : p ++ ((sortC cmp (x.take s ++ y.take (g - s)) ++ sortC cmp (x.drop s ++ y.drop (g - s))) ++ q) = segC2 (p ++ (x ++ (y ++ q))) (p.length : Int) ((p.length : Int) + x.length) ((p.length : Int) + x.length + y.length) cmp := by
        have m1 : ∀ c ∈ x.take s ++ y.take (g - s), c ∈ x ++ y := fun c hc => by
          rcases List.mem_append.1 hc with h | h
          · exact List.mem_append.2 (.inl (List.mem_of_mem_take h))
          · exact List.mem_append.2 (.inr (List.mem_of_mem_take h))
        have m2 : ∀ c ∈ x.drop s ++ y.drop (g - s), c ∈ x ++ y := fun c hc => by
          rcases List.mem_append.1 hc with h | h
          · exact List.mem_append.2 (.inl (List.mem_of_mem_drop h))
          · exact List.mem_append.2 (.inr (List.mem_of_mem_drop h))
        obtain ⟨k1, k2⟩ := sortC_spec (hk.sub m1)
        obtain ⟨k3, k4⟩ := sortC_spec (hk.sub m2)
        refine hfin _ (k1.app k3 fun c hc d hd => ?_) ((k2.app k4).trans ?_)
        · have hc := (k2.mem c).1 hc
          have hd := (k4.mem d).1 hd
          rcases List.mem_append.1 hc with h | h <;> rcases List.mem_append.1 hd with h' | h'
          · rw [ex] at hsx; exact hsx.rel c h d h'
          · exact hp1 c h d h'
          · have := hp2 c h d h'; omega
          · rw [ey] at hsy; exact hsy.rel c h d h'
        · have h7 : Fe key (y.take (g - s) ++ x.drop s) (x.drop s ++ y.take (g - s)) := Fe.swap fun c hc d hd => by have := hp2 c hc d hd; omega
          have h8 := (Fe.refl (x.take s)).app (h7.app (Fe.refl (y.drop (g - s))))
          have e3 : x.take s ++ (x.drop s ++ y.take (g - s) ++ y.drop (g - s)) = x ++ y := by rw [List.append_assoc, ← ey, ← List.append_assoc, ← ex]
          rw [e3] at h8
          simpa using h8
      have kk1 : Keyed cmp key (x.take s ++ y.take (g - s)) := hk.sub fun c hc => by
        rcases List.mem_append.1 hc with h | h
        · exact List.mem_append.2 (.inl (List.mem_of_mem_take h))
        · exact List.mem_append.2 (.inr (List.mem_of_mem_take h))
      have kk2 : Keyed cmp key (x.drop s ++ y.drop (g - s)) := hk.sub fun c hc => by
        rcases List.mem_append.1 hc with h | h
        · exact List.mem_append.2 (.inl (List.mem_of_mem_drop h))
        · exact List.mem_append.2 (.inr (List.mem_of_mem_drop h))
      have left : ∀ z, z = p ++ (x.take s ++ (y.take (g - s) ++ (x.drop s ++ (y.drop (g - s) ++ q)))) → _ := fun z hz => ssym_left (p ++ (x ++ (y ++ q))) z (p.length : Int) ((p.length : Int) + x.length) ((p.length : Int) + x.length + y.length) ((p.length : Int) + s) ((p.length : Int) + g) ((p.length : Int) + x.length + ((g - s : Nat) : Int)) cmp key p (x.take s) (y.take (g - s)) (x.drop s) (y.drop (g - s)) q rfl (by omega) (by omega) (by omega) (by omega) hz (by omega) (by omega) (by rw [hz, hlen]; simp; omega) hlim kk1 (hsx.take s) (hsy.take _) kk2 (hsx.drop s) (hsy.drop _) hend
      refine ⟨fun h5 => ?_, fun h5 => ?_⟩
      · have h5 := and_dec.1 h5
        refine srot_mono ?_ (srot_ok _ _ _ _ cmp (p ++ x.take s) (x.drop s) (y.take (g - s)) (y.drop (g - s) ++ q) ?_ (by simp; omega) (by omega) (by omega) (List.length_pos_iff.1 (by omega)) (List.length_pos_iff.1 (by omega)) (by omega))
        · intro z hz _
          exact left z (by rw [hz]; simp)
        · conv => lhs; rw [ex, ey]
          simp only [List.append_assoc]
      · have h5 := and_decF.1 h5
        refine left _ ?_
        by_cases h6 : x.length ≤ s
        · have e1 : x.drop s = [] := List.drop_of_length_le h6
          have e2 : x.take s = x := List.take_of_length_le h6
          rw [e1, e2]
          conv => lhs; rw [ey]
          simp only [List.append_assoc, List.nil_append]
        · have h7 : g - s = 0 := by omega
          rw [h7]
          conv => lhs; rw [ex]
          simp only [List.append_assoc, List.take_zero, List.drop_zero, List.nil_append]
def sinsS (l : List Line) (a b : Int) (cmp : Line → Line → Int) : List Line := segC cmp l a b
def sinsPre (l : List Line) (a b : Int) (cmp : Line → Line → Int) : Prop := ∃ (key : Line → Int) (p x q : List Line), l = p ++ (x ++ q) ∧ a = p.length ∧ b = p.length + x.length ∧ Keyed cmp key x ∧ l.length ≤ 10000000
theorem sins_ok2 (l : List Line) (a b : Int) (cmp : Line → Line → Int) (h : sinsPre l a b cmp) : sins_vc l a b cmp (fun r => r = sinsS l a b cmp) := by
  obtain ⟨key, p, x, q, hl, ha, hb, hk, hs⟩ := h
  refine sins_mono ?_ (sins_ok l a b cmp key p x q hl ha hb hk hs)
  rintro _ rfl
  obtain ⟨k1, k2⟩ := sortC_spec hk
  unfold sinsS
  rw [hl, segC_eq (y := sortC cmp x) ha (by omega) hk k1 k2]

end Go.Proofs.Ytmkdnaecmombnaa
set_option linter.unusedVariables false
set_option linter.unusedSimpArgs false
namespace Go.Proofs.Ytmkdnaecmombnaa
open Go.Sy Go.RowKit
def sstab_vc (u0 : List Line) (u1 : Int) (u2 : Line → Line → Int) (K : (List Line) → Prop) : Prop :=
  (u0.length ≤ 140737488355328 →
    (∃ inv19 : Int → Int → (List Line) → Prop, ∃ mu19 : Int → Int → (List Line) → Nat, inv19 0 20 u0 ∧
    (∀ (x7 : Int) (x8 : Int) (zao1 : List Line), inv19 x7 x8 zao1 →
    (((decide (x8 ≤ u1)) = true →
      ((sinsPre zao1 x7 x8 u2) ∧
      ((sinsS zao1 x7 x8 u2).length ≤ 140737488355328 →
      (inv19 x8 (w64 (x8 + 20)) (sinsS zao1 x7 x8 u2) ∧ mu19 x8 (w64 (x8 + 20)) (sinsS zao1 x7 x8 u2) < mu19 x7 x8 zao1)))) ∧
    ((decide (x8 ≤ u1)) = false →
      ((sinsPre zao1 x7 u1 u2) ∧
      ((sinsS zao1 x7 u1 u2).length ≤ 140737488355328 →
      (∃ inv99 : Int → (List Line) → Prop, ∃ mu99 : Int → (List Line) → Nat, inv99 20 (sinsS zao1 x7 u1 u2) ∧
      (∀ (x6 : Int) (zao1v : List Line), inv99 x6 zao1v →
      (((decide (x6 < u1)) = true →
        (∃ inv132 : Int → Int → (List Line) → Prop, ∃ mu132 : Int → Int → (List Line) → Nat, inv132 0 (w64 (2 * x6)) zao1v ∧
        (∀ (x7v : Int) (x8v : Int) (zao1vv : List Line), inv132 x7v x8v zao1vv →
        (((decide (x8v ≤ u1)) = true →
          ((symPre zao1vv x7v (w64 (x7v + x6)) x8v u2) ∧
          ((segC2 zao1vv x7v (w64 (x7v + x6)) x8v u2).length ≤ 140737488355328 →
          (inv132 x8v (w64 (x8v + (w64 (2 * x6)))) (segC2 zao1vv x7v (w64 (x7v + x6)) x8v u2) ∧ mu132 x8v (w64 (x8v + (w64 (2 * x6)))) (segC2 zao1vv x7v (w64 (x7v + x6)) x8v u2) < mu132 x7v x8v zao1vv)))) ∧
        ((decide (x8v ≤ u1)) = false →
          (((decide ((w64 (x7v + x6)) < u1)) = true →
            ((symPre zao1vv x7v (w64 (x7v + x6)) u1 u2) ∧
            ((segC2 zao1vv x7v (w64 (x7v + x6)) u1 u2).length ≤ 140737488355328 →
            (inv99 (w64 (x6 * 2)) (segC2 zao1vv x7v (w64 (x7v + x6)) u1 u2) ∧ mu99 (w64 (x6 * 2)) (segC2 zao1vv x7v (w64 (x7v + x6)) u1 u2) < mu99 x6 zao1v)))) ∧
          ((decide ((w64 (x7v + x6)) < u1)) = false →
            (inv99 (w64 (x6 * 2)) zao1vv ∧ mu99 (w64 (x6 * 2)) zao1vv < mu99 x6 zao1v)))))))) ∧
      ((decide (x6 < u1)) = false →
        ((zao1v.length = u0.length) ∧
        (K zao1v)))))))))))))

/-! Pure proofs: no program in sight. -/
def BlkS {α : Type} (key : α → Int) (B : Nat) (z : List α) : Prop := ∀ i, Srt key ((z.drop (i * B)).take B)
section blk
variable {α : Type} {key : α → Int} {B : Nat} {x r z z1 z2 : List α}
theorem blk_cons (hx : x.length = B) : BlkS key B (x ++ r) ↔ Srt key x ∧ BlkS key B r := by
  have e : ∀ i, (x ++ r).drop ((i + 1) * B) = r.drop (i * B) := fun i => by
    rw [List.drop_append]
    have h1 : x.drop ((i + 1) * B) = [] := List.drop_of_length_le (by rw [Nat.add_mul]; omega)
    have h2 : (i + 1) * B - x.length = i * B := by rw [Nat.add_mul]; omega
    rw [h1, h2]; rfl
  have e0 : ((x ++ r).drop (0 * B)).take B = x := by rw [Nat.zero_mul, List.drop_zero, List.take_left' hx]
  constructor
  · intro h
    refine ⟨by have := h 0; rw [e0] at this; exact this, fun i => ?_⟩
    have := h (i + 1)
    rw [e] at this
    exact this
  · rintro ⟨h1, h2⟩ i
    cases i with
    | zero => rw [e0]; exact h1
    | succ i => rw [e]; exact h2 i
theorem blk_app : ∀ (k : Nat) (z1 : List α), z1.length = k * B → BlkS key B z1 → BlkS key B z2 → BlkS key B (z1 ++ z2) := by
  intro k
  induction k with
  | zero =>
    intro z1 h _ h2
    have : z1 = [] := List.eq_nil_of_length_eq_zero (by omega)
    rw [this]; exact h2
  | succ k ih =>
    intro z1 h h1 h2
    obtain ⟨x, y, rfl, hx⟩ : ∃ x y, z1 = x ++ y ∧ x.length = B := ⟨z1.take B, z1.drop B, (List.take_append_drop _ _).symm, by rw [Nat.add_mul] at h; simp; omega⟩
    rw [blk_cons hx] at h1
    rw [List.append_assoc, blk_cons hx]
    exact ⟨h1.1, ih y (by rw [Nat.add_mul] at h; simp at h; omega) h1.2 h2⟩
theorem blk_short (hz : z.length ≤ B) (h : Srt key z) : BlkS key B z := by
  intro i
  cases i with
  | zero => rw [Nat.zero_mul, List.drop_zero, List.take_of_length_le hz]; exact h
  | succ i => rw [List.drop_of_length_le (by rw [Nat.add_mul]; omega)]; simp [Srt]
theorem blk_one (hz : z.length ≤ B) (h : BlkS key B z) : Srt key z := by
  have := h 0
  rw [Nat.zero_mul, List.drop_zero, List.take_of_length_le hz] at this
  exact this
end blk
theorem sstab_ok (l : List Line) (n : Int) (cmp : Line → Line → Int) (key : Line → Int) (hn : n = l.length) (hk : Keyed cmp key l) (hs : l.length ≤ 1000000) : sstab_vc l n cmp (fun r => r = sortC cmp l) := by
  intro _
  have hsub : ∀ {z x : List Line}, Fe key z l → (∀ c ∈ x, c ∈ z) → Keyed cmp key x := fun h1 h2 => hk.sub fun c hc => (h1.mem c).1 (h2 c hc)
  refine ⟨fun a b z => ∃ (k : Nat) (z1 z2 : List Line), a = 20 * k ∧ b = 20 * k + 20 ∧ z = z1 ++ z2 ∧ z1.length = k * 20 ∧ BlkS key 20 z1 ∧ Fe key z l, fun a _ _ => (n + 20 - a).toNat, ⟨0, [], l, rfl, rfl, rfl, rfl, fun i => by simp [Srt], Fe.refl l⟩, ?_⟩
  rintro _ _ _ ⟨k, z1, z2, rfl, rfl, rfl, h1, h2, h3⟩
  have hzl : z1.length + z2.length = l.length := by rw [← h3.len]; simp
  refine ⟨fun h4 => ?_, fun h4 => ?_⟩
  · have h4 := of_decide_eq_true h4
    obtain ⟨x, q, rfl, hx⟩ : ∃ x q, z2 = x ++ q ∧ x.length = 20 := ⟨z2.take 20, z2.drop 20, (List.take_append_drop _ _).symm, by simp; omega⟩
    have hkx : Keyed cmp key x := hsub h3 fun c hc => by simp [hc]
    have e1 : (20 * (k : Int)) = z1.length := by omega
    have hpre : sinsPre (z1 ++ (x ++ q)) (20 * (k : Int)) (20 * (k : Int) + 20) cmp := ⟨key, z1, x, q, rfl, e1, by omega, hkx, by simp at hzl ⊢; omega⟩
    refine ⟨hpre, ?_⟩
    obtain ⟨k1, k2⟩ := sortC_spec hkx
    have e2 : sinsS (z1 ++ (x ++ q)) (20 * (k : Int)) (20 * (k : Int) + 20) cmp = z1 ++ (sortC cmp x ++ q) := by
      unfold sinsS
      rw [segC_eq (y := sortC cmp x) e1 (by omega) hkx k1 k2]
    rw [e2, w64_eq _ (by simp at hzl; omega)]
    intro _
    refine ⟨⟨k + 1, z1 ++ sortC cmp x, q, by omega, by omega, by simp, by simp [sortC_len]; omega, blk_app k z1 h1 h2 (blk_short (by rw [sortC_len]; omega) k1), ?_⟩, by (try dsimp only); omega⟩
    exact ((Fe.refl z1).app (k2.app (Fe.refl q))).trans h3
  · have h4 := of_decide_eq_false h4
    by_cases h5 : (20 * (k : Int)) ≤ n
    · have hkx : Keyed cmp key z2 := hsub h3 fun c hc => by simp [hc]
      have e1 : (20 * (k : Int)) = z1.length := by omega
      have hpre : sinsPre (z1 ++ z2) (20 * (k : Int)) n cmp := ⟨key, z1, z2, [], by simp, e1, by omega, hkx, by simp; omega⟩
      refine ⟨hpre, ?_⟩
      obtain ⟨k1, k2⟩ := sortC_spec hkx
      have e2 : sinsS (z1 ++ z2) (20 * (k : Int)) n cmp = z1 ++ sortC cmp z2 := by
        have := (segC_eq (cmp := cmp) (p := z1) (x := z2) (q := []) (y := sortC cmp z2) e1 (show n = _ by omega) hkx k1 k2)
        unfold sinsS
        simpa using this
      rw [e2]
      intro _
      refine ⟨fun b z => ∃ B : Nat, b = B ∧ 20 ≤ B ∧ BlkS key B z ∧ Fe key z l, fun b _ => (n - b).toNat, ⟨20, rfl, by omega, blk_app k z1 h1 h2 (blk_short (by rw [sortC_len]; omega) k1), ((Fe.refl z1).app k2).trans h3⟩, ?_⟩
      rintro _ z ⟨B, rfl, hB, h6, h7⟩
      have hz := h7.len
      refine ⟨fun h8 => ?_, fun h8 => ?_⟩
      · have h8 := of_decide_eq_true h8
        rw [w64_eq (2 * (B : Int)) (by omega), w64_eq ((B : Int) * 2) (by omega)]
        refine ⟨fun a b w => ∃ (j : Nat) (w1 w2 : List Line), a = 2 * B * j ∧ b = 2 * B * j + 2 * B ∧ w = w1 ++ w2 ∧ w1.length = j * (2 * B) ∧ BlkS key (2 * B) w1 ∧ BlkS key B w2 ∧ Fe key w l, fun a _ _ => (n + 2 * B - a).toNat, ⟨0, [], z, by simp, by simp, rfl, by simp, fun i => by simp [Srt], h6, h7⟩, ?_⟩
        rintro _ _ _ ⟨j, w1, w2, rfl, rfl, rfl, g1, g2, g3, g4⟩
        have hwl : w1.length + w2.length = l.length := by rw [← g4.len]; simp
        have ej : (2 * (B : Int) * j) = w1.length := by rw [g1]; push_cast; rw [Int.mul_comm]
        rw [ej]
        have hb9 : (B : Int) ≤ 1000000 := by omega
        refine ⟨fun h9 => ?_, fun h9 => ?_⟩
        · have h9 := of_decide_eq_true h9
          obtain ⟨x, r, rfl, hx⟩ : ∃ x r, w2 = x ++ r ∧ x.length = B := ⟨w2.take B, w2.drop B, (List.take_append_drop _ _).symm, by simp; omega⟩
          obtain ⟨y, q, rfl, hy⟩ : ∃ y q, r = y ++ q ∧ y.length = B := ⟨r.take B, r.drop B, (List.take_append_drop _ _).symm, by simp at hwl ⊢; omega⟩
          rw [blk_cons hx, blk_cons hy] at g3
          have hkx : Keyed cmp key (x ++ y) := hsub g4 fun c hc => by rcases List.mem_append.1 hc with h | h <;> simp [h]
          simp at hwl
          rw [w64_eq ((w1.length : Int) + B) (by omega), w64_eq ((w1.length : Int) + 2 * B + 2 * B) (by omega)]
          have hpre : symPre (w1 ++ (x ++ (y ++ q))) (w1.length : Int) ((w1.length : Int) + B) ((w1.length : Int) + 2 * B) cmp := ⟨key, w1, x, y, q, rfl, rfl, by omega, by omega, List.length_pos_iff.1 (by omega), List.length_pos_iff.1 (by omega), hkx, g3.1, g3.2.1, by simp; omega⟩
          refine ⟨hpre, ?_⟩
          obtain ⟨k1, k2⟩ := sortC_spec hkx
          have e3 : segC2 (w1 ++ (x ++ (y ++ q))) (w1.length : Int) ((w1.length : Int) + B) ((w1.length : Int) + 2 * B) cmp = w1 ++ (sortC cmp (x ++ y) ++ q) := by
            have := (segC_eq (cmp := cmp) (p := w1) (x := x ++ y) (q := q) (y := sortC cmp (x ++ y)) rfl (show (w1.length : Int) + 2 * B = _ by simp; omega) hkx k1 k2)
            unfold segC2
            rw [← this]
            simp
          rw [e3]
          intro _
          refine ⟨⟨j + 1, w1 ++ sortC cmp (x ++ y), q, by rw [← ej]; push_cast; rw [Int.mul_add]; omega, by rw [← ej]; push_cast; rw [Int.mul_add]; omega, by simp, by rw [List.length_append, sortC_len, g1, Nat.add_mul]; simp; omega, blk_app j w1 g1 g2 (blk_short (by rw [sortC_len]; simp; omega) k1), g3.2.2, ?_⟩, by (try dsimp only); omega⟩
          refine Fe.trans ?_ g4
          have := (Fe.refl (key := key) w1).app (k2.app (Fe.refl q))
          simpa using this
        · have h9 := of_decide_eq_false h9
          rw [w64_eq ((w1.length : Int) + B) (by omega)]
          refine ⟨fun h10 => ?_, fun h10 => ?_⟩
          · have h10 := of_decide_eq_true h10
            obtain ⟨x, y, rfl, hx⟩ : ∃ x r, w2 = x ++ r ∧ x.length = B := ⟨w2.take B, w2.drop B, (List.take_append_drop _ _).symm, by simp; omega⟩
            rw [blk_cons hx] at g3
            have hkx : Keyed cmp key (x ++ y) := hsub g4 fun c hc => by simpa using .inr (by simpa using hc)
            simp at hwl
            have hpre : symPre (w1 ++ (x ++ y)) (w1.length : Int) ((w1.length : Int) + B) n cmp := ⟨key, w1, x, y, [], by simp, rfl, by omega, by omega, List.length_pos_iff.1 (by omega), List.length_pos_iff.1 (by omega), hkx, g3.1, blk_one (by omega) g3.2, by simp; omega⟩
            refine ⟨hpre, ?_⟩
            obtain ⟨k1, k2⟩ := sortC_spec hkx
            have e3 : segC2 (w1 ++ (x ++ y)) (w1.length : Int) ((w1.length : Int) + B) n cmp = w1 ++ sortC cmp (x ++ y) := by
              have := (segC_eq (cmp := cmp) (p := w1) (x := x ++ y) (q := []) (y := sortC cmp (x ++ y)) rfl (show n = _ by simp; omega) hkx k1 k2)
              unfold segC2
              simpa using this
            rw [e3]
            intro _
            refine ⟨⟨B * 2, by push_cast; rfl, by omega, ?_, ?_⟩, by (try dsimp only); omega⟩
            · rw [Nat.mul_comm]; exact blk_app j w1 g1 g2 (blk_short (by rw [sortC_len]; simp; omega) k1)
            · exact ((Fe.refl (key := key) w1).app k2).trans g4
          · have h10 := of_decide_eq_false h10
            refine ⟨⟨B * 2, by push_cast; rfl, by omega, ?_, g4⟩, by (try dsimp only); omega⟩
            rw [Nat.mul_comm]; exact blk_app j w1 g1 g2 (blk_short (by omega) (blk_one (by omega) g3))
      · have h8 := of_decide_eq_false h8
        exact ⟨hz, sortC_eq hk (blk_one (by omega) h6) h7⟩
    · exfalso
      omega
def sstabS (l : List Line) (n : Int) (cmp : Line → Line → Int) : List Line := sortC cmp l
def sstabPre (l : List Line) (n : Int) (cmp : Line → Line → Int) : Prop := n = (l.length : Int) ∧ (∃ key, Keyed cmp key l) ∧ l.length ≤ 1000000
theorem sstab_ok2 (l : List Line) (n : Int) (cmp : Line → Line → Int) (h : sstabPre l n cmp) : sstab_vc l n cmp (fun r => r = sstabS l n cmp) := by
  obtain ⟨h1, ⟨key, h2⟩, h3⟩ := h
  exact sstab_ok l n cmp key h1 h2 h3

end Go.Proofs.Ytmkdnaecmombnaa
set_option linter.unusedVariables false
set_option linter.unusedSimpArgs false
namespace Go.Proofs.Ytmkdnaecmombnaa
open Go.Sy Go.RowKit
def ssort_vc (u0 : List Line) (u1 : Line → Line → Int) (K : (List Line) → Prop) : Prop :=
  (u0.length ≤ 140737488355328 →
    ((sstabPre u0 (u0.length : Int) u1) ∧
    ((sstabS u0 (u0.length : Int) u1).length ≤ 140737488355328 →
    (((sstabS u0 (u0.length : Int) u1).length = u0.length) ∧
    (K (sstabS u0 (u0.length : Int) u1))))))

/-! Pure proofs: no program in sight. -/
def ssortS (l : List Line) (cmp : Line → Line → Int) : List Line := sortC cmp l
def ssortPre (l : List Line) (cmp : Line → Line → Int) : Prop := (∃ key, Keyed cmp key l) ∧ l.length ≤ 1000000
theorem ssort_ok (l : List Line) (cmp : Line → Line → Int) (h : ssortPre l cmp) : ssort_vc l cmp (fun r => r = ssortS l cmp) := by
  intro _
  obtain ⟨⟨key, h1⟩, h2⟩ := h
  refine ⟨⟨rfl, ⟨key, h1⟩, h2⟩, fun _ => ⟨?_, rfl⟩⟩
  exact (sortC_spec h1).2.len
/-- Lines' order as a number. -/
def lkey (x : Line) : Int := x.Bus * 4294967296 + (if x.F.Long = true then 2147483648 else 0) + x.F.ID
def lineR (x : Line) : Prop := (0 ≤ x.Bus ∧ x.Bus ≤ 3) ∧ 0 ≤ x.F.ID ∧ x.F.ID ≤ 536870911
theorem lless_key (a b : Line) (ha : lineR a) (hb : lineR b) : (llessS a b < 0 ↔ lkey a < lkey b) ∧ (llessS a b = 0 ↔ lkey a = lkey b) := by
  obtain ⟨a1, a2⟩ := ha
  obtain ⟨b1, b2⟩ := hb
  unfold llessS lkey
  rw [w64_eq (a.Bus - b.Bus) (by omega), w64_eq (a.F.ID - b.F.ID) (by omega)]
  cases ha : a.F.Long <;> cases hb : b.F.Long <;> simp only [Bool.false_eq_true, if_false, if_true, ne_eq, not_true_eq_false, reduceCtorEq, not_false_eq_true] <;> split <;> constructor <;> constructor <;> intro h <;> omega
theorem lless_keyed (l : List Line) (h : ∀ x ∈ l, lineR x) : Keyed llessS lkey l := fun a ha b hb => (lless_key a b (h a ha) (h b hb)).1
def lcompS (l : List Line) (eq : Line → Line → Bool) : List Line := compS eq l

end Go.Proofs.Ytmkdnaecmombnaa
set_option linter.unusedVariables false
set_option linter.unusedSimpArgs false
namespace Go.Proofs.Ytmkdnaecmombnaa
open Go.Sy Go.RowKit
def sorted_vc (u0 : List Line) (K : (List Line) → Prop) : Prop :=
  (u0.length ≤ 140737488355328 →
    ((ssortPre u0 (fun x0 x1 => llessS x0 x1 )) ∧
    ((ssortS u0 (fun x0 x1 => llessS x0 x1 )).length ≤ 140737488355328 →
    ((lcompS (ssortS u0 (fun x0 x1 => llessS x0 x1 )) (fun x0 x1 => lsame x0 x1 )).length ≤ 140737488355328 →
    (K (lcompS (ssortS u0 (fun x0 x1 => llessS x0 x1 )) (fun x0 x1 => lsame x0 x1 )))))))

def step1_vc (u0 : Int) (u1 : Int) (K : Bool → Prop) : Prop :=
  (K (decide (u0 > u1)))
def step1 (u0 : Int) (u1 : Int) : Bool :=
  decide (u0 > u1)
theorem step1_ok (u0 : Int) (u1 : Int) : step1_vc u0 u1 (fun r => r = step1 u0 u1) := (by rfl)

def iidxf_vc (u0 : List Int) (u1 : Int → Bool) (K : Int → Prop) : Prop :=
  (u0.length ≤ 140737488355328 →
    (∃ inv20 : Int → Prop, ∃ mu20 : Int → Nat, inv20 0 ∧
    (∀ (x8 : Int), inv20 x8 →
    (((decide (x8 < (u0.length : Int))) = true →
      ((0 ≤ x8 ∧ x8 < (u0.length : Int)) ∧
      (∀ q55, u0[x8.toNat]? = some q55 →
      (((u1 q55) = true →
        (K x8)) ∧
      ((u1 q55) = false →
        (inv20 (w64 (x8 + 1)) ∧ mu20 (w64 (x8 + 1)) < mu20 x8)))))) ∧
    ((decide (x8 < (u0.length : Int))) = false →
      (K (-1)))))))
theorem iidxf_mono {u0 : List Int} {u1 : Int → Bool} {K K1 : Int → Prop} (hK : ∀ r, K r → K1 r) (h : iidxf_vc u0 u1 K) : iidxf_vc u0 u1 K1 :=
  fun z0 => (Exists.elim (h z0) fun i1 e1 => Exists.elim e1 fun m1 g1 => ⟨i1, m1, g1.1, fun x8 z1 => ⟨fun c2 => ⟨((g1.2 x8 z1).1 c2).1, fun y4 z4 => ⟨fun c5 => hK _ ((((g1.2 x8 z1).1 c2).2 y4 z4).1 c5), fun c5 => ((((g1.2 x8 z1).1 c2).2 y4 z4).2 c5)⟩⟩, fun c2 => hK _ ((g1.2 x8 z1).2 c2)⟩⟩)

def icontf_vc (u0 : List Int) (u1 : Int → Bool) (K : Bool → Prop) : Prop :=
  (u0.length ≤ 140737488355328 →
    (iidxf_vc u0 u1 fun r17 =>
    (K (decide (r17 ≥ 0)))))

/-! Pure proofs: no program in sight. -/
def sortedS (l : List Line) : List Line := compS lsame (sortC llessS l)
theorem sorted_ok (l : List Line) (h : (∀ x ∈ l, lineR x) ∧ l.length ≤ 1000000) : sorted_vc l (fun r => r = sortedS l) := fun _ => ⟨⟨⟨lkey, lless_keyed l h.1⟩, h.2⟩, fun _ _ => rfl⟩
theorem iidxf_ok (l : List Int) (p : Int → Bool) : iidxf_vc l p (fun r => r = sidx p l) := by
  intro hl
  refine rg0 hl (fun k => ∀ j y, j < k → l[j]? = some y → p y = false) (fun j y h => absurd h (Nat.not_lt_zero _)) ?_ ?_
  · intro k q hk hq hj inv mu hn
    refine ⟨fun h => (sidx_at _ l k q hq h hj).symm, fun h => hn fun j y hj1 hy => ?_⟩
    rcases Nat.lt_or_ge j k with h1 | h1
    · exact hj j y h1 hy
    · have : j = k := by omega
      subst this
      rw [hq] at hy
      cases hy
      exact h
  · intro hj
    refine (sidx_none _ l fun j y hy => hj j y (List.getElem?_eq_some_iff.1 hy).1 hy).symm
def icontfS (l : List Int) (p : Int → Bool) : Bool := l.any p
theorem icontf_ok (l : List Int) (p : Int → Bool) : icontf_vc l p (fun r => r = icontfS l p) := fun _ => iidxf_mono (fun r h => by subst h; exact sidx_ge _ l) (iidxf_ok l p)

end Go.Proofs.Ytmkdnaecmombnaa
set_option linter.unusedVariables false
set_option linter.unusedSimpArgs false
namespace Go.Proofs.Ytmkdnaecmombnaa
open Go.Sy Go.RowKit
def spread_vc (u0 : List Route) (u1 : Int) (u2 : Frame) (K : ((List Line) × Int) → Prop) : Prop :=
  (u0.length ≤ 140737488355328 →
    (u2.Data.length ≤ 140737488355328 →
    ((u0.length * 56 ≤ 140737488355328) ∧
    ((gnewS u0).1.Routes.length ≤ 140737488355328 →
    ((gnewS u0).1.Last.length ≤ 140737488355328 →
    ((((gnewS u0).2 != 0) = true →
      (K (([] : List Line), (gnewS u0).2))) ∧
    (((gnewS u0).2 != 0) = false →
      ((((fcheckfr u2) != 0) = true →
        (K (([] : List Line), (fcheckfr u2)))) ∧
      (((fcheckfr u2) != 0) = false →
        ((((decide (u1 < 0)) || (decide (u1 ≥ 4))) = true →
          (K (([] : List Line), 3))) ∧
        (((decide (u1 < 0)) || (decide (u1 ≥ 4))) = false →
          ((u2.Data.length ≤ 140737488355328) ∧
          ((goPre u1 (fcopyS u2) [] false ([] : List (Key × Bool)) false (0 : Int) (gnewS u0).1 ([] : List Line)) ∧
          (((goS u1 (fcopyS u2) [] false ([] : List (Key × Bool)) false 0 (gnewS u0).1 ([] : List Line)).1 = true →
            (K (([] : List Line), 13))) ∧
          ((goS u1 (fcopyS u2) [] false ([] : List (Key × Bool)) false 0 (gnewS u0).1 ([] : List Line)).1 = false →
            (((goS u1 (fcopyS u2) [] false ([] : List (Key × Bool)) false 0 (gnewS u0).1 ([] : List Line)).2.1 = true →
              (K (([] : List Line), 2))) ∧
            ((goS u1 (fcopyS u2) [] false ([] : List (Key × Bool)) false 0 (gnewS u0).1 ([] : List Line)).2.1 = false →
              (((∀ x ∈ (goS u1 (fcopyS u2) [] false ([] : List (Key × Bool)) false 0 (gnewS u0).1 ([] : List Line)).2.2.2.2, lineR x) ∧ (goS u1 (fcopyS u2) [] false ([] : List (Key × Bool)) false 0 (gnewS u0).1 ([] : List Line)).2.2.2.2.length ≤ 1000000) ∧
              ((sortedS (goS u1 (fcopyS u2) [] false ([] : List (Key × Bool)) false 0 (gnewS u0).1 ([] : List Line)).2.2.2.2).length ≤ 140737488355328 →
              (K ((sortedS (goS u1 (fcopyS u2) [] false ([] : List (Key × Bool)) false 0 (gnewS u0).1 ([] : List Line)).2.2.2.2), 0)))))))))))))))))))))

def gstepf_vc (u0 : Gate) (u1 : Int) (u2 : Int) (u3 : Frame) (K : (Gate × (List Line) × Int) → Prop) : Prop :=
  (u0.Routes.length ≤ 140737488355328 →
    (u0.Last.length ≤ 140737488355328 →
    (u3.Data.length ≤ 140737488355328 →
    ((((gcheckS u0) != 0) = true →
      (K ((⟨[], []⟩ : Gate), ([] : List Line), (gcheckS u0)))) ∧
    (((gcheckS u0) != 0) = false →
      ((((fcheckfr u3) != 0) = true →
        (K ((⟨[], []⟩ : Gate), ([] : List Line), (fcheckfr u3)))) ∧
      (((fcheckfr u3) != 0) = false →
        ((((((decide (u1 < 0)) || (decide (u1 > 1000000))) || (decide (u2 < 0))) || (decide (u2 ≥ 4))) = true →
          (K ((⟨[], []⟩ : Gate), ([] : List Line), 3))) ∧
        (((((decide (u1 < 0)) || (decide (u1 > 1000000))) || (decide (u2 < 0))) || (decide (u2 ≥ 4))) = false →
          (((icontfS u0.Last (fun x0 => step1 x0 u1)) = true →
            (K ((⟨[], []⟩ : Gate), ([] : List Line), 12))) ∧
          ((icontfS u0.Last (fun x0 => step1 x0 u1)) = false →
            ((u0.Routes.length * 56 ≤ 140737488355328) ∧
            ((u0.Last.length * 8 ≤ 140737488355328) ∧
            (∃ inv227 : (List Line) → Int → (List Int) → Prop, ∃ mu227 : (List Line) → Int → (List Int) → Nat, inv227 ([] : List Line) 0 (iclS u0.Last) ∧
            (∀ (x9 : List Line) (x59 : Int) (zao206 : List Int), inv227 x9 x59 zao206 →
            (((decide (x59 < (u0.Routes.length : Int))) = true →
              ((0 ≤ x59 ∧ x59 < (u0.Routes.length : Int)) ∧
              (∀ q258, u0.Routes[x59.toNat]? = some q258 →
              ((fcheckfr u3 = 0 ∧ -536870911 ≤ q258.Add ∧ q258.Add ≤ 536870911) ∧
              ((carryS q258 u2 u3).1.Data.length ≤ 140737488355328 →
              (((!(carryS q258 u2 u3).2) = true →
                (inv227 x9 (w64 (x59 + 1)) zao206 ∧ mu227 x9 (w64 (x59 + 1)) zao206 < mu227 x9 x59 zao206)) ∧
              ((!(carryS q258 u2 u3).2) = false →
                ((0 ≤ x59 ∧ x59 < (u0.Last.length : Int)) ∧
                (∀ q392, u0.Last[x59.toNat]? = some q392 →
                (((decide (q392 ≥ 0)) = true →
                  ((0 ≤ x59 ∧ x59 < (u0.Last.length : Int)) ∧
                  (∀ q434, u0.Last[x59.toNat]? = some q434 →
                  (((decide ((w64 (u1 - q434)) < q258.Every)) = true →
                    (inv227 x9 (w64 (x59 + 1)) zao206 ∧ mu227 x9 (w64 (x59 + 1)) zao206 < mu227 x9 x59 zao206)) ∧
                  ((decide ((w64 (u1 - q434)) < q258.Every)) = false →
                    ((0 ≤ x59 ∧ x59 < (zao206.length : Int)) ∧
                    (((x9.length + 1) * 64 ≤ 140737488355328) ∧
                    (inv227 (x9 ++ [(⟨u1, q258.To, (carryS q258 u2 u3).1⟩ : Line)]) (w64 (x59 + 1)) (zao206.set x59.toNat u1) ∧ mu227 (x9 ++ [(⟨u1, q258.To, (carryS q258 u2 u3).1⟩ : Line)]) (w64 (x59 + 1)) (zao206.set x59.toNat u1) < mu227 x9 x59 zao206)))))))) ∧
                ((decide (q392 ≥ 0)) = false →
                  ((0 ≤ x59 ∧ x59 < (zao206.length : Int)) ∧
                  (((x9.length + 1) * 64 ≤ 140737488355328) ∧
                  (inv227 (x9 ++ [(⟨u1, q258.To, (carryS q258 u2 u3).1⟩ : Line)]) (w64 (x59 + 1)) (zao206.set x59.toNat u1) ∧ mu227 (x9 ++ [(⟨u1, q258.To, (carryS q258 u2 u3).1⟩ : Line)]) (w64 (x59 + 1)) (zao206.set x59.toNat u1) < mu227 x9 x59 zao206)))))))))))))) ∧
            ((decide (x59 < (u0.Routes.length : Int))) = false →
              (K ((⟨(rclS u0.Routes), zao206⟩ : Gate), x9, 0)))))))))))))))))))

/-! Pure proofs: no program in sight. -/
theorem gcheckS_len {g : Gate} (h : gcheckS g = 0) : g.Routes.length ≤ 20 ∧ g.Last.length = g.Routes.length := by
  unfold gcheckS at h
  split at h
  · cases h
  · split at h
    · cases h
    · rename_i h1 h2
      exact ⟨by omega, by simpa using h2⟩
theorem gcheckS_at {g : Gate} (h : gcheckS g = 0) {k : Nat} {r : Route} {t : Int} (hr : g.Routes[k]? = some r) (ht : g.Last[k]? = some t) : rok r t = 0 := by
  have hl := gcheckS_len h
  unfold gcheckS at h
  rw [if_neg (by omega), if_neg (by simp [hl.2])] at h
  exact firstErr_all _ h _ (List.mem_of_getElem? (zip_at rok _ _ k r t hr ht))
theorem rok_zero {r : Route} {t : Int} (h : rok r t = 0) : (0 ≤ r.From ∧ r.From ≤ 3) ∧ (0 ≤ r.To ∧ r.To ≤ 3) ∧ r.From ≠ r.To ∧ (0 ≤ r.Every ∧ r.Every ≤ 1000000) ∧ (-1 ≤ t ∧ t ≤ 1000000) ∧ fcheckS [r.F] = 0 ∧ -536870911 ≤ r.Add ∧ r.Add ≤ 536870911 := by
  unfold rok at h
  split at h
  · cases h
  · split at h
    · rename_i h1 h2; exact absurd h h2
    · split at h
      · cases h
      · rename_i h1 h2 h3
        refine ⟨by omega, by omega, by omega, by omega, by omega, by simpa using h2, by omega, by omega⟩
theorem gcheckS_route {g : Gate} (h : gcheckS g = 0) : ∀ r ∈ g.Routes, ∃ t ∈ g.Last, rok r t = 0 := by
  intro r hr
  obtain ⟨k, hk⟩ := List.mem_iff_getElem?.1 hr
  have hl := gcheckS_len h
  have hlt := (List.getElem?_eq_some_iff.1 hk).1
  have ht := List.getElem?_eq_getElem (l := g.Last) (show k < g.Last.length by omega)
  exact ⟨_, List.mem_of_getElem? ht, gcheckS_at h hk ht⟩
/-- What is told of frames is right. -/
def outR (x : Line) : Prop := (0 ≤ x.Bus ∧ x.Bus ≤ 3) ∧ fcheckfr x.F = 0 ∧ x.Time = 0
theorem outR_line {x : Line} (h : outR x) : lineR x := ⟨h.1, fcheckfr_id29 _ h.2.1⟩
theorem gout_out (t : St) (way : List Key) (to_ : Int) (x : Frame) (ht : ∀ y ∈ t.2.2.2.2, outR y) (hx : fcheckfr x = 0) (hto : 0 ≤ to_ ∧ to_ ≤ 3) : ∀ y ∈ (gout t way to_ x).2.2.2.2, outR y := by
  unfold gout
  split
  · intro y hy
    rcases List.mem_append.1 hy with hy | hy
    · exact ht y hy
    · obtain rfl : y = _ := by simpa using hy
      exact ⟨hto, hx, rfl⟩
  · exact ht
theorem goF_out (rs : List Route) (hr : ∀ r ∈ rs, 0 ≤ r.To ∧ r.To ≤ 3) : ∀ (F : Nat) (bus : Int) (f : Frame) (way : List Key) (s : St), (∀ y ∈ s.2.2.2.2, outR y) → ∀ y ∈ (goF rs F bus f way s).2.2.2.2, outR y
  | 0, _, _, _, s, h => h
  | F + 1, bus, f, way, s, h => by
    unfold goF
    split
    · exact h
    · split
      · exact h
      · split
        · exact h
        · have key : ∀ (l : List Route) (t : St), (∀ r ∈ l, r ∈ rs) → (∀ y ∈ t.2.2.2.2, outR y) → ∀ y ∈ (l.foldl (gstep (goF rs F) bus f (way ++ [kOf bus f])) t).2.2.2.2, outR y := by
            intro l
            induction l with
            | nil => intro t _ ht; exact ht
            | cons r l ih =>
              intro t hl ht
              rw [List.foldl_cons]
              refine ih _ (fun x hx => hl x (by simp [hx])) ?_
              unfold gstep
              split
              · rename_i hc
                exact goF_out rs hr F _ _ _ _ (gout_out t _ _ _ ht (moved_ok r bus f hc).1 (hr r (hl r (by simp))))
              · exact ht
          exact key rs (s.1, s.2.1, s.2.2.1 + 1, s.2.2.2) (fun _ h => h) h
def goAll (l : List Route) (bus : Int) (f : Frame) : St := goS bus f [] false [] false 0 (gnewG l) []
def spreadS (l : List Route) (bus : Int) (f : Frame) : List Line × Int :=
  if gcheckS (gnewG l) ≠ 0 then ([], gcheckS (gnewG l)) else if fcheckfr f ≠ 0 then ([], fcheckfr f) else if bus < 0 ∨ 4 ≤ bus then ([], 3)
  else if (goAll l bus f).1 = true then ([], 13) else if (goAll l bus f).2.1 = true then ([], 2) else (sortedS (goAll l bus f).2.2.2.2, 0)
theorem goAll_facts {l : List Route} {bus : Int} {f : Frame} (h : gcheckS (gnewG l) = 0) (hf : fcheckfr f = 0) : goPre bus f [] false [] false 0 (gnewG l) [] ∧ (∀ x ∈ (goAll l bus f).2.2.2.2, outR x) ∧ (goAll l bus f).2.2.2.2.length ≤ 20020 := by
  have hl : l.length ≤ 20 := (gcheckS_len h).1
  have hR := gcheckS_route h
  refine ⟨⟨by omega, hf, fun r hr => ?_, hl, by simp, by simp⟩, ?_, ?_⟩
  · obtain ⟨t, _, ht⟩ := hR r hr
    exact (rok_zero ht).2.2.2.2.2.2
  · unfold goAll goS
    refine goF_out _ (fun r hr => ?_) _ _ _ _ _ (by simp)
    obtain ⟨t, _, ht⟩ := hR r hr
    exact (rok_zero ht).2.1
  · have hg := goF_grew (gnewG l).Routes hl 1002 bus f [] (false, false, 0, [], [])
    have h1 := hg.out
    have h2 := hg.top ⟨by simp, by simp⟩
    simp only [List.length_nil] at h1
    unfold goAll goS
    omega
theorem gnewS_eq (l : List Route) : (gcheckS (gnewG l) ≠ 0 → gnewS l = (⟨[], []⟩, gcheckS (gnewG l))) ∧ (gcheckS (gnewG l) = 0 → gnewS l = (gnewG l, 0)) := by
  unfold gnewS
  refine ⟨fun h => by rw [if_pos h], fun h => by rw [if_neg (by simp [h])]⟩
theorem spread_ok (l : List Route) (bus : Int) (f : Frame) (h : l.length * 56 ≤ 140737488355328) : spread_vc l bus f (fun r => r = spreadS l bus f) := by
  intro _ hd
  refine ⟨h, fun _ _ => ?_⟩
  have e := gnewS_eq l
  unfold spreadS
  by_cases h0 : gcheckS (gnewG l) = 0
  · rw [e.2 h0]
    refine ⟨fun h1 => absurd h1 (by simp), fun _ => ⟨fun h1 => ?_, fun h1 => ⟨fun h2 => ?_, fun h2 => ?_⟩⟩⟩
    · rw [if_neg (by simp [h0]), if_pos (by simpa using h1)]
    · rw [if_neg (by simp [h0]), if_neg (by simpa using h1), if_pos (by simp at h2; omega)]
    · have hf : fcheckfr f = 0 := by simpa using h1
      have hb : ¬ (bus < 0 ∨ 4 ≤ bus) := by simp at h2; omega
      rw [if_neg (by simp [h0]), if_neg (by simp [hf]), if_neg hb]
      obtain ⟨g1, g2, g3⟩ := goAll_facts (bus := bus) h0 hf
      refine ⟨hd, g1, fun h3 => ?_, fun h3 => ⟨fun h4 => ?_, fun h4 => ⟨⟨fun x hx => outR_line (g2 x hx), by exact Nat.le_trans g3 (by omega)⟩, fun _ => ?_⟩⟩⟩
      · rw [if_pos (show (goAll l bus f).1 = true from h3)]
      · rw [if_neg (show ¬ (goAll l bus f).1 = true by intro h; exact absurd (h.symm.trans h3) (by simp)), if_pos (show (goAll l bus f).2.1 = true from h4)]
      · rw [if_neg (show ¬ (goAll l bus f).1 = true by intro h; exact absurd (h.symm.trans h3) (by simp)), if_neg (show ¬ (goAll l bus f).2.1 = true by intro h; exact absurd (h.symm.trans h4) (by simp))]
        rfl
  · rw [e.1 h0]
    refine ⟨fun _ => by rw [if_pos h0], fun h1 => ?_⟩
    exact absurd (by simpa using h1) h0
/-! ### Step -/
def goes (time bus : Int) (f : Frame) (r : Route) (t : Int) : Bool := (carryS r bus f).2 && !(decide (0 ≤ t) && decide (time - t < r.Every))
def newLast (g : Gate) (time bus : Int) (f : Frame) : List Int := List.zipWith (fun r t => if goes time bus f r t = true then time else t) g.Routes g.Last
def newLines (g : Gate) (time bus : Int) (f : Frame) : List Line := (g.Routes.zip g.Last).filterMap fun x => if goes time bus f x.1 x.2 = true then some ⟨time, x.1.To, (carryS x.1 bus f).1⟩ else none
def gstepS (g : Gate) (time bus : Int) (f : Frame) : Gate × List Line × Int :=
  if gcheckS g ≠ 0 then (⟨[], []⟩, [], gcheckS g) else if fcheckfr f ≠ 0 then (⟨[], []⟩, [], fcheckfr f) else if time < 0 ∨ 1000000 < time ∨ bus < 0 ∨ 4 ≤ bus then (⟨[], []⟩, [], 3)
  else if (g.Last.any fun t => decide (t > time)) = true then (⟨[], []⟩, [], 12) else (⟨g.Routes, newLast g time bus f⟩, newLines g time bus f, 0)
theorem gstepf_ok (g : Gate) (time bus : Int) (f : Frame) : gstepf_vc g time bus f (fun r => r = gstepS g time bus f) := by
  intro hl1 hl2 hl3
  unfold gstepS
  refine ⟨fun h => ?_, fun h => ⟨fun h1 => ?_, fun h1 => ⟨fun h2 => ?_, fun h2 => ⟨fun h3 => ?_, fun h3 => ?_⟩⟩⟩⟩
  · rw [if_pos (by simpa using h)]
  · rw [if_neg (by simpa using h), if_pos (by simpa using h1)]
  · rw [if_neg (by simpa using h), if_neg (by simpa using h1), if_pos (by simp at h2; omega)]
  · rw [if_neg (by simpa using h), if_neg (by simpa using h1), if_neg (by simp at h2; omega)]
    exact (if_pos (show (g.Last.any fun t => decide (t > time)) = true from h3)).symm
  · have h0 : gcheckS g = 0 := by simpa using h
    have hf : fcheckfr f = 0 := by simpa using h1
    have hb : ¬ (time < 0 ∨ 1000000 < time ∨ bus < 0 ∨ 4 ≤ bus) := by simp at h2; omega
    rw [if_neg (by simp [h0]), if_neg (by simp [hf]), if_neg hb]
    have h3' : ¬ (g.Last.any fun t => decide (t > time)) = true := by intro h; exact absurd (h.symm.trans (show (g.Last.any fun t => decide (t > time)) = false from h3)) (by simp)
    simp only [if_neg h3']
    have hlen := gcheckS_len h0
    refine ⟨by omega, by omega, fun o x z => ∃ k : Nat, x = k ∧ k ≤ g.Routes.length ∧ z = (newLast g time bus f).take k ++ g.Last.drop k ∧ o = ((g.Routes.zip g.Last).take k).filterMap (fun x => if goes time bus f x.1 x.2 = true then some ⟨time, x.1.To, (carryS x.1 bus f).1⟩ else none),
      fun _ x _ => g.Routes.length - x.toNat, ⟨0, rfl, Nat.zero_le _, rfl, rfl⟩, ?_⟩
    rintro o _ z ⟨k, rfl, hk, rfl, rfl⟩
    have hnl : (newLast g time bus f).length = g.Routes.length := by unfold newLast; simp; omega
    have hlo : (((g.Routes.zip g.Last).take k).filterMap (fun x => if goes time bus f x.1 x.2 = true then some (⟨time, x.1.To, (carryS x.1 bus f).1⟩ : Line) else none)).length ≤ 20 := by
      refine Nat.le_trans (List.length_filterMap_le _ _) ?_
      simp; omega
    refine ⟨fun h4 => ?_, fun h4 => ?_⟩
    · have h4 : k < g.Routes.length := by simpa using h4
      refine ⟨by omega, fun r hr => ?_⟩
      rw [Int.toNat_natCast] at hr
      have ht := List.getElem?_eq_getElem (l := g.Last) (show k < g.Last.length by omega)
      generalize g.Last[k]'(by omega) = t at ht
      have hok := rok_zero (gcheckS_at h0 hr ht)
      have hz : (g.Routes.zip g.Last)[k]? = some (r, t) := by rw [List.getElem?_zip_eq_some]; exact ⟨hr, ht⟩
      have hn : (newLast g time bus f)[k]? = some (if goes time bus f r t = true then time else t) := zip_at _ _ _ k r t hr ht
      have hd : g.Last.drop k = t :: g.Last.drop (k + 1) := by
        rw [List.drop_eq_getElem_cons (by omega)]
        have := (List.getElem?_eq_some_iff.1 ht).2
        rw [this]
      rw [w64_succ k (by omega)]
      have skip : goes time bus f r t = false → (∃ k' : Nat, ((k + 1 : Nat) : Int) = k' ∧ k' ≤ g.Routes.length ∧ (newLast g time bus f).take k ++ g.Last.drop k = (newLast g time bus f).take k' ++ g.Last.drop k' ∧ ((g.Routes.zip g.Last).take k).filterMap (fun x => if goes time bus f x.1 x.2 = true then some ⟨time, x.1.To, (carryS x.1 bus f).1⟩ else none) = ((g.Routes.zip g.Last).take k').filterMap (fun x => if goes time bus f x.1 x.2 = true then some (⟨time, x.1.To, (carryS x.1 bus f).1⟩ : Line) else none)) := by
        intro hg
        rw [hg] at hn
        refine ⟨k + 1, rfl, h4, ?_, ?_⟩
        · rw [List.take_add_one, hn, hd]
          simp
        · rw [List.take_add_one, hz, List.filterMap_append]
          simp [hg]
      have take : goes time bus f r t = true → (∃ k' : Nat, ((k + 1 : Nat) : Int) = k' ∧ k' ≤ g.Routes.length ∧ ((newLast g time bus f).take k ++ g.Last.drop k).set k time = (newLast g time bus f).take k' ++ g.Last.drop k' ∧ ((g.Routes.zip g.Last).take k).filterMap (fun x => if goes time bus f x.1 x.2 = true then some ⟨time, x.1.To, (carryS x.1 bus f).1⟩ else none) ++ [⟨time, r.To, (carryS r bus f).1⟩] = ((g.Routes.zip g.Last).take k').filterMap (fun x => if goes time bus f x.1 x.2 = true then some (⟨time, x.1.To, (carryS x.1 bus f).1⟩ : Line) else none)) := by
        intro hg
        rw [hg] at hn
        refine ⟨k + 1, rfl, h4, ?_, ?_⟩
        · have hk2 : ((newLast g time bus f).take k).length = k := by rw [List.length_take]; omega
          have := set_mid ((newLast g time bus f).take k) t time (g.Last.drop (k + 1))
          rw [hk2] at this
          rw [hd, this, List.take_add_one, hn]
          simp
        · rw [List.take_add_one, hz, List.filterMap_append]
          simp [hg]
      have dec : g.Routes.length - ((k + 1 : Nat) : Int).toNat < g.Routes.length - (k : Int).toNat := by simp only [Int.toNat_natCast]; omega
      refine ⟨⟨hf, hok.2.2.2.2.2.2⟩, fun _ => ⟨fun h5 => ?_, fun h5 => ?_⟩⟩
      · have h5 : (carryS r bus f).2 = false := by simpa using h5
        exact ⟨skip (by simp [goes, h5]), dec⟩
      · have h5 : (carryS r bus f).2 = true := by simpa using h5
        have hlz : ((newLast g time bus f).take k ++ g.Last.drop k).length = g.Routes.length := by simp; omega
        refine ⟨by omega, fun t1 ht1 => ?_⟩
        rw [Int.toNat_natCast, ht] at ht1
        obtain rfl : t = t1 := by simpa using ht1
        refine ⟨fun h6 => ⟨by omega, fun t2 ht2 => ?_⟩, fun h6 => ?_⟩
        · rw [Int.toNat_natCast, ht] at ht2
          obtain rfl : t = t2 := by simpa using ht2
          rw [w64_eq (time - t) (by omega)]
          refine ⟨fun h7 => ?_, fun h7 => ⟨by rw [hlz]; omega, by omega, ?_⟩⟩
          · exact ⟨skip (by simp at h6 h7; simp [goes, h5, h6, h7]), dec⟩
          · simp only [Int.toNat_natCast]
            exact ⟨take (by simp at h6 h7; simp [goes, h5]; omega), by simpa using dec⟩
        · refine ⟨by rw [hlz]; omega, by omega, ?_⟩
          simp only [Int.toNat_natCast]
          exact ⟨take (by simp at h6; simp [goes, h5]; omega), by simpa using dec⟩
    · have h4 : k = g.Routes.length := by simp at h4; omega
      subst h4
      rw [List.take_of_length_le (by omega), List.drop_eq_nil_of_le (by omega), List.append_nil, List.take_of_length_le (by simp; omega)]
      rfl

end Go.Proofs.Ytmkdnaecmombnaa
set_option linter.unusedVariables false
set_option linter.unusedSimpArgs false
namespace Go.Proofs.Ytmkdnaecmombnaa
open Go.Sy Go.RowKit
def slin1_vc (u0 : Line) (u1 : Line) (K : Bool → Prop) : Prop :=
  (u0.F.Data.length ≤ 140737488355328 →
    (u1.F.Data.length ≤ 140737488355328 →
    (K (((u0.Time == u1.Time) && (u0.Bus == u1.Bus)) && (rsameS u0.F u1.F)))))
def slin1 (u0 : Line) (u1 : Line) : Bool :=
  ((u0.Time == u1.Time) && (u0.Bus == u1.Bus)) && (rsameS u0.F u1.F)
theorem slin1_ok (u0 : Line) (u1 : Line) : slin1_vc u0 u1 (fun r => r = slin1 u0 u1) := (fun _ => (fun _ => (by rfl)))

def leqf_vc (u0 : List Line) (u1 : List Line) (u2 : Line → Line → Bool) (K : Bool → Prop) : Prop :=
  (u0.length ≤ 140737488355328 →
    (u1.length ≤ 140737488355328 →
    ((((u0.length : Int) != (u1.length : Int)) = true →
      (K false)) ∧
    (((u0.length : Int) != (u1.length : Int)) = false →
      (∃ inv41 : Int → Prop, ∃ mu41 : Int → Nat, inv41 0 ∧
      (∀ (x17 : Int), inv41 x17 →
      (((decide (x17 < (u0.length : Int))) = true →
        ((0 ≤ x17 ∧ x17 < (u0.length : Int)) ∧
        (∀ q67, u0[x17.toNat]? = some q67 →
        (q67.F.Data.length ≤ 140737488355328 →
        ((0 ≤ x17 ∧ x17 < (u1.length : Int)) ∧
        (∀ q100, u1[x17.toNat]? = some q100 →
        (q100.F.Data.length ≤ 140737488355328 →
        (((!(u2 q67 q100)) = true →
          (K false)) ∧
        ((!(u2 q67 q100)) = false →
          (inv41 (w64 (x17 + 1)) ∧ mu41 (w64 (x17 + 1)) < mu41 x17)))))))))) ∧
      ((decide (x17 < (u0.length : Int))) = false →
        (K true)))))))))

def RStep1_vc (u0 : Int) (u1 : Int) (K : Bool → Prop) : Prop :=
  (K (decide (u0 > u1)))
def RStep1 (u0 : Int) (u1 : Int) : Bool :=
  decide (u0 > u1)
theorem RStep1_ok (u0 : Int) (u1 : Int) : RStep1_vc u0 u1 (fun r => r = RStep1 u0 u1) := (by rfl)

def routed_vc  (K : Bool → Prop) : Prop :=
  ((([(⟨0, 1, (⟨0, 0, false⟩ : Filter), 2, 0⟩ : Route)] : List Route).length * 56 ≤ 140737488355328) ∧
    ((spreadS ([(⟨0, 1, (⟨0, 0, false⟩ : Filter), 2, 0⟩ : Route)] : List Route) 0 (⟨5, false, false, false, 0, []⟩ : Frame)).1.length ≤ 140737488355328 →
    ((([(⟨0, 1, (⟨0, 0, false⟩ : Filter), 2, 0⟩ : Route)] : List Route).length * 56 ≤ 140737488355328) ∧
    ((gnewS ([(⟨0, 1, (⟨0, 0, false⟩ : Filter), 2, 0⟩ : Route)] : List Route)).1.Routes.length ≤ 140737488355328 →
    ((gnewS ([(⟨0, 1, (⟨0, 0, false⟩ : Filter), 2, 0⟩ : Route)] : List Route)).1.Last.length ≤ 140737488355328 →
    ((gstepS (gnewS ([(⟨0, 1, (⟨0, 0, false⟩ : Filter), 2, 0⟩ : Route)] : List Route)).1 9 0 (⟨5, false, false, false, 0, []⟩ : Frame)).2.1.length ≤ 140737488355328 →
    ((gstepS (gnewS ([(⟨0, 1, (⟨0, 0, false⟩ : Filter), 2, 0⟩ : Route)] : List Route)).1 9 0 (⟨5, false, false, false, 0, []⟩ : Frame)).1.Routes.length ≤ 140737488355328 →
    ((gstepS (gnewS ([(⟨0, 1, (⟨0, 0, false⟩ : Filter), 2, 0⟩ : Route)] : List Route)).1 9 0 (⟨5, false, false, false, 0, []⟩ : Frame)).1.Last.length ≤ 140737488355328 →
    (((((((spreadS ([(⟨0, 1, (⟨0, 0, false⟩ : Filter), 2, 0⟩ : Route)] : List Route) 0 (⟨5, false, false, false, 0, []⟩ : Frame)).2 == 0) && ((gnewS ([(⟨0, 1, (⟨0, 0, false⟩ : Filter), 2, 0⟩ : Route)] : List Route)).2 == 0)) && ((gstepS (gnewS ([(⟨0, 1, (⟨0, 0, false⟩ : Filter), 2, 0⟩ : Route)] : List Route)).1 9 0 (⟨5, false, false, false, 0, []⟩ : Frame)).2.2 == 0)) && (((spreadS ([(⟨0, 1, (⟨0, 0, false⟩ : Filter), 2, 0⟩ : Route)] : List Route) 0 (⟨5, false, false, false, 0, []⟩ : Frame)).1.length : Int) == 1)) = true →
      ((0 ≤ (0 : Int) ∧ (0 : Int) < ((spreadS ([(⟨0, 1, (⟨0, 0, false⟩ : Filter), 2, 0⟩ : Route)] : List Route) 0 (⟨5, false, false, false, 0, []⟩ : Frame)).1.length : Int)) ∧
      (∀ q183, (spreadS ([(⟨0, 1, (⟨0, 0, false⟩ : Filter), 2, 0⟩ : Route)] : List Route) 0 (⟨5, false, false, false, 0, []⟩ : Frame)).1[(0 : Int).toNat]? = some q183 →
      (q183.F.Data.length ≤ 140737488355328 →
      ((((q183.F.ID == 7) && (((gstepS (gnewS ([(⟨0, 1, (⟨0, 0, false⟩ : Filter), 2, 0⟩ : Route)] : List Route)).1 9 0 (⟨5, false, false, false, 0, []⟩ : Frame)).2.1.length : Int) == 1)) = true →
        ((0 ≤ (0 : Int) ∧ (0 : Int) < ((gstepS (gnewS ([(⟨0, 1, (⟨0, 0, false⟩ : Filter), 2, 0⟩ : Route)] : List Route)).1 9 0 (⟨5, false, false, false, 0, []⟩ : Frame)).2.1.length : Int)) ∧
        (∀ q225, (gstepS (gnewS ([(⟨0, 1, (⟨0, 0, false⟩ : Filter), 2, 0⟩ : Route)] : List Route)).1 9 0 (⟨5, false, false, false, 0, []⟩ : Frame)).2.1[(0 : Int).toNat]? = some q225 →
        (q225.F.Data.length ≤ 140737488355328 →
        (((q225.Time == 9) = true →
          ((0 ≤ (0 : Int) ∧ (0 : Int) < ((gstepS (gnewS ([(⟨0, 1, (⟨0, 0, false⟩ : Filter), 2, 0⟩ : Route)] : List Route)).1 9 0 (⟨5, false, false, false, 0, []⟩ : Frame)).2.1.length : Int)) ∧
          (∀ q256, (gstepS (gnewS ([(⟨0, 1, (⟨0, 0, false⟩ : Filter), 2, 0⟩ : Route)] : List Route)).1 9 0 (⟨5, false, false, false, 0, []⟩ : Frame)).2.1[(0 : Int).toNat]? = some q256 →
          (q256.F.Data.length ≤ 140737488355328 →
          (K (q256.Bus == 1)))))) ∧
        ((q225.Time == 9) = false →
          (K false))))))) ∧
      (((q183.F.ID == 7) && (((gstepS (gnewS ([(⟨0, 1, (⟨0, 0, false⟩ : Filter), 2, 0⟩ : Route)] : List Route)).1 9 0 (⟨5, false, false, false, 0, []⟩ : Frame)).2.1.length : Int) == 1)) = false →
        (K false))))))) ∧
    ((((((spreadS ([(⟨0, 1, (⟨0, 0, false⟩ : Filter), 2, 0⟩ : Route)] : List Route) 0 (⟨5, false, false, false, 0, []⟩ : Frame)).2 == 0) && ((gnewS ([(⟨0, 1, (⟨0, 0, false⟩ : Filter), 2, 0⟩ : Route)] : List Route)).2 == 0)) && ((gstepS (gnewS ([(⟨0, 1, (⟨0, 0, false⟩ : Filter), 2, 0⟩ : Route)] : List Route)).1 9 0 (⟨5, false, false, false, 0, []⟩ : Frame)).2.2 == 0)) && (((spreadS ([(⟨0, 1, (⟨0, 0, false⟩ : Filter), 2, 0⟩ : Route)] : List Route) 0 (⟨5, false, false, false, 0, []⟩ : Frame)).1.length : Int) == 1)) = false →
      (K false)))))))))))

/-! Pure proofs: no program in sight. -/
theorem routed_spread : spreadS [⟨0, 1, ⟨0, 0, false⟩, 2, 0⟩] 0 ⟨5, false, false, false, 0, []⟩ = ([⟨0, 1, ⟨7, false, false, false, 0, []⟩⟩], 0) := by decide +kernel
theorem routed_new : gnewS [⟨0, 1, ⟨0, 0, false⟩, 2, 0⟩] = (⟨[⟨0, 1, ⟨0, 0, false⟩, 2, 0⟩], [-1]⟩, 0) := by decide +kernel
theorem routed_step : gstepS ⟨[⟨0, 1, ⟨0, 0, false⟩, 2, 0⟩], [-1]⟩ 9 0 ⟨5, false, false, false, 0, []⟩ = (⟨[⟨0, 1, ⟨0, 0, false⟩, 2, 0⟩], [9]⟩, [⟨9, 1, ⟨7, false, false, false, 0, []⟩⟩], 0) := by decide +kernel
theorem routed_ok : routed_vc (fun r => r = true) := by
  unfold routed_vc
  rw [routed_spread, routed_new, routed_step]
  refine ⟨by simp, fun _ => ⟨by simp, fun _ _ _ _ _ => ⟨fun _ => ⟨by simp, fun q hq _ => ?_⟩, fun h => by simp at h⟩⟩⟩
  obtain rfl : _ = q := by simpa using hq
  refine ⟨fun _ => ⟨by simp, fun q2 hq2 _ => ?_⟩, fun h => by simp at h⟩
  obtain rfl : _ = q2 := by simpa using hq2
  refine ⟨fun _ => ⟨by simp, fun q3 hq3 _ => ?_⟩, fun h => by simp at h⟩
  obtain rfl : _ = q3 := by simpa using hq3
  rfl
end Go.Proofs.Ytmkdnaecmombnaa
set_option linter.unusedVariables false
set_option linter.unusedSimpArgs false
namespace Go.Proofs.Ytmkdnaecmombnaa
open Go.Sy Go.RowKit

/-! Pure proofs: no program in sight. -/

end Go.Proofs.Ytmkdnaecmombnaa
set_option linter.unusedVariables false
set_option linter.unusedSimpArgs false
namespace Go.Proofs.Ytmkdnaecmombnaa
open Go.Sy Go.RowKit
structure Spot where
  bus : Int
  id : Int
  deriving DecidableEq, Inhabited
def Spot.enc (x : Spot) : List Value := [.int .i64 x.bus, .int .i64 x.id]
def LGoes_vc (u0 : List Route) (u1 : Int) (u2 : Frame) (K : Bool → Prop) : Prop :=
  (u0.length ≤ 140737488355328 →
    (u2.Data.length ≤ 140737488355328 →
    (∃ inv25 : Int → Prop, ∃ mu25 : Int → Nat, inv25 0 ∧
    (∀ (x22 : Int), inv25 x22 →
    (((decide (x22 < (u0.length : Int))) = true →
      ((0 ≤ x22 ∧ x22 < (u0.length : Int)) ∧
      (∀ q58, u0[x22.toNat]? = some q58 →
      (((q58.Every != 0) = true →
        (K true)) ∧
      ((q58.Every != 0) = false →
        (inv25 (w64 (x22 + 1)) ∧ mu25 (w64 (x22 + 1)) < mu25 x22)))))) ∧
    ((decide (x22 < (u0.length : Int))) = false →
      ((u0.length * 56 ≤ 140737488355328) ∧
      ((spreadS u0 u1 u2).1.length ≤ 140737488355328 →
      ((u0.length * 56 ≤ 140737488355328) ∧
      ((gnewS u0).1.Routes.length ≤ 140737488355328 →
      ((gnewS u0).1.Last.length ≤ 140737488355328 →
      (((((spreadS u0 u1 u2).2 != 0) || ((gnewS u0).2 != 0)) = true →
        (K true)) ∧
      ((((spreadS u0 u1 u2).2 != 0) || ((gnewS u0).2 != 0)) = false →
        (∃ inv210 : (List Line) → (List (Spot × Bool)) → Prop, ∃ mu210 : (List Line) → (List (Spot × Bool)) → Nat, inv210 ([(⟨0, u1, u2⟩ : Line)] : List Line) ([] : List (Spot × Bool)) ∧
        (∀ (x13 : List Line) (mb187 : List (Spot × Bool)), inv210 x13 mb187 →
        (((decide ((x13.length : Int) > 0)) = true →
          ((0 ≤ (0 : Int) ∧ (0 : Int) < (x13.length : Int)) ∧
          (∀ q246, x13[(0 : Int).toNat]? = some q246 →
          (q246.F.Data.length ≤ 140737488355328 →
          ((0 ≤ (1 : Int) ∧ (1 : Int) ≤ (x13.length : Int)) ∧
          ((((mget mb187 (⟨q246.Bus, q246.F.ID⟩ : Spot)).getD (false : Bool)) = true →
            (inv210 (x13.drop (1 : Int).toNat) mb187 ∧ mu210 (x13.drop (1 : Int).toNat) mb187 < mu210 x13 mb187)) ∧
          (((mget mb187 (⟨q246.Bus, q246.F.ID⟩ : Spot)).getD (false : Bool)) = false →
            ((gstepS (gnewS u0).1 0 q246.Bus q246.F).2.1.length ≤ 140737488355328 →
            ((gstepS (gnewS u0).1 0 q246.Bus q246.F).1.Routes.length ≤ 140737488355328 →
            ((gstepS (gnewS u0).1 0 q246.Bus q246.F).1.Last.length ≤ 140737488355328 →
            ((((gstepS (gnewS u0).1 0 q246.Bus q246.F).2.2 != 0) = true →
              (K false)) ∧
            (((gstepS (gnewS u0).1 0 q246.Bus q246.F).2.2 != 0) = false →
              ((((x13.drop (1 : Int).toNat).length + (gstepS (gnewS u0).1 0 q246.Bus q246.F).2.1.length) * 64 ≤ 140737488355328) ∧
              (inv210 ((x13.drop (1 : Int).toNat) ++ (gstepS (gnewS u0).1 0 q246.Bus q246.F).2.1) (mput mb187 (⟨q246.Bus, q246.F.ID⟩ : Spot) true) ∧ mu210 ((x13.drop (1 : Int).toNat) ++ (gstepS (gnewS u0).1 0 q246.Bus q246.F).2.1) (mput mb187 (⟨q246.Bus, q246.F.ID⟩ : Spot) true) < mu210 x13 mb187)))))))))))))) ∧
        ((decide ((x13.length : Int) > 0)) = false →
          (∃ inv403 : Int → Prop, ∃ mu403 : Int → Nat, inv403 0 ∧
          (∀ (x101 : Int), inv403 x101 →
          (((decide (x101 < ((spreadS u0 u1 u2).1.length : Int))) = true →
            ((0 ≤ x101 ∧ x101 < ((spreadS u0 u1 u2).1.length : Int)) ∧
            (∀ q428, (spreadS u0 u1 u2).1[x101.toNat]? = some q428 →
            (q428.F.Data.length ≤ 140737488355328 →
            (((!((mget mb187 (⟨q428.Bus, q428.F.ID⟩ : Spot)).getD (false : Bool))) = true →
              (K false)) ∧
            ((!((mget mb187 (⟨q428.Bus, q428.F.ID⟩ : Spot)).getD (false : Bool))) = false →
              (inv403 (w64 (x101 + 1)) ∧ mu403 (w64 (x101 + 1)) < mu403 x101))))))) ∧
          ((decide (x101 < ((spreadS u0 u1 u2).1.length : Int))) = false →
            (K ((mb187.length : Int) == (w64 (((spreadS u0 u1 u2).1.length : Int) + 1)))))))))))))))))))))))))

/-! Pure proofs: no program in sight. -/
/-! ### The walk through all frames on buses, in depth first -/
/-- A frame with another number. -/
def fr (f : Frame) (id : Int) : Frame := ⟨id, f.Long, f.Fast, f.Remote, f.Size, f.Data⟩
/-- From a frame on a bus a route carries another one. -/
def Ed (rs : List Route) (f : Frame) (x y : Key) : Prop := ∃ r ∈ rs, (carryS r x.bus (fr f x.id)).2 = true ∧ y = ⟨r.To, x.id + r.Add, f.Long⟩
inductive Reach (R : Key → Key → Prop) (a : Key) : Key → Prop
  | refl : Reach R a a
  | step {b c : Key} : Reach R a b → R b c → Reach R a c
theorem Reach.trans {R : Key → Key → Prop} {a b c : Key} (h : Reach R a b) (k : Reach R b c) : Reach R a c := by
  induction k with
  | refl => exact h
  | step _ e ih => exact ih.step e
theorem Reach.head {R : Key → Key → Prop} {a b c : Key} (h : R a b) (k : Reach R b c) : Reach R a c := Reach.trans (Reach.refl.step h) k
theorem Reach.mono {R Q : Key → Key → Prop} (hq : ∀ x y, R x y → Q x y) {a b : Key} (h : Reach R a b) : Reach Q a b := by
  induction h with
  | refl => exact .refl
  | step _ e ih => exact ih.step (hq _ _ e)
def lineOf (f : Frame) (y : Key) : Line := ⟨0, y.bus, fr f y.id⟩
def doneK (t : St) : List Key := t.2.2.2.1.map (·.1)
def doneT (t : St) : Prop := ∀ x ∈ t.2.2.2.1, x.2 = true
theorem mget_done : ∀ {m : List (Key × Bool)} (_ : ∀ x ∈ m, x.2 = true) (k : Key), (mget m k).getD false = decide (k ∈ m.map (·.1))
  | [], _, k => by simp [mget]
  | x :: r, h, k => by
    have ih := mget_done (m := r) (fun y hy => h y (by simp [hy])) k
    unfold mget at ih ⊢
    by_cases hk : k = x.1
    · simp [hk, h x (by simp)]
    · rw [List.find?_cons, decide_eq_false hk]
      simp only [ih, List.map_cons, List.mem_cons, hk, false_or]
theorem mput_new {κ ν : Type} [DecidableEq κ] : ∀ {m : List (κ × ν)} {k : κ} {v : ν}, k ∉ m.map (·.1) → mput m k v = m ++ [(k, v)]
  | [], _, _, _ => rfl
  | x :: r, k, v, h => by
    simp only [List.map_cons, List.mem_cons, not_or] at h
    rw [mput, if_neg h.1, mput_new h.2]
    rfl
theorem kcont_iff (l : List Key) (k : Key) : kcontainsS l k = true ↔ k ∈ l := by
  unfold kcontainsS
  simp
structure Run (R : Key → Key → Prop) (f : Frame) (s t : St) (new : List Key) (ol : List Line) : Prop where
  done : doneK t = doneK s ++ new
  tt : doneT t
  out : t.2.2.2.2 = s.2.2.2.2 ++ ol
  n : t.2.2.1 = s.2.2.1 + new.length
  topo : ∀ A x B, new = A ++ x :: B → ∀ y, R x y → y ∈ doneK s ++ A
  nd : (doneK t).Nodup
  lines : ∀ z ∈ ol, ∃ y ∈ new, z = lineOf f y
theorem Run.refl {R : Key → Key → Prop} {f : Frame} {s : St} (h : doneT s) (hn : (doneK s).Nodup) : Run R f s s [] [] :=
  ⟨by simp, h, by simp, by simp, fun A x B e => by simp at e, hn, by simp⟩
theorem split_app {α : Type} {n1 n2 A B : List α} {x : α} (h : n1 ++ n2 = A ++ x :: B) : (∃ B', n1 = A ++ x :: B') ∨ ∃ A', A = n1 ++ A' ∧ n2 = A' ++ x :: B := by
  rcases List.append_eq_append_iff.1 h with ⟨c, h1, h2⟩ | ⟨c, h1, h2⟩
  · exact .inr ⟨c, h1, h2⟩
  · cases c with
    | nil => exact .inr ⟨[], by simpa using h1.symm, by simpa using h2.symm⟩
    | cons y c =>
      simp only [List.cons_append, List.cons.injEq] at h2
      obtain ⟨rfl, h2⟩ := h2
      exact .inl ⟨c, h1⟩
theorem Run.trans {R : Key → Key → Prop} {f : Frame} {s t u : St} {n1 n2 : List Key} {o1 o2 : List Line} (h : Run R f s t n1 o1) (k : Run R f t u n2 o2) : Run R f s u (n1 ++ n2) (o1 ++ o2) := by
  refine ⟨by rw [k.done, h.done, List.append_assoc], k.tt, by rw [k.out, h.out, List.append_assoc], by rw [k.n, h.n, List.length_append]; omega, fun A x B e y hy => ?_, k.nd, fun z hz => ?_⟩
  · rcases split_app e with ⟨B', e1⟩ | ⟨A', rfl, e2⟩
    · exact h.topo A x B' e1 y hy
    · have := k.topo A' x B e2 y hy
      rw [h.done, List.append_assoc] at this
      exact this
  · rcases List.mem_append.1 hz with hz | hz
    · obtain ⟨y, h1, h2⟩ := h.lines z hz; exact ⟨y, by simp [h1], h2⟩
    · obtain ⟨y, h1, h2⟩ := k.lines z hz; exact ⟨y, by simp [h1], h2⟩
/-- What is told once stays told. -/
theorem gstep_flags {go : Int → Frame → List Key → St → St} (hgo : ∀ b f w s, (s.1 = true → (go b f w s).1 = true) ∧ (s.2.1 = true → (go b f w s).2.1 = true)) (bus : Int) (f : Frame) (way : List Key) (t : St) (r : Route) :
    (t.1 = true → (gstep go bus f way t r).1 = true) ∧ (t.2.1 = true → (gstep go bus f way t r).2.1 = true) := by
  unfold gstep
  split
  · have h := hgo r.To (carryS r bus f).1 way (gout t way r.To (carryS r bus f).1)
    have e : (gout t way r.To (carryS r bus f).1).1 = t.1 := by unfold gout; split <;> rfl
    rw [e, (gout_n t way r.To (carryS r bus f).1).2.1] at h
    exact h
  · exact ⟨id, id⟩
theorem gfold_flags {go : Int → Frame → List Key → St → St} (hgo : ∀ b f w s, (s.1 = true → (go b f w s).1 = true) ∧ (s.2.1 = true → (go b f w s).2.1 = true)) (bus : Int) (f : Frame) (way : List Key) : ∀ (rs : List Route) (t : St),
    (t.1 = true → (rs.foldl (gstep go bus f way) t).1 = true) ∧ (t.2.1 = true → (rs.foldl (gstep go bus f way) t).2.1 = true)
  | [], t => ⟨id, id⟩
  | r :: rs, t => by
    have h1 := gstep_flags hgo bus f way t r
    have h2 := gfold_flags hgo bus f way rs (gstep go bus f way t r)
    exact ⟨fun h => h2.1 (h1.1 h), fun h => h2.2 (h1.2 h)⟩
theorem goF_flags (rs : List Route) : ∀ (F : Nat) (bus : Int) (f : Frame) (way : List Key) (s : St), (s.1 = true → (goF rs F bus f way s).1 = true) ∧ (s.2.1 = true → (goF rs F bus f way s).2.1 = true)
  | 0, _, _, _, _ => ⟨id, id⟩
  | F + 1, bus, f, way, s => by
    unfold goF
    split
    · exact ⟨fun _ => rfl, id⟩
    · split
      · exact ⟨id, id⟩
      · split
        · exact ⟨id, fun _ => rfl⟩
        · exact gfold_flags (goF_flags rs F) bus f (way ++ [kOf bus f]) rs (s.1, s.2.1, s.2.2.1 + 1, s.2.2.2)
theorem carry_fr {r : Route} {k : Key} {f : Frame} (h : (carryS r k.bus (fr f k.id)).2 = true) : (carryS r k.bus (fr f k.id)).1 = fr f (k.id + r.Add) := (moved_ok r k.bus (fr f k.id) h).2.1
theorem kOf_fr {k : Key} {f : Frame} (h : k.long = f.Long) : kOf k.bus (fr f k.id) = k := by
  obtain ⟨a, b, c⟩ := k
  simp only at h
  subst h
  rfl
/-- A call that tells neither a round nor too many. -/
def Good (rs : List Route) (f : Frame) (F : Nat) : Prop := ∀ (k : Key) (way : List Key) (s : St), k.long = f.Long → (1001 - s.2.2.1).toNat < F → doneT s → (doneK s).Nodup →
  (goF rs F k.bus (fr f k.id) way s).1 = false → (goF rs F k.bus (fr f k.id) way s).2.1 = false →
  ∃ new ol, Run (Ed rs f) f s (goF rs F k.bus (fr f k.id) way s) new ol ∧ (∀ x ∈ new, Reach (Ed rs f) k x ∧ x ∉ way) ∧ (∀ x ∈ new, x ≠ k → lineOf f x ∈ ol) ∧ k ∈ doneK (goF rs F k.bus (fr f k.id) way s) ∧ ∀ z ∈ ol, ∃ y ∈ new, y ≠ k ∧ z = lineOf f y
theorem fold_run {rs : List Route} (hl : rs.length ≤ 20) {f : Frame} {F : Nat} (hG : Good rs f F) (k : Key) (way : List Key) : ∀ (l : List Route) (s : St), (∀ r ∈ l, r ∈ rs) → (1001 - s.2.2.1).toNat < F → doneT s → (doneK s).Nodup →
    (l.foldl (gstep (goF rs F) k.bus (fr f k.id) way) s).1 = false → (l.foldl (gstep (goF rs F) k.bus (fr f k.id) way) s).2.1 = false →
    ∃ new ol, Run (Ed rs f) f s (l.foldl (gstep (goF rs F) k.bus (fr f k.id) way) s) new ol ∧ (∀ x ∈ new, (∃ y, Ed rs f k y ∧ Reach (Ed rs f) y x) ∧ x ∉ way) ∧ (∀ x ∈ new, lineOf f x ∈ ol) ∧
      ∀ r ∈ l, (carryS r k.bus (fr f k.id)).2 = true → (⟨r.To, k.id + r.Add, f.Long⟩ : Key) ∈ doneK (l.foldl (gstep (goF rs F) k.bus (fr f k.id) way) s)
  | [], s, _, _, h3, h4, _, _ => ⟨[], [], Run.refl h3 h4, by simp, by simp, by simp⟩
  | r :: l, s, hrs, hm, h3, h4, h5, h6 => by
    rw [List.foldl_cons] at h5 h6 ⊢
    by_cases hc : (carryS r k.bus (fr f k.id)).2 = true
    · have hx := carry_fr hc
      have hst : gstep (goF rs F) k.bus (fr f k.id) way s r = goF rs F r.To (fr f (k.id + r.Add)) way (gout s way r.To (fr f (k.id + r.Add))) := by
        unfold gstep; rw [if_pos hc, hx]
      rw [hst] at h5 h6 ⊢
      generalize hto : (⟨r.To, k.id + r.Add, f.Long⟩ : Key) = to_
      have hb : r.To = to_.bus := by rw [← hto]
      have hi : k.id + r.Add = to_.id := by rw [← hto]
      have hL : to_.long = f.Long := by rw [← hto]
      have hE : Ed rs f k to_ := ⟨r, hrs r (by simp), hc, hto.symm⟩
      rw [hb, hi] at h5 h6 ⊢
      have hgo := gout_n s way to_.bus (fr f to_.id)
      have hd0 : (gout s way to_.bus (fr f to_.id)).2.2.2.1 = s.2.2.2.1 := by unfold gout; split <;> rfl
      have hdK : doneK (gout s way to_.bus (fr f to_.id)) = doneK s := by unfold doneK; rw [hd0]
      have hdT : doneT (gout s way to_.bus (fr f to_.id)) := by unfold doneT; rw [hd0]; exact h3
      generalize hs0 : gout s way to_.bus (fr f to_.id) = s0 at *
      have fl := gfold_flags (goF_flags rs F) k.bus (fr f k.id) way l (goF rs F to_.bus (fr f to_.id) way s0)
      have h5a : (goF rs F to_.bus (fr f to_.id) way s0).1 = false := by
        cases e : (goF rs F to_.bus (fr f to_.id) way s0).1 with
        | false => rfl
        | true => rw [fl.1 e] at h5; cases h5
      have h6a : (goF rs F to_.bus (fr f to_.id) way s0).2.1 = false := by
        cases e : (goF rs F to_.bus (fr f to_.id) way s0).2.1 with
        | false => rfl
        | true => rw [fl.2 e] at h6; cases h6
      obtain ⟨n1, o1, r1, r2, r3, r4, r5⟩ := hG to_ way s0 hL (by rw [hgo.1]; exact hm) hdT (by rw [hdK]; exact h4) h5a h6a
      have hgrew := (goF_grew rs hl F to_.bus (fr f to_.id) way s0).n
      generalize hs1 : goF rs F to_.bus (fr f to_.id) way s0 = s1 at *
      -- from s on
      have hfirst : ∃ o1', Run (Ed rs f) f s s1 n1 o1' ∧ ∀ x ∈ n1, lineOf f x ∈ o1' := by
        by_cases hfr : fresh s way (kOf to_.bus (fr f to_.id)) = true
        · have e0 : s0 = (s.1, s.2.1, s.2.2.1, s.2.2.2.1, s.2.2.2.2 ++ [lineOf f to_]) := by
            rw [← hs0]; unfold gout; rw [if_pos hfr]; rfl
          have hnot : to_ ∉ doneK s := by
            rw [kOf_fr hL] at hfr
            unfold fresh at hfr
            simp only [Bool.and_eq_true, Bool.not_eq_true', mget_done h3] at hfr
            simpa [doneK] using hfr.1
          have hto1 : to_ ∈ n1 := by
            have := r4
            rw [r1.done, hdK] at this
            rcases List.mem_append.1 this with h | h
            · exact absurd h hnot
            · exact h
          refine ⟨lineOf f to_ :: o1, ⟨by rw [r1.done, hdK], r1.tt, ?_, by rw [r1.n, hgo.1], fun A x B e y hy => by have := r1.topo A x B e y hy; rwa [hdK] at this, r1.nd, fun z hz => ?_⟩, fun x hx => ?_⟩
          · rw [r1.out, e0]; simp
          · rcases List.mem_cons.1 hz with rfl | hz
            · exact ⟨to_, hto1, rfl⟩
            · exact r1.lines z hz
          · by_cases hxe : x = to_
            · rw [hxe]; simp
            · exact List.mem_cons_of_mem _ (r3 x hx hxe)
        · have e0 : s0 = s := by rw [← hs0]; unfold gout; rw [if_neg hfr]
          subst e0
          refine ⟨o1, r1, fun x hx => r3 x hx ?_⟩
          rintro rfl
          -- it is told already: else it is on the way, and that is a round
          rw [kOf_fr hL] at hfr
          have hin : x ∈ doneK s0 ∨ x ∈ way := by
            unfold fresh at hfr
            simp only [Bool.and_eq_true, Bool.not_eq_true', mget_done h3, not_and, Bool.not_eq_false] at hfr
            by_cases hd : x ∈ doneK s0
            · exact .inl hd
            · exact .inr ((kcont_iff _ _).1 (hfr (by simpa [doneK] using hd)))
          rcases hin with hin | hin
          · have := r1.nd
            rw [r1.done] at this
            exact (List.nodup_append.1 this).2.2 x hin x hx rfl
          · exact (r2 x hx).2 hin
      obtain ⟨o1', q1, q2⟩ := hfirst
      have hm2 : (1001 - s1.2.2.1).toNat < F := by have := hgo.1; omega
      obtain ⟨n2, o2, p1, p2, p3, p4⟩ := fold_run hl hG k way l s1 (fun x hx => hrs x (by simp [hx])) hm2 r1.tt r1.nd h5 h6
      refine ⟨n1 ++ n2, o1' ++ o2, q1.trans p1, fun x hx => ?_, fun x hx => ?_, fun r' hr' hc' => ?_⟩
      · rcases List.mem_append.1 hx with hx | hx
        · exact ⟨⟨to_, hE, (r2 x hx).1⟩, (r2 x hx).2⟩
        · exact p2 x hx
      · rcases List.mem_append.1 hx with hx | hx
        · simp [q2 x hx]
        · simp [p3 x hx]
      · rcases List.mem_cons.1 hr' with rfl | hr'
        · rw [hto, p1.done]
          exact List.mem_append.2 (.inl r4)
        · exact p4 r' hr' hc'
    · have hst : gstep (goF rs F) k.bus (fr f k.id) way s r = s := by unfold gstep; rw [if_neg hc]
      rw [hst] at h5 h6 ⊢
      obtain ⟨n2, o2, p1, p2, p3, p4⟩ := fold_run hl hG k way l s (fun x hx => hrs x (by simp [hx])) hm h3 h4 h5 h6
      refine ⟨n2, o2, p1, p2, p3, fun r' hr' hc' => ?_⟩
      rcases List.mem_cons.1 hr' with rfl | hr'
      · exact absurd hc' hc
      · exact p4 r' hr' hc'
theorem goF_run {rs : List Route} (hl : rs.length ≤ 20) (f : Frame) : ∀ F, Good rs f F
  | 0 => fun k way s _ h => by omega
  | F + 1 => by
    intro k way s hL hm h3 h4 h5 h6
    have hk : kOf k.bus (fr f k.id) = k := kOf_fr hL
    rw [goF, hk] at h5 h6 ⊢
    split at h5
    · simp at h5
    · rename_i hw
      rw [if_neg hw] at h6 ⊢
      split at h5
      · rename_i hd
        rw [if_pos hd] at h6 ⊢
        have hd : (mget s.2.2.2.1 k).getD false = true := by
          cases e : (mget s.2.2.2.1 k).getD false with
          | true => rfl
          | false => rw [e, h6] at hd; simp at hd
        rw [mget_done h3] at hd
        exact ⟨[], [], Run.refl h3 h4, by simp, by simp, by simpa [doneK] using hd, by simp⟩
      · rename_i hd
        rw [if_neg hd] at h6 ⊢
        split at h5
        · rename_i hb
          rw [if_pos hb] at h6
          simp at h6
        · rename_i hb
          rw [if_neg hb] at h6 ⊢
          have hkd : k ∉ doneK s := by
            simp only [Bool.or_eq_true, not_or, mget_done h3, decide_eq_true_eq] at hd
            exact hd.1
          obtain ⟨new, ol, r1, r2, r3, r4⟩ := fold_run hl (goF_run hl f F) k (way ++ [k]) rs (s.1, s.2.1, s.2.2.1 + 1, s.2.2.2) (fun _ h => h) (by simp only []; omega) h3 h4 h5 h6
          generalize rs.foldl (gstep (goF rs F) k.bus (fr f k.id) (way ++ [k])) (s.1, s.2.1, s.2.2.1 + 1, s.2.2.2) = t at *
          have hkt : k ∉ doneK t := by
            rw [r1.done]
            intro h
            rcases List.mem_append.1 h with h | h
            · exact hkd h
            · exact (r2 k h).2 (by simp)
          have hput : mput t.2.2.2.1 k true = t.2.2.2.1 ++ [(k, true)] := mput_new hkt
          have hdk : doneK (t.1, t.2.1, t.2.2.1, mput t.2.2.2.1 k true, t.2.2.2.2) = doneK t ++ [k] := by
            show (mput t.2.2.2.1 k true).map (·.1) = _
            rw [hput, List.map_append]; rfl
          refine ⟨new ++ [k], ol, ⟨?_, ?_, r1.out, ?_, ?_, ?_, ?_⟩, ?_, ?_, ?_, ?_⟩
          · rw [hdk, r1.done, List.append_assoc]; rfl
          · intro x hx
            have hx : x ∈ mput t.2.2.2.1 k true := hx
            rw [hput] at hx
            rcases List.mem_append.1 hx with hx | hx
            · exact r1.tt x hx
            · obtain rfl : x = (k, true) := by simpa using hx
              rfl
          · have := r1.n
            show t.2.2.1 = _
            rw [this, List.length_append]
            simp
            omega
          · intro A x B e y hy
            rcases split_app e with ⟨B', e1⟩ | ⟨A', rfl, e2⟩
            · exact r1.topo A x B' e1 y hy
            · cases A' with
              | nil =>
                simp only [List.nil_append, List.cons.injEq] at e2
                obtain ⟨rfl, _⟩ := e2
                obtain ⟨r, hr, hc, rfl⟩ := hy
                have := r4 r hr hc
                rw [r1.done] at this
                rw [List.append_nil]; exact this
              | cons a A' => simp at e2
          · rw [hdk]
            refine List.nodup_append.2 ⟨r1.nd, by simp, ?_⟩
            intro a ha b hb2 e
            obtain rfl : b = k := by simpa using hb2
            exact hkt (e ▸ ha)
          · intro z hz
            obtain ⟨y, h1, h2⟩ := r1.lines z hz
            exact ⟨y, by simp [h1], h2⟩
          · intro x hx
            rcases List.mem_append.1 hx with hx | hx
            · obtain ⟨⟨y, e1, e2⟩, e3⟩ := r2 x hx
              exact ⟨Reach.head e1 e2, fun h => e3 (by simp [h])⟩
            · obtain rfl : x = k := by simpa using hx
              exact ⟨.refl, fun h => hw ((kcont_iff _ _).2 h)⟩
          · intro x hx hne
            rcases List.mem_append.1 hx with hx | hx
            · exact r3 x hx
            · exact absurd (by simpa using hx) hne
          · rw [hdk]; simp
          · intro z hz
            obtain ⟨y, h1, h2⟩ := r1.lines z hz
            refine ⟨y, by simp [h1], ?_, h2⟩
            rintro rfl
            exact (r2 y h1).2 (by simp)
/-- All that is told where all goes well. -/
structure Told (l : List Route) (bus : Int) (f : Frame) (N : List Key) : Prop where
  nd : N.Nodup
  root : (⟨bus, f.ID, f.Long⟩ : Key) ∈ N
  from_ : ∀ x ∈ N, Reach (Ed l f) ⟨bus, f.ID, f.Long⟩ x
  topo : ∀ A x B, N = A ++ x :: B → ∀ y, Ed l f x y → y ∈ A
  lines : ∀ z, z ∈ (goAll l bus f).2.2.2.2 ↔ ∃ y ∈ N, y ≠ ⟨bus, f.ID, f.Long⟩ ∧ z = lineOf f y
  few : N.length ≤ 1000
theorem Told.all {l : List Route} {bus : Int} {f : Frame} {N : List Key} (h : Told l bus f N) {x : Key} (hx : Reach (Ed l f) ⟨bus, f.ID, f.Long⟩ x) : x ∈ N := by
  induction hx with
  | refl => exact h.root
  | step _ hr ih =>
    obtain ⟨A, B, e⟩ := List.append_of_mem ih
    have := h.topo A _ B e _ hr
    rw [e]; simp [this]
theorem told_ok {l : List Route} {bus : Int} {f : Frame} (hl : l.length ≤ 20) (h1 : (goAll l bus f).1 = false) (h2 : (goAll l bus f).2.1 = false) : ∃ N, Told l bus f N := by
  have hg := goF_run (rs := l) hl f 1002 ⟨bus, f.ID, f.Long⟩ [] (false, false, 0, [], []) rfl (by decide) (fun x hx => by cases hx) (by simp [doneK]) h1 h2
  obtain ⟨new, ol, r1, r2, r3, r4, r5⟩ := hg
  have hd : doneK (goF l 1002 bus (fr f f.ID) [] (false, false, 0, [], [])) = new := by rw [r1.done]; rfl
  have ho : (goAll l bus f).2.2.2.2 = ol := by have := r1.out; rw [List.nil_append] at this; exact this
  have hn := r1.n
  have htop := (goF_grew l hl 1002 bus (fr f f.ID) [] (false, false, 0, [], [])).top ⟨by decide, fun _ => by decide⟩
  refine ⟨new, ⟨by rw [← hd]; exact r1.nd, by rw [← hd]; exact r4, fun x hx => (r2 x hx).1, fun A x B e y hy => by simpa [doneK] using r1.topo A x B e y hy, fun z => ?_, ?_⟩⟩
  · rw [ho]
    constructor
    · exact r5 z
    · rintro ⟨y, hy, hne, rfl⟩
      exact r3 y hy hne
  · have h3 := htop.2 h2
    simp only [] at hn h3
    rw [hn] at h3
    omega
/-! ### Sorted, each once -/
theorem compL_mem {α : Type} (eq : α → α → Bool) : ∀ (r : List α) (p y : α), y ∈ compL eq p r → y ∈ r
  | [], _, _, h => by cases h
  | x :: r, p, y, h => by
    unfold compL at h
    split at h
    · exact List.mem_cons_of_mem _ (compL_mem eq r x y h)
    · rcases List.mem_cons.1 h with rfl | h
      · simp
      · exact List.mem_cons_of_mem _ (compL_mem eq r x y h)
theorem compL_key {α : Type} (eq : α → α → Bool) (key : α → Int) : ∀ (r : List α) (p : α), (∀ a ∈ p :: r, ∀ b ∈ p :: r, (eq a b = true ↔ key a = key b)) → ∀ x ∈ p :: r, ∃ y ∈ p :: compL eq p r, key y = key x
  | [], p, _, x, hx => ⟨x, by simpa [compL] using hx, rfl⟩
  | y :: r, p, h, x, hx => by
    have ih := compL_key eq key r y (fun a ha b hb => h a (List.mem_cons_of_mem _ ha) b (List.mem_cons_of_mem _ hb))
    unfold compL
    rcases List.mem_cons.1 hx with rfl | hx
    · exact ⟨x, by simp, rfl⟩
    · obtain ⟨z, hz, hk⟩ := ih x hx
      split
      · rename_i he
        have he := (h y (by simp) p (by simp)).1 he
        rcases List.mem_cons.1 hz with rfl | hz
        · exact ⟨p, by simp, by rw [← he]; exact hk⟩
        · exact ⟨z, by simp [hz], hk⟩
      · exact ⟨z, List.mem_cons_of_mem _ hz, hk⟩
theorem compL_strict {α : Type} (eq : α → α → Bool) (key : α → Int) : ∀ (r : List α) (p : α), (∀ a ∈ p :: r, ∀ b ∈ p :: r, (eq a b = true ↔ key a = key b)) → Srt key (p :: r) → (p :: compL eq p r).Pairwise fun a b => key a < key b
  | [], p, _, _ => by simp [compL]
  | y :: r, p, h, hs => by
    have ih := compL_strict eq key r y (fun a ha b hb => h a (List.mem_cons_of_mem _ ha) b (List.mem_cons_of_mem _ hb)) (List.pairwise_cons.1 hs).2
    have hle : key p ≤ key y := (List.pairwise_cons.1 hs).1 y (by simp)
    have hih := List.pairwise_cons.1 ih
    unfold compL
    split
    · rename_i he
      have he := (h y (by simp) p (by simp)).1 he
      refine List.pairwise_cons.2 ⟨fun b hb => ?_, hih.2⟩
      have := hih.1 b hb
      omega
    · rename_i he
      have he : key y ≠ key p := fun e => he ((h y (by simp) p (by simp)).2 e)
      refine List.pairwise_cons.2 ⟨fun b hb => ?_, ih⟩
      rcases List.mem_cons.1 hb with rfl | hb
      · omega
      · have := hih.1 b hb
        omega
theorem sortC_mem (l : List Line) (h : ∀ x ∈ l, lineR x) (x : Line) : x ∈ sortC llessS l ↔ x ∈ l := (sortC_spec (lless_keyed l h)).2.mem x
theorem sorted_strict (l : List Line) (h : ∀ x ∈ l, lineR x) : (sortedS l).Pairwise fun a b => lkey a < lkey b := by
  unfold sortedS
  have hs := (sortC_spec (lless_keyed l h)).1
  have hm := sortC_mem l h
  cases e : sortC llessS l with
  | nil => simp [compS]
  | cons p r =>
    rw [e] at hs hm
    exact compL_strict lsame lkey r p (fun a ha b hb => by simp [lsame]; exact (lless_key a b (h a ((hm a).1 ha)) (h b ((hm b).1 hb))).2) hs
/-- Lines that are alike where their numbers are: all are there, and no others. -/
theorem sorted_mem (l : List Line) (h : ∀ x ∈ l, lineR x) (hi : ∀ a ∈ l, ∀ b ∈ l, lkey a = lkey b → a = b) (x : Line) : x ∈ sortedS l ↔ x ∈ l := by
  unfold sortedS
  have hm := sortC_mem l h
  cases e : sortC llessS l with
  | nil => rw [e] at hm; rw [← hm]; simp [compS]
  | cons p r =>
    rw [e] at hm
    constructor
    · intro hx
      rcases List.mem_cons.1 hx with rfl | hx
      · exact (hm x).1 (by simp)
      · exact (hm x).1 (List.mem_cons_of_mem _ (compL_mem _ _ _ _ hx))
    · intro hx
      obtain ⟨y, hy, hk⟩ := compL_key lsame lkey r p (fun a ha b hb => by simp [lsame]; exact (lless_key a b (h a ((hm a).1 ha)) (h b ((hm b).1 hb))).2) x ((hm x).2 hx)
      have hyl : y ∈ l := by
        rcases List.mem_cons.1 hy with rfl | hy
        · exact (hm y).1 (by simp)
        · exact (hm y).1 (List.mem_cons_of_mem _ (compL_mem _ _ _ _ hy))
      rw [hi x hx y hyl hk.symm]
      exact hy
theorem lineOf_inj {f : Frame} {a b : Key} (ha : lineR (lineOf f a)) (hb : lineR (lineOf f b)) (h : lkey (lineOf f a) = lkey (lineOf f b)) : lineOf f a = lineOf f b := by
  obtain ⟨a1, a2, a3⟩ := a
  obtain ⟨b1, b2, b3⟩ := b
  simp only [lineR, lineOf, lkey, fr] at ha hb h ⊢
  have : a1 = b1 ∧ a2 = b2 := by
    by_cases hL : f.Long = true <;> simp [hL] at h <;> omega
  rw [this.1, this.2]
/-- What is told of frames, as a set. -/
theorem told_sorted {l : List Route} {bus : Int} {f : Frame} {N : List Key} (hN : Told l bus f N) (hR : ∀ x ∈ (goAll l bus f).2.2.2.2, outR x) (z : Line) : z ∈ sortedS (goAll l bus f).2.2.2.2 ↔ ∃ y ∈ N, y ≠ ⟨bus, f.ID, f.Long⟩ ∧ z = lineOf f y := by
  rw [sorted_mem _ (fun x hx => outR_line (hR x hx)), hN.lines]
  intro a ha b hb he
  have hla := outR_line (hR a ha)
  have hlb := outR_line (hR b hb)
  obtain ⟨y1, _, _, rfl⟩ := (hN.lines a).1 ha
  obtain ⟨y2, _, _, rfl⟩ := (hN.lines b).1 hb
  exact lineOf_inj hla hlb he
theorem spreadS_ok {l : List Route} {bus : Int} {f : Frame} (h : (spreadS l bus f).2 = 0) : gcheckS (gnewG l) = 0 ∧ fcheckfr f = 0 ∧ (0 ≤ bus ∧ bus ≤ 3) ∧ (goAll l bus f).1 = false ∧ (goAll l bus f).2.1 = false ∧ (spreadS l bus f).1 = sortedS (goAll l bus f).2.2.2.2 := by
  unfold spreadS at h ⊢
  split at h
  · rename_i h1; exact absurd h h1
  · split at h
    · rename_i h1; exact absurd h h1
    · split at h
      · cases h
      · split at h
        · cases h
        · split at h
          · cases h
          · rename_i h1 h2 h3 h4 h5
            rw [if_neg h1, if_neg h2, if_neg h3, if_neg h4, if_neg h5]
            exact ⟨by simpa using h1, by simpa using h2, by omega, by simpa using h4, by simpa using h5, rfl⟩
theorem nodup_le {α : Type} : ∀ {a b : List α}, a.Nodup → (∀ x ∈ a, x ∈ b) → a.length ≤ b.length
  | [], b, _, _ => Nat.zero_le _
  | x :: a, b, hn, hs => by
    obtain ⟨B1, B2, rfl⟩ := List.append_of_mem (hs x (by simp))
    have h1 := List.nodup_cons.1 hn
    have := nodup_le (a := a) (b := B1 ++ B2) h1.2 (fun y hy => by
      have h2 := hs y (by simp [hy])
      simp only [List.mem_append, List.mem_cons] at h2 ⊢
      rcases h2 with h2 | rfl | h2
      · exact .inl h2
      · exact absurd hy h1.1
      · exact .inr h2)
    simp only [List.length_append, List.length_cons] at this ⊢
    omega
theorem nodup_eq {α : Type} {a b : List α} (ha : a.Nodup) (hb : b.Nodup) (h : ∀ x, x ∈ a ↔ x ∈ b) : a.length = b.length :=
  Nat.le_antisymm (nodup_le ha fun x hx => (h x).1 hx) (nodup_le hb fun x hx => (h x).2 hx)
theorem nodup_map {α β : Type} (g : α → β) : ∀ {a : List α}, a.Nodup → (∀ x ∈ a, ∀ y ∈ a, g x = g y → x = y) → (a.map g).Nodup
  | [], _, _ => List.Pairwise.nil
  | x :: a, hn, hi => by
    have h1 := List.nodup_cons.1 hn
    rw [List.map_cons, List.nodup_cons]
    refine ⟨fun h => ?_, nodup_map g h1.2 fun u hu v hv => hi u (by simp [hu]) v (by simp [hv])⟩
    obtain ⟨y, hy, e⟩ := List.mem_map.1 h
    have := hi y (by simp [hy]) x (by simp) e
    subst this
    exact h1.1 hy
theorem mget_doneG {κ : Type} [DecidableEq κ] : ∀ {m : List (κ × Bool)} (_ : ∀ x ∈ m, x.2 = true) (k : κ), (mget m k).getD false = decide (k ∈ m.map (·.1))
  | [], _, k => by simp [mget]
  | x :: r, h, k => by
    have ih := mget_doneG (m := r) (fun y hy => h y (by simp [hy])) k
    unfold mget at ih ⊢
    by_cases hk : k = x.1
    · simp [hk, h x (by simp)]
    · rw [List.find?_cons, decide_eq_false hk]
      simp only [ih, List.map_cons, List.mem_cons, hk, false_or]
def sp (y : Key) : Spot := ⟨y.bus, y.id⟩
theorem Told.long {l : List Route} {bus : Int} {f : Frame} {N : List Key} (h : Told l bus f N) : ∀ y ∈ N, y.long = f.Long := by
  intro y hy
  cases h.from_ y hy with
  | refl => rfl
  | step _ hr => obtain ⟨r, _, _, rfl⟩ := hr; rfl
theorem Told.inj {l : List Route} {bus : Int} {f : Frame} {N : List Key} (h : Told l bus f N) : ∀ x ∈ N, ∀ y ∈ N, sp x = sp y → x = y := by
  intro x hx y hy e
  have h1 := h.long x hx
  have h2 := h.long y hy
  obtain ⟨x1, x2, x3⟩ := x
  obtain ⟨y1, y2, y3⟩ := y
  simp only [sp, Spot.mk.injEq] at e h1 h2
  simp [e, h1, h2]
theorem lineOf_sp {f : Frame} {x y : Key} (h : lineOf f x = lineOf f y) : sp x = sp y := by
  have h1 : (lineOf f x).Bus = (lineOf f y).Bus := by rw [h]
  have h2 : (lineOf f x).F.ID = (lineOf f y).F.ID := by rw [h]
  show Spot.mk x.bus x.id = Spot.mk y.bus y.id
  rw [show x.bus = y.bus from h1, show x.id = y.id from h2]
theorem Told.right {l : List Route} {bus : Int} {f : Frame} {N : List Key} (h : Told l bus f N) (hb : 0 ≤ bus ∧ bus ≤ 3) (hf : fcheckfr f = 0) (hR : ∀ x ∈ (goAll l bus f).2.2.2.2, outR x) : ∀ y ∈ N, (0 ≤ y.bus ∧ y.bus ≤ 3) ∧ fcheckfr (fr f y.id) = 0 := by
  intro y hy
  by_cases he : y = ⟨bus, f.ID, f.Long⟩
  · subst he; exact ⟨hb, hf⟩
  · have := hR (lineOf f y) ((h.lines _).2 ⟨y, hy, he, rfl⟩)
    exact ⟨this.1, this.2.1⟩
theorem newLines_mem (l : List Route) (bus : Int) (f : Frame) (z : Line) : z ∈ newLines (gnewG l) 0 bus f ↔ ∃ r ∈ l, (carryS r bus f).2 = true ∧ z = ⟨0, r.To, (carryS r bus f).1⟩ := by
  unfold newLines
  have hz : ∀ (l : List Route), l.zip (List.replicate l.length (-1 : Int)) = l.map fun r => (r, -1) := by
    intro l
    induction l with
    | nil => rfl
    | cons r l ih => rw [List.length_cons, List.replicate_succ, List.zip_cons_cons, ih]; rfl
  rw [show (gnewG l).Routes.zip (gnewG l).Last = l.map fun r => (r, -1) from hz l]
  simp only [List.mem_filterMap, List.mem_map]
  constructor
  · rintro ⟨_, ⟨r, hr, rfl⟩, h⟩
    split at h
    · rename_i hg
      have hc : (carryS r bus f).2 = true := by
        unfold goes at hg
        exact ((Bool.and_eq_true _ _).mp hg).1
      refine ⟨r, hr, hc, ?_⟩
      exact (Option.some.inj h).symm
    · cases h
  · rintro ⟨r, hr, hc, rfl⟩
    refine ⟨_, ⟨r, hr, rfl⟩, ?_⟩
    rw [if_pos]
    simp [goes, hc]
theorem newLines_len (l : List Route) (bus : Int) (f : Frame) : (newLines (gnewG l) 0 bus f).length ≤ l.length := by
  unfold newLines
  refine Nat.le_trans (List.length_filterMap_le _ _) ?_
  simp [gnewG]
theorem step_new {l : List Route} (h0 : gcheckS (gnewG l) = 0) {bus : Int} {f : Frame} (hb : 0 ≤ bus ∧ bus ≤ 3) (hf : fcheckfr f = 0) : (gstepS (gnewG l) 0 bus f).2.2 = 0 ∧ (gstepS (gnewG l) 0 bus f).2.1 = newLines (gnewG l) 0 bus f := by
  have h4 : ¬ ((gnewG l).Last.any fun t => decide (t > 0)) = true := by
    intro h
    obtain ⟨t, ht, h2⟩ := List.any_eq_true.1 h
    have := List.eq_of_mem_replicate (show t ∈ List.replicate l.length (-1) from ht)
    subst this
    simp at h2
  unfold gstepS
  rw [if_neg (by simp [h0]), if_neg (by simp [hf]), if_neg (by omega), if_neg h4]
  exact ⟨rfl, rfl⟩
/-- What is left to do, and what has been seen. -/
structure Seen (l : List Route) (bus : Int) (f : Frame) (N : List Key) (work : List Line) (m : List (Spot × Bool)) : Prop where
  wk : ∀ z ∈ work, ∃ y ∈ N, z = lineOf f y
  tt : ∀ x ∈ m, x.2 = true
  nd : (m.map (·.1)).Nodup
  keys : ∀ s ∈ m.map (·.1), ∃ y ∈ N, s = sp y
  clo : ∀ y ∈ N, sp y ∈ m.map (·.1) → ∀ y', Ed l f y y' → sp y' ∈ m.map (·.1) ∨ lineOf f y' ∈ work
  root : sp ⟨bus, f.ID, f.Long⟩ ∈ m.map (·.1) ∨ lineOf f ⟨bus, f.ID, f.Long⟩ ∈ work
  len : work.length ≤ 1 + 20 * m.length
theorem Seen.le {l : List Route} {bus : Int} {f : Frame} {N : List Key} {work : List Line} {m : List (Spot × Bool)} (h : Seen l bus f N work m) : m.length ≤ N.length := by
  have := nodup_le (b := N.map sp) h.nd (fun s hs => by obtain ⟨y, hy, rfl⟩ := h.keys s hs; exact List.mem_map_of_mem hy)
  simpa using this
theorem mem_of_drop1 {α : Type} {z q : α} {l : List α} (h : z ∈ l) (hq : l[0]? = some q) : z = q ∨ z ∈ l.drop 1 := by
  cases l with
  | nil => cases h
  | cons a l =>
    simp only [List.getElem?_cons_zero, Option.some.injEq] at hq
    subst hq
    exact List.mem_cons.1 h
theorem LGoes_ok (u0 : List Route) (u1 : Int) (u2 : Frame) (k0 : (∀ y0 ∈ u0, okRoute y0) ∧ u0.length * 56 ≤ lim) (k1 : IntKind.i64.min ≤ u1 ∧ u1 ≤ IntKind.i64.max) (k2 : okFrame u2) : LGoes_vc u0 u1 u2 (fun r => r = true) := by
  have hb := k0.2
  unfold lim at hb
  intro hl _
  refine rg0 hl (fun _ => True) trivial (fun k q hk hq _ inv mu hn => ⟨fun _ => rfl, fun _ => hn trivial⟩) ?_
  intro _
  refine ⟨hb, fun _ => ⟨hb, fun _ _ => ⟨fun _ => rfl, fun h => ?_⟩⟩⟩
  have h1 : (spreadS u0 u1 u2).2 = 0 := by
    simp only [Bool.or_eq_false_iff, bne_eq_false_iff_eq] at h
    exact h.1
  obtain ⟨g1, g2, g3, g4, g5, g6⟩ := spreadS_ok h1
  have hl20 : u0.length ≤ 20 := (gcheckS_len g1).1
  obtain ⟨N, hN⟩ := told_ok (l := u0) hl20 g4 g5
  have a1 := goAll_facts (bus := u1) g1 g2
  have hright := hN.right g3 g2 a1.2.1
  have hng : (gnewS u0).1 = gnewG u0 := by rw [(gnewS_eq u0).2 g1]
  rw [hng]
  have hfew := hN.few
  refine ⟨fun work m => Seen u0 u1 u2 N work m, fun work m => (N.length - m.length) * 21 + work.length, ⟨?_, by simp, by simp, by simp, by simp, .inr ?_, by simp⟩, ?_⟩
  · intro z hz
    obtain rfl : z = _ := by simpa using hz
    exact ⟨_, hN.root, rfl⟩
  · exact List.mem_singleton.2 rfl
  intro work m hS
  refine ⟨fun h2 => ⟨by simp at h2; omega, fun q hq => ?_⟩, fun h2 => ?_⟩
  · have hpos : 0 < work.length := by simp at h2; exact h2
    have hq : work[0]? = some q := hq
    obtain ⟨y, hy, rfl⟩ := hS.wk q (List.mem_of_getElem? hq)
    have hyr := hright y hy
    have hdl : (work.drop 1).length + 1 = work.length := by simp; omega
    show _ → _ ∧ (((mget m (sp y)).getD false = true → Seen u0 u1 u2 N (work.drop 1) m ∧ (N.length - m.length) * 21 + (work.drop 1).length < (N.length - m.length) * 21 + work.length) ∧ _)
    rw [mget_doneG hS.tt]
    refine fun _ => ⟨by omega, fun h3 => ⟨?_, by omega⟩, fun h3 => ?_⟩
    · have h3 : sp y ∈ m.map (·.1) := by simpa using h3
      refine ⟨fun z hz => hS.wk z (List.mem_of_mem_drop hz), hS.tt, hS.nd, hS.keys, fun x hx hxs y' he => ?_, ?_, by have := hS.len; omega⟩
      · rcases hS.clo x hx hxs y' he with h4 | h4
        · exact .inl h4
        · rcases mem_of_drop1 h4 hq with h5 | h5
          · exact .inl (by rw [lineOf_sp h5]; exact h3)
          · exact .inr h5
      · rcases hS.root with h4 | h4
        · exact .inl h4
        · rcases mem_of_drop1 h4 hq with h5 | h5
          · exact .inl (by rw [lineOf_sp h5]; exact h3)
          · exact .inr h5
    · have h3 : sp y ∉ m.map (·.1) := by
        have h3 : (mget m (sp y)).getD false = false := h3
        rw [mget_doneG hS.tt] at h3
        exact of_decide_eq_false h3
      obtain ⟨e1, e2⟩ := step_new g1 (bus := y.bus) (f := fr u2 y.id) hyr.1 hyr.2
      have e1' : (gstepS (gnewG u0) 0 (lineOf u2 y).Bus (lineOf u2 y).F).2.2 = 0 := e1
      have e2' : (gstepS (gnewG u0) 0 (lineOf u2 y).Bus (lineOf u2 y).F).2.1 = newLines (gnewG u0) 0 y.bus (fr u2 y.id) := e2
      rw [e1', e2']
      have hnl := newLines_len u0 y.bus (fr u2 y.id)
      have hle := hS.le
      have hsl := hS.len
      refine fun _ _ _ => ⟨fun h4 => by simp at h4, fun _ => ⟨?_, ?_⟩⟩
      · show ((work.drop 1).length + _) * 64 ≤ _
        omega
      · have hput : mput m (sp y) true = m ++ [(sp y, true)] := mput_new h3
        show Seen u0 u1 u2 N (work.drop 1 ++ newLines (gnewG u0) 0 y.bus (fr u2 y.id)) (mput m (sp y) true) ∧ (N.length - (mput m (sp y) true).length) * 21 + (work.drop 1 ++ newLines (gnewG u0) 0 y.bus (fr u2 y.id)).length < (N.length - m.length) * 21 + work.length
        rw [hput]
        have hS' : Seen u0 u1 u2 N (work.drop 1 ++ newLines (gnewG u0) 0 y.bus (fr u2 y.id)) (m ++ [(sp y, true)]) := by
          have hE : ∀ y', Ed u0 u2 y y' → lineOf u2 y' ∈ newLines (gnewG u0) 0 y.bus (fr u2 y.id) := by
            rintro y' ⟨r, hr, hc, rfl⟩
            refine (newLines_mem _ _ _ _).2 ⟨r, hr, hc, ?_⟩
            rw [carry_fr hc]
            rfl
          have hkeys : ∀ s, s ∈ (m ++ [(sp y, true)]).map (·.1) ↔ s ∈ m.map (·.1) ∨ s = sp y := by simp
          refine ⟨fun z hz => ?_, fun x hx => ?_, ?_, fun s hs => ?_, fun x hx hxs y' he => ?_, ?_, ?_⟩
          · rcases List.mem_append.1 hz with hz | hz
            · exact hS.wk z (List.mem_of_mem_drop hz)
            · obtain ⟨r, hr, hc, rfl⟩ := (newLines_mem _ _ _ _).1 hz
              rw [carry_fr hc]
              refine ⟨⟨r.To, y.id + r.Add, u2.Long⟩, hN.all ((hN.from_ y hy).step ⟨r, hr, hc, rfl⟩), rfl⟩
          · rcases List.mem_append.1 hx with hx | hx
            · exact hS.tt x hx
            · obtain rfl : x = (sp y, true) := by simpa using hx
              rfl
          · rw [List.map_append]
            refine List.nodup_append.2 ⟨hS.nd, by simp, fun a ha b hb e => ?_⟩
            obtain rfl : b = sp y := by simpa using hb
            exact h3 (e ▸ ha)
          · rcases (hkeys s).1 hs with hs | rfl
            · exact hS.keys s hs
            · exact ⟨y, hy, rfl⟩
          · rcases (hkeys _).1 hxs with hxs | hxs
            · rcases hS.clo x hx hxs y' he with h4 | h4
              · exact .inl ((hkeys _).2 (.inl h4))
              · rcases mem_of_drop1 h4 hq with h5 | h5
                · exact .inl ((hkeys _).2 (.inr (lineOf_sp h5)))
                · exact .inr (List.mem_append.2 (.inl h5))
            · obtain rfl := hN.inj x hx y hy hxs
              exact .inr (List.mem_append.2 (.inr (hE y' he)))
          · rcases hS.root with h4 | h4
            · exact .inl ((hkeys _).2 (.inl h4))
            · rcases mem_of_drop1 h4 hq with h5 | h5
              · exact .inl ((hkeys _).2 (.inr (lineOf_sp h5)))
              · exact .inr (List.mem_append.2 (.inl h5))
          · simp only [List.length_append, List.length_cons, List.length_nil]
            omega
        have hle' := hS'.le
        refine ⟨hS', ?_⟩
        simp only [List.length_append, List.length_cons, List.length_nil] at hle' ⊢
        omega
  · have hw : work = [] := by
      cases work with
      | nil => rfl
      | cons a w => simp at h2
    subst hw
    have hall : ∀ y ∈ N, sp y ∈ m.map (·.1) := by
      intro y hy
      have := hN.from_ y hy
      clear hy
      induction this with
      | refl => rcases hS.root with h | h
                · exact h
                · cases h
      | step hr he ih => rcases hS.clo _ (hN.all hr) ih _ he with h | h
                         · exact h
                         · cases h
    have hmN : m.length = N.length := by
      have := nodup_eq (a := m.map (·.1)) (b := N.map sp) hS.nd (nodup_map sp hN.nd hN.inj) (fun s => ⟨fun hs => by obtain ⟨y, hy, rfl⟩ := hS.keys s hs; exact List.mem_map_of_mem hy, fun hs => by obtain ⟨y, hy, rfl⟩ := List.mem_map.1 hs; exact hall y hy⟩)
      simpa using this
    have hlen : (spreadS u0 u1 u2).1.length ≤ 140737488355328 := by assumption
    refine rg0 hlen (fun _ => True) trivial ?_ ?_
    · intro k q hk hq _ inv mu hn _
      refine ⟨fun h4 => ?_, fun _ => hn trivial⟩
      exfalso
      have hqm : q ∈ (spreadS u0 u1 u2).1 := List.mem_of_getElem? hq
      rw [g6, told_sorted hN a1.2.1] at hqm
      obtain ⟨y, hy, hne, rfl⟩ := hqm
      have h5 : (mget m (sp y)).getD false = true := by rw [mget_doneG hS.tt]; simpa using hall y hy
      have h4 : (!((mget m (sp y)).getD false)) = true := h4
      rw [h5] at h4
      cases h4
    · intro _
      have hl2 : (spreadS u0 u1 u2).1.length + 1 = N.length := by
        have hR : ∀ x ∈ (goAll u0 u1 u2).2.2.2.2, lineR x := fun x hx => outR_line (a1.2.1 x hx)
        have hnd : (spreadS u0 u1 u2).1.Nodup := by
          rw [g6]
          refine (sorted_strict _ hR).imp fun h e => ?_
          rw [e] at h; omega
        have h6 := nodup_eq (a := (spreadS u0 u1 u2).1) (b := (N.filter fun y => decide (y ≠ ⟨u1, u2.ID, u2.Long⟩)).map (lineOf u2)) hnd
          (nodup_map _ (hN.nd.filter _) (fun x hx y hy e => hN.inj x (List.mem_filter.1 hx).1 y (List.mem_filter.1 hy).1 (lineOf_sp e)))
          (fun z => by
            rw [g6, told_sorted hN a1.2.1, List.mem_map]
            constructor
            · rintro ⟨y, hy, hne, rfl⟩; exact ⟨y, List.mem_filter.2 ⟨hy, by simpa using hne⟩, rfl⟩
            · rintro ⟨y, hy, rfl⟩
              have := List.mem_filter.1 hy
              exact ⟨y, this.1, by simpa using this.2, rfl⟩)
        have h7 := nodup_eq (a := (⟨u1, u2.ID, u2.Long⟩ : Key) :: (N.filter fun y => decide (y ≠ ⟨u1, u2.ID, u2.Long⟩))) (b := N) (List.nodup_cons.2 ⟨fun h => by have := (List.mem_filter.1 h).2; simp at this, hN.nd.filter _⟩) hN.nd
          (fun x => by
            rw [List.mem_cons, List.mem_filter]
            constructor
            · rintro (rfl | h)
              · exact hN.root
              · exact h.1
            · intro hx
              by_cases he : x = ⟨u1, u2.ID, u2.Long⟩
              · exact .inl he
              · exact .inr ⟨hx, by simpa using he⟩)
        rw [List.length_map] at h6
        rw [List.length_cons] at h7
        omega
      show ((m.length : Int) == w64 (((spreadS u0 u1 u2).1.length : Int) + 1)) = true
      rw [w64_eq _ (by omega), hmN, ← hl2]
      simp

end Go.Proofs.Ytmkdnaecmombnaa
