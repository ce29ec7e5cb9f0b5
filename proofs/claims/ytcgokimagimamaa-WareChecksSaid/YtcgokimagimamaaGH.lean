

/- Layer 1: contracts of the walks, in the form that printed callers take. -/
import Derived.Test.YtcgokimagimamaaGD
import Derived.Test.YtcgokimagimamaaGE
import Derived.Test.YtcgokimagimamaaMRowCh1
import Derived.Test.YtcgokimagimamaaGF
namespace Go.Proofs.Ytcgokimagimamaa.F
open Go.RowKit Go.Proofs.YtcgokimagimamaaW.PrintWords
set_option linter.unusedVariables false
set_option linter.unusedSimpArgs false
set_option maxRecDepth 100000
def outR (p : Rng × Int) : Int × Int × Int := (p.1.lo, p.1.hi, p.2)
theorem outR_some {p : Rng × Int} {a b c : Int} (h : some (outR p) = some (a, b, c)) : p = (⟨a, b⟩, c) := by
  obtain ⟨⟨x, y⟩, z⟩ := p; simp [outR] at h; obtain ⟨rfl, rfl, rfl⟩ := h; rfl
def outS (p : Shape × Int) : Int × Int × Int × Int × Int × Int × Int × Int × Int × Int × Int × Int := (p.1.id, p.1.wide.lo, p.1.wide.hi, p.1.deep.lo, p.1.deep.hi, p.1.high.lo, p.1.high.hi, p.1.nest, p.1.weight.lo, p.1.weight.hi, p.1.bears, p.2)
theorem outS_some {p : Shape × Int} {a0 a1 a2 a3 a4 a5 a6 a7 a8 a9 a10 c : Int} (h : some (outS p) = some (a0, a1, a2, a3, a4, a5, a6, a7, a8, a9, a10, c)) : p = (⟨a0, ⟨a1, a2⟩, ⟨a3, a4⟩, ⟨a5, a6⟩, a7, ⟨a8, a9⟩, a10⟩, c) := by
  obtain ⟨⟨b0, ⟨b1, b2⟩, ⟨b3, b4⟩, ⟨b5, b6⟩, b7, ⟨b8, b9⟩, b10⟩, z⟩ := p; simp [outS] at h; obtain ⟨rfl, rfl, rfl, rfl, rfl, rfl, rfl, rfl, rfl, rfl, rfl, rfl⟩ := h; rfl
def outB (b : Body) : Int × Int × Int × Int × Int × Int × Int := (b.id, b.shrink.lo, b.shrink.hi, b.loss.lo, b.loss.hi, b.heat.lo, b.heat.hi)
theorem outB_some {p : Body} {a0 a1 a2 a3 a4 a5 a6 : Int} (h : some (outB p) = some (a0, a1, a2, a3, a4, a5, a6)) : p = ⟨a0, ⟨a1, a2⟩, ⟨a3, a4⟩, ⟨a5, a6⟩⟩ := by
  obtain ⟨b0, ⟨b1, b2⟩, ⟨b3, b4⟩, ⟨b5, b6⟩⟩ := p; simp [outB] at h; obtain ⟨rfl, rfl, rfl, rfl, rfl, rfl, rfl⟩ := h; rfl
theorem some_inj1 {α : Type} {a b : α} (h : some a = some b) : a = b := Option.some.inj h
/-- A row that the print's words read is one of mine. -/
theorem rd_of {α β : Type} {d : Kd α} {sz : Nat} {enc : β → List Value} {w : World} {A : Option Addr} {c : Nat} {l : List α} (g : α → β) (hsz : d.sz = sz) (hpos : 0 < sz) (hK : ∀ x cs, d.K w x cs → cs = enc (g x)) (hr : Kd.C d w A l.length l) (hc : l.length ≤ c) : Rd sz enc w (.slice A l.length c) (l.map g) := by
  subst hsz
  refine ⟨A, c, by simp, by simpa using hc, fun hne => ?_⟩
  have hl : 0 < l.length := by
    cases l with
    | nil => exact absurd rfl hne
    | cons x t => simp
  obtain ⟨_, _, hr⟩ := hr
  obtain ⟨ad, rfl, hcell⟩ := hr hl
  obtain ⟨cs, h1, h2, h3⟩ := hcell 0 _ (List.getElem?_eq_getElem hl)
  have h4 := h3 0 _ (List.getElem?_eq_getElem (by omega))
  have e0 : ad.add (0 * d.sz + 0) = ad := by simp [Addr.add]
  rw [e0] at h4
  have hb : ad.block < w.heap.size ∧ ad.spot = none := by
    unfold World.cell? at h4
    split at h4
    · rename_i hh
      refine ⟨(Array.getElem?_eq_some_iff.1 hh).1, ?_⟩
      cases hs : ad.spot with
      | none => rfl
      | some k => simp [hs] at h4
    · cases h4
  obtain ⟨b, o, s⟩ := ad
  obtain ⟨hb1, rfl⟩ := hb
  refine ⟨b, o, rfl, hb1, fun i x hi j u hu => ?_⟩
  rw [List.getElem?_map] at hi
  cases hli : l[i]? with
  | none => rw [hli] at hi; cases hi
  | some y =>
    rw [hli] at hi
    obtain rfl : g y = x := by simpa using hi
    obtain ⟨cs, k1, k2, k3⟩ := hcell i y hli
    rw [hK y cs k2] at k3
    have := k3 j u hu
    rwa [add_none, ← Nat.add_assoc] at this
def ware_CheckShape.f (a0_0 : Int) (a0_1 : Int) (a0_2 : Int) (a0_3 : Int) (a0_4 : Int) (a0_5 : Int) (a0_6 : Int) (a0_7 : Int) (a0_8 : Int) (a0_9 : Int) (a0_10 : Int) : Option (Int) := some (errIf (okShape (⟨a0_0, ⟨a0_1, a0_2⟩, ⟨a0_3, a0_4⟩, ⟨a0_5, a0_6⟩, a0_7, ⟨a0_8, a0_9⟩, a0_10⟩ : Shape)) 10)
theorem ware_CheckShape.calls (a0_0 : Int) (a0_1 : Int) (a0_2 : Int) (a0_3 : Int) (a0_4 : Int) (a0_5 : Int) (a0_6 : Int) (a0_7 : Int) (a0_8 : Int) (a0_9 : Int) (a0_10 : Int) (r : Int) (w : World) (h : ware_CheckShape.f a0_0 a0_1 a0_2 a0_3 a0_4 a0_5 a0_6 a0_7 a0_8 a0_9 a0_10 = some r) :
    Calls Try.prog 27 #[.agg #[.int .i64 a0_0, .int .i64 a0_1, .int .i64 a0_2, .int .i64 a0_3, .int .i64 a0_4, .int .i64 a0_5, .int .i64 a0_6, .int .i64 a0_7, .int .i64 a0_8, .int .i64 a0_9, .int .i64 a0_10]] w fun e w' => e = .returned (.int .i64 r) ∧ Below w.heap.size w w' := by
  cases h; exact CheckShape_any (⟨a0_0, ⟨a0_1, a0_2⟩, ⟨a0_3, a0_4⟩, ⟨a0_5, a0_6⟩, a0_7, ⟨a0_8, a0_9⟩, a0_10⟩ : Shape) w
def ware_CheckBody.f (a0_0 : Int) (a0_1 : Int) (a0_2 : Int) (a0_3 : Int) (a0_4 : Int) (a0_5 : Int) (a0_6 : Int) : Option (Int) := some (errIf (okBody (⟨a0_0, ⟨a0_1, a0_2⟩, ⟨a0_3, a0_4⟩, ⟨a0_5, a0_6⟩⟩ : Body)) 11)
theorem ware_CheckBody.calls (a0_0 : Int) (a0_1 : Int) (a0_2 : Int) (a0_3 : Int) (a0_4 : Int) (a0_5 : Int) (a0_6 : Int) (r : Int) (w : World) (h : ware_CheckBody.f a0_0 a0_1 a0_2 a0_3 a0_4 a0_5 a0_6 = some r) :
    Calls Try.prog 45 #[.agg #[.int .i64 a0_0, .int .i64 a0_1, .int .i64 a0_2, .int .i64 a0_3, .int .i64 a0_4, .int .i64 a0_5, .int .i64 a0_6]] w fun e w' => e = .returned (.int .i64 r) ∧ Below w.heap.size w w' := by
  cases h; exact CheckBody_any (⟨a0_0, ⟨a0_1, a0_2⟩, ⟨a0_3, a0_4⟩, ⟨a0_5, a0_6⟩⟩ : Body) w
def ware_becomes.f (a0_0 : Int) (a0_1 : Int) (a1_0 : Int) (a1_1 : Int) : Option (Int × Int) := if 0 ≤ a0_0 ∧ a0_0 ≤ a0_1 ∧ a0_1 ≤ 100000 ∧ 0 ≤ a1_0 ∧ a1_0 ≤ a1_1 ∧ a1_1 ≤ 1000 then some (turnLo a0_0 a1_1, turnHi a0_1 a1_0) else none
theorem ware_becomes.calls (a0_0 : Int) (a0_1 : Int) (a1_0 : Int) (a1_1 : Int) (r1 : Int) (r2 : Int) (w : World) (h : ware_becomes.f a0_0 a0_1 a1_0 a1_1 = some (r1, r2)) :
    Calls Try.prog 62 #[.agg #[.int .i64 a0_0, .int .i64 a0_1], .agg #[.int .i64 a1_0, .int .i64 a1_1]] w fun e w' => e = .returned (.agg #[.int .i64 r1, .int .i64 r2]) ∧ Below w.heap.size w w' := by
  unfold ware_becomes.f at h
  split at h
  · rename_i q; obtain ⟨q1, q2, q3, q4, q5, q6⟩ := q; cases h; exact becomes_any (⟨a0_0, a0_1⟩ : Rng) (⟨a1_0, a1_1⟩ : Rng) w q1 q2 q3 q4 q5 q6
  · cases h
def ware_Shrunk.f (a0_0 : Int) (a0_1 : Int) (a0_2 : Int) (a0_3 : Int) (a0_4 : Int) (a0_5 : Int) (a0_6 : Int) (a1_0 : Int) (a1_1 : Int) : Option (Int × Int × Int) := some (outR (firedS (⟨a0_0, ⟨a0_1, a0_2⟩, ⟨a0_3, a0_4⟩, ⟨a0_5, a0_6⟩⟩ : Body) (⟨a1_0, a1_1⟩ : Rng) 2000 ⟨a0_1, a0_2⟩))
theorem ware_Shrunk.calls (a0_0 : Int) (a0_1 : Int) (a0_2 : Int) (a0_3 : Int) (a0_4 : Int) (a0_5 : Int) (a0_6 : Int) (a1_0 : Int) (a1_1 : Int) (r1 : Int) (r2 : Int) (r3 : Int) (w : World) (h : ware_Shrunk.f a0_0 a0_1 a0_2 a0_3 a0_4 a0_5 a0_6 a1_0 a1_1 = some (r1, r2, r3)) :
    Calls Try.prog 25 #[.agg #[.int .i64 a0_0, .int .i64 a0_1, .int .i64 a0_2, .int .i64 a0_3, .int .i64 a0_4, .int .i64 a0_5, .int .i64 a0_6], .agg #[.int .i64 a1_0, .int .i64 a1_1]] w fun e w' => e = .returned (.tuple #[.agg #[.int .i64 r1, .int .i64 r2], .int .i64 r3]) ∧ Below w.heap.size w w' := by
  have q := Shrunk_any (⟨a0_0, ⟨a0_1, a0_2⟩, ⟨a0_3, a0_4⟩, ⟨a0_5, a0_6⟩⟩ : Body) (⟨a1_0, a1_1⟩ : Rng) w
  rw [outR_some (p := firedS (⟨a0_0, ⟨a0_1, a0_2⟩, ⟨a0_3, a0_4⟩, ⟨a0_5, a0_6⟩⟩ : Body) (⟨a1_0, a1_1⟩ : Rng) 2000 ⟨a0_1, a0_2⟩) h] at q
  exact q
def ware_Burnt.f (a0_0 : Int) (a0_1 : Int) (a0_2 : Int) (a0_3 : Int) (a0_4 : Int) (a0_5 : Int) (a0_6 : Int) (a1_0 : Int) (a1_1 : Int) : Option (Int × Int × Int) := some (outR (firedS (⟨a0_0, ⟨a0_1, a0_2⟩, ⟨a0_3, a0_4⟩, ⟨a0_5, a0_6⟩⟩ : Body) (⟨a1_0, a1_1⟩ : Rng) 100000 ⟨a0_3, a0_4⟩))
theorem ware_Burnt.calls (a0_0 : Int) (a0_1 : Int) (a0_2 : Int) (a0_3 : Int) (a0_4 : Int) (a0_5 : Int) (a0_6 : Int) (a1_0 : Int) (a1_1 : Int) (r1 : Int) (r2 : Int) (r3 : Int) (w : World) (h : ware_Burnt.f a0_0 a0_1 a0_2 a0_3 a0_4 a0_5 a0_6 a1_0 a1_1 = some (r1, r2, r3)) :
    Calls Try.prog 30 #[.agg #[.int .i64 a0_0, .int .i64 a0_1, .int .i64 a0_2, .int .i64 a0_3, .int .i64 a0_4, .int .i64 a0_5, .int .i64 a0_6], .agg #[.int .i64 a1_0, .int .i64 a1_1]] w fun e w' => e = .returned (.tuple #[.agg #[.int .i64 r1, .int .i64 r2], .int .i64 r3]) ∧ Below w.heap.size w w' := by
  have q := Burnt_any (⟨a0_0, ⟨a0_1, a0_2⟩, ⟨a0_3, a0_4⟩, ⟨a0_5, a0_6⟩⟩ : Body) (⟨a1_0, a1_1⟩ : Rng) w
  rw [outR_some (p := firedS (⟨a0_0, ⟨a0_1, a0_2⟩, ⟨a0_3, a0_4⟩, ⟨a0_5, a0_6⟩⟩ : Body) (⟨a1_0, a1_1⟩ : Rng) 100000 ⟨a0_3, a0_4⟩) h] at q
  exact q
def ware_Height.f (a0_0 : Int) (a0_1 : Int) (a0_2 : Int) (a0_3 : Int) (a0_4 : Int) (a0_5 : Int) (a0_6 : Int) (a0_7 : Int) (a0_8 : Int) (a0_9 : Int) (a0_10 : Int) (a1 : Int) : Option (Int × Int × Int) := some (outR (heightS (⟨a0_0, ⟨a0_1, a0_2⟩, ⟨a0_3, a0_4⟩, ⟨a0_5, a0_6⟩, a0_7, ⟨a0_8, a0_9⟩, a0_10⟩ : Shape) a1))
theorem ware_Height.calls (a0_0 : Int) (a0_1 : Int) (a0_2 : Int) (a0_3 : Int) (a0_4 : Int) (a0_5 : Int) (a0_6 : Int) (a0_7 : Int) (a0_8 : Int) (a0_9 : Int) (a0_10 : Int) (a1 : Int) (r1 : Int) (r2 : Int) (r3 : Int) (w : World) (h : ware_Height.f a0_0 a0_1 a0_2 a0_3 a0_4 a0_5 a0_6 a0_7 a0_8 a0_9 a0_10 a1 = some (r1, r2, r3)) :
    Calls Try.prog 11 #[.agg #[.int .i64 a0_0, .int .i64 a0_1, .int .i64 a0_2, .int .i64 a0_3, .int .i64 a0_4, .int .i64 a0_5, .int .i64 a0_6, .int .i64 a0_7, .int .i64 a0_8, .int .i64 a0_9, .int .i64 a0_10], .int .i64 a1] w fun e w' => e = .returned (.tuple #[.agg #[.int .i64 r1, .int .i64 r2], .int .i64 r3]) ∧ Below w.heap.size w w' := by
  have q := Height_any (⟨a0_0, ⟨a0_1, a0_2⟩, ⟨a0_3, a0_4⟩, ⟨a0_5, a0_6⟩, a0_7, ⟨a0_8, a0_9⟩, a0_10⟩ : Shape) a1 w
  rw [outR_some (p := heightS (⟨a0_0, ⟨a0_1, a0_2⟩, ⟨a0_3, a0_4⟩, ⟨a0_5, a0_6⟩, a0_7, ⟨a0_8, a0_9⟩, a0_10⟩ : Shape) a1) h] at q
  exact q
def ware_Load.f (a0_0 : Int) (a0_1 : Int) (a0_2 : Int) (a0_3 : Int) (a0_4 : Int) (a0_5 : Int) (a0_6 : Int) (a0_7 : Int) (a0_8 : Int) (a0_9 : Int) (a0_10 : Int) (a1 : Int) (a2 : Int) : Option (Int × Int × Int) := some (outR (loadS (⟨a0_0, ⟨a0_1, a0_2⟩, ⟨a0_3, a0_4⟩, ⟨a0_5, a0_6⟩, a0_7, ⟨a0_8, a0_9⟩, a0_10⟩ : Shape) a1 a2))
theorem ware_Load.calls (a0_0 : Int) (a0_1 : Int) (a0_2 : Int) (a0_3 : Int) (a0_4 : Int) (a0_5 : Int) (a0_6 : Int) (a0_7 : Int) (a0_8 : Int) (a0_9 : Int) (a0_10 : Int) (a1 : Int) (a2 : Int) (r1 : Int) (r2 : Int) (r3 : Int) (w : World) (h : ware_Load.f a0_0 a0_1 a0_2 a0_3 a0_4 a0_5 a0_6 a0_7 a0_8 a0_9 a0_10 a1 a2 = some (r1, r2, r3)) :
    Calls Try.prog 13 #[.agg #[.int .i64 a0_0, .int .i64 a0_1, .int .i64 a0_2, .int .i64 a0_3, .int .i64 a0_4, .int .i64 a0_5, .int .i64 a0_6, .int .i64 a0_7, .int .i64 a0_8, .int .i64 a0_9, .int .i64 a0_10], .int .i64 a1, .int .i64 a2] w fun e w' => e = .returned (.tuple #[.agg #[.int .i64 r1, .int .i64 r2], .int .i64 r3]) ∧ Below w.heap.size w w' := by
  have q := Load_any (⟨a0_0, ⟨a0_1, a0_2⟩, ⟨a0_3, a0_4⟩, ⟨a0_5, a0_6⟩, a0_7, ⟨a0_8, a0_9⟩, a0_10⟩ : Shape) a1 a2 w
  rw [outR_some (p := loadS (⟨a0_0, ⟨a0_1, a0_2⟩, ⟨a0_3, a0_4⟩, ⟨a0_5, a0_6⟩, a0_7, ⟨a0_8, a0_9⟩, a0_10⟩ : Shape) a1 a2) h] at q
  exact q
def ware_Stands.f (a0_0 : Int) (a0_1 : Int) (a0_2 : Int) (a0_3 : Int) (a0_4 : Int) (a0_5 : Int) (a0_6 : Int) (a0_7 : Int) (a0_8 : Int) (a0_9 : Int) (a0_10 : Int) (a1 : Int) : Option (Bool × Int) := some (standsS (⟨a0_0, ⟨a0_1, a0_2⟩, ⟨a0_3, a0_4⟩, ⟨a0_5, a0_6⟩, a0_7, ⟨a0_8, a0_9⟩, a0_10⟩ : Shape) a1)
theorem ware_Stands.calls (a0_0 : Int) (a0_1 : Int) (a0_2 : Int) (a0_3 : Int) (a0_4 : Int) (a0_5 : Int) (a0_6 : Int) (a0_7 : Int) (a0_8 : Int) (a0_9 : Int) (a0_10 : Int) (a1 : Int) (r1 : Bool) (r2 : Int) (w : World) (h : ware_Stands.f a0_0 a0_1 a0_2 a0_3 a0_4 a0_5 a0_6 a0_7 a0_8 a0_9 a0_10 a1 = some (r1, r2)) :
    Calls Try.prog 15 #[.agg #[.int .i64 a0_0, .int .i64 a0_1, .int .i64 a0_2, .int .i64 a0_3, .int .i64 a0_4, .int .i64 a0_5, .int .i64 a0_6, .int .i64 a0_7, .int .i64 a0_8, .int .i64 a0_9, .int .i64 a0_10], .int .i64 a1] w fun e w' => e = .returned (.tuple #[.bool r1, .int .i64 r2]) ∧ Below w.heap.size w w' := by
  have q := Stands_any (⟨a0_0, ⟨a0_1, a0_2⟩, ⟨a0_3, a0_4⟩, ⟨a0_5, a0_6⟩, a0_7, ⟨a0_8, a0_9⟩, a0_10⟩ : Shape) a1 w
  rw [some_inj1 (a := standsS (⟨a0_0, ⟨a0_1, a0_2⟩, ⟨a0_3, a0_4⟩, ⟨a0_5, a0_6⟩, a0_7, ⟨a0_8, a0_9⟩, a0_10⟩ : Shape) a1) h] at q
  exact q
def ware_Most.f (a0_0 : Int) (a0_1 : Int) (a0_2 : Int) (a0_3 : Int) (a0_4 : Int) (a0_5 : Int) (a0_6 : Int) (a0_7 : Int) (a0_8 : Int) (a0_9 : Int) (a0_10 : Int) (a1 : Int) : Option (Int × Int) := some (mostS (⟨a0_0, ⟨a0_1, a0_2⟩, ⟨a0_3, a0_4⟩, ⟨a0_5, a0_6⟩, a0_7, ⟨a0_8, a0_9⟩, a0_10⟩ : Shape) a1)
theorem ware_Most.calls (a0_0 : Int) (a0_1 : Int) (a0_2 : Int) (a0_3 : Int) (a0_4 : Int) (a0_5 : Int) (a0_6 : Int) (a0_7 : Int) (a0_8 : Int) (a0_9 : Int) (a0_10 : Int) (a1 : Int) (r1 : Int) (r2 : Int) (w : World) (h : ware_Most.f a0_0 a0_1 a0_2 a0_3 a0_4 a0_5 a0_6 a0_7 a0_8 a0_9 a0_10 a1 = some (r1, r2)) :
    Calls Try.prog 17 #[.agg #[.int .i64 a0_0, .int .i64 a0_1, .int .i64 a0_2, .int .i64 a0_3, .int .i64 a0_4, .int .i64 a0_5, .int .i64 a0_6, .int .i64 a0_7, .int .i64 a0_8, .int .i64 a0_9, .int .i64 a0_10], .int .i64 a1] w fun e w' => e = .returned (.tuple #[.int .i64 r1, .int .i64 r2]) ∧ Below w.heap.size w w' := by
  have q := Most_any (⟨a0_0, ⟨a0_1, a0_2⟩, ⟨a0_3, a0_4⟩, ⟨a0_5, a0_6⟩, a0_7, ⟨a0_8, a0_9⟩, a0_10⟩ : Shape) a1 w
  rw [some_inj1 (a := mostS (⟨a0_0, ⟨a0_1, a0_2⟩, ⟨a0_3, a0_4⟩, ⟨a0_5, a0_6⟩, a0_7, ⟨a0_8, a0_9⟩, a0_10⟩ : Shape) a1) h] at q
  exact q
def ware_Mould.f (a0_0 : Int) (a0_1 : Int) (a0_2 : Int) (a0_3 : Int) (a0_4 : Int) (a0_5 : Int) (a0_6 : Int) (a1_0 : Int) (a1_1 : Int) : Option (Int × Int × Int) := some (outR (mouldS (⟨a0_0, ⟨a0_1, a0_2⟩, ⟨a0_3, a0_4⟩, ⟨a0_5, a0_6⟩⟩ : Body) (⟨a1_0, a1_1⟩ : Rng)))
theorem ware_Mould.calls (a0_0 : Int) (a0_1 : Int) (a0_2 : Int) (a0_3 : Int) (a0_4 : Int) (a0_5 : Int) (a0_6 : Int) (a1_0 : Int) (a1_1 : Int) (r1 : Int) (r2 : Int) (r3 : Int) (w : World) (h : ware_Mould.f a0_0 a0_1 a0_2 a0_3 a0_4 a0_5 a0_6 a1_0 a1_1 = some (r1, r2, r3)) :
    Calls Try.prog 28 #[.agg #[.int .i64 a0_0, .int .i64 a0_1, .int .i64 a0_2, .int .i64 a0_3, .int .i64 a0_4, .int .i64 a0_5, .int .i64 a0_6], .agg #[.int .i64 a1_0, .int .i64 a1_1]] w fun e w' => e = .returned (.tuple #[.agg #[.int .i64 r1, .int .i64 r2], .int .i64 r3]) ∧ Below w.heap.size w w' := by
  have q := Mould_any (⟨a0_0, ⟨a0_1, a0_2⟩, ⟨a0_3, a0_4⟩, ⟨a0_5, a0_6⟩⟩ : Body) (⟨a1_0, a1_1⟩ : Rng) w
  rw [outR_some (p := mouldS (⟨a0_0, ⟨a0_1, a0_2⟩, ⟨a0_3, a0_4⟩, ⟨a0_5, a0_6⟩⟩ : Body) (⟨a1_0, a1_1⟩ : Rng)) h] at q
  exact q
def ware_Fired.f (a0_0 : Int) (a0_1 : Int) (a0_2 : Int) (a0_3 : Int) (a0_4 : Int) (a0_5 : Int) (a0_6 : Int) (a0_7 : Int) (a0_8 : Int) (a0_9 : Int) (a0_10 : Int) (a1_0 : Int) (a1_1 : Int) (a1_2 : Int) (a1_3 : Int) (a1_4 : Int) (a1_5 : Int) (a1_6 : Int) : Option (Int × Int × Int × Int × Int × Int × Int × Int × Int × Int × Int × Int) := some (outS (firedSS (⟨a0_0, ⟨a0_1, a0_2⟩, ⟨a0_3, a0_4⟩, ⟨a0_5, a0_6⟩, a0_7, ⟨a0_8, a0_9⟩, a0_10⟩ : Shape) (⟨a1_0, ⟨a1_1, a1_2⟩, ⟨a1_3, a1_4⟩, ⟨a1_5, a1_6⟩⟩ : Body)))
theorem ware_Fired.calls (a0_0 : Int) (a0_1 : Int) (a0_2 : Int) (a0_3 : Int) (a0_4 : Int) (a0_5 : Int) (a0_6 : Int) (a0_7 : Int) (a0_8 : Int) (a0_9 : Int) (a0_10 : Int) (a1_0 : Int) (a1_1 : Int) (a1_2 : Int) (a1_3 : Int) (a1_4 : Int) (a1_5 : Int) (a1_6 : Int) (r1 : Int) (r2 : Int) (r3 : Int) (r4 : Int) (r5 : Int) (r6 : Int) (r7 : Int) (r8 : Int) (r9 : Int) (r10 : Int) (r11 : Int) (r12 : Int) (w : World) (h : ware_Fired.f a0_0 a0_1 a0_2 a0_3 a0_4 a0_5 a0_6 a0_7 a0_8 a0_9 a0_10 a1_0 a1_1 a1_2 a1_3 a1_4 a1_5 a1_6 = some (r1, r2, r3, r4, r5, r6, r7, r8, r9, r10, r11, r12)) :
    Calls Try.prog 26 #[.agg #[.int .i64 a0_0, .int .i64 a0_1, .int .i64 a0_2, .int .i64 a0_3, .int .i64 a0_4, .int .i64 a0_5, .int .i64 a0_6, .int .i64 a0_7, .int .i64 a0_8, .int .i64 a0_9, .int .i64 a0_10], .agg #[.int .i64 a1_0, .int .i64 a1_1, .int .i64 a1_2, .int .i64 a1_3, .int .i64 a1_4, .int .i64 a1_5, .int .i64 a1_6]] w fun e w' => e = .returned (.tuple #[.agg #[.int .i64 r1, .int .i64 r2, .int .i64 r3, .int .i64 r4, .int .i64 r5, .int .i64 r6, .int .i64 r7, .int .i64 r8, .int .i64 r9, .int .i64 r10, .int .i64 r11], .int .i64 r12]) ∧ Below w.heap.size w w' := by
  have q := Fired_any (⟨a0_0, ⟨a0_1, a0_2⟩, ⟨a0_3, a0_4⟩, ⟨a0_5, a0_6⟩, a0_7, ⟨a0_8, a0_9⟩, a0_10⟩ : Shape) (⟨a1_0, ⟨a1_1, a1_2⟩, ⟨a1_3, a1_4⟩, ⟨a1_5, a1_6⟩⟩ : Body) w
  rw [outS_some (p := firedSS (⟨a0_0, ⟨a0_1, a0_2⟩, ⟨a0_3, a0_4⟩, ⟨a0_5, a0_6⟩, a0_7, ⟨a0_8, a0_9⟩, a0_10⟩ : Shape) (⟨a1_0, ⟨a1_1, a1_2⟩, ⟨a1_3, a1_4⟩, ⟨a1_5, a1_6⟩⟩ : Body)) h] at q
  exact q
def ware_isTrial.f (a0_0 : Int) (a0_1 : Int) (a0_2 : Int) (a0_3 : Int) (a0_4 : Int) : Option (Bool) := some (okTrial (⟨a0_0, ⟨a0_1, a0_2⟩, ⟨a0_3, a0_4⟩⟩ : Trial))
theorem ware_isTrial.calls (a0_0 : Int) (a0_1 : Int) (a0_2 : Int) (a0_3 : Int) (a0_4 : Int) (r : Bool) (w : World) (h : ware_isTrial.f a0_0 a0_1 a0_2 a0_3 a0_4 = some r) :
    Calls Try.prog 69 #[.agg #[.int .i64 a0_0, .int .i64 a0_1, .int .i64 a0_2, .int .i64 a0_3, .int .i64 a0_4]] w fun e w' => e = .returned (.bool r) ∧ Below w.heap.size w w' := by
  cases h; exact isTrial_any (⟨a0_0, ⟨a0_1, a0_2⟩, ⟨a0_3, a0_4⟩⟩ : Trial) w
def ware_Told.f (a0_0 : Int) (a0_1 : Int) (a0_2 : Int) (a0_3 : Int) (a0_4 : Int) : Option (Int × Int × Int) := some (outR (toldS (⟨a0_0, ⟨a0_1, a0_2⟩, ⟨a0_3, a0_4⟩⟩ : Trial)))
theorem ware_Told.calls (a0_0 : Int) (a0_1 : Int) (a0_2 : Int) (a0_3 : Int) (a0_4 : Int) (r1 : Int) (r2 : Int) (r3 : Int) (w : World) (h : ware_Told.f a0_0 a0_1 a0_2 a0_3 a0_4 = some (r1, r2, r3)) :
    Calls Try.prog 60 #[.agg #[.int .i64 a0_0, .int .i64 a0_1, .int .i64 a0_2, .int .i64 a0_3, .int .i64 a0_4]] w fun e w' => e = .returned (.tuple #[.agg #[.int .i64 r1, .int .i64 r2], .int .i64 r3]) ∧ Below w.heap.size w w' := by
  have q := Told_any (⟨a0_0, ⟨a0_1, a0_2⟩, ⟨a0_3, a0_4⟩⟩ : Trial) w
  rw [outR_some (p := toldS (⟨a0_0, ⟨a0_1, a0_2⟩, ⟨a0_3, a0_4⟩⟩ : Trial)) h] at q
  exact q
def trialOf (x : S57) : Trial := ⟨x.f0, ⟨x.f1.f0, x.f1.f1⟩, ⟨x.f2.f0, x.f2.f1⟩⟩
def ware_left.f (a0_0 : Int) (a0_1 : Int) (l1 : List (S57)) : Option (Int × Int × Bool) := if 0 ≤ a0_0 ∧ a0_0 ≤ a0_1 + 1 ∧ a0_1 ≤ 1000 ∧ (l1.map trialOf).all okTrial = true ∧ l1.length ≤ 1000000 then some ((leftS ⟨a0_0, a0_1⟩ (l1.map trialOf)).1.lo, (leftS ⟨a0_0, a0_1⟩ (l1.map trialOf)).1.hi, (leftS ⟨a0_0, a0_1⟩ (l1.map trialOf)).2) else none
theorem ware_left.calls (a0_0 : Int) (a0_1 : Int) (A1 : Option Addr) (c1 : Nat) (l1 : List (S57)) (r1 : Int) (r2 : Int) (r3 : Bool) (w : World) (hr1 : Kd.C k57 w A1 l1.length l1) (hc1 : l1.length ≤ c1) (h : ware_left.f a0_0 a0_1 l1 = some (r1, r2, r3)) :
    Calls Try.prog 68 #[.agg #[.int .i64 a0_0, .int .i64 a0_1], .slice A1 l1.length c1] w fun e w' => e = .returned (.tuple #[.agg #[.int .i64 r1, .int .i64 r2], .bool r3]) ∧ Below w.heap.size w w' := by
  unfold ware_left.f at h
  split at h
  · rename_i q; obtain ⟨q1, q2, q3, q4, q5⟩ := q; cases h
    have hrd : Rd 5 Trial.cells w (.slice A1 l1.length c1) (l1.map trialOf) := rd_of trialOf rfl (by decide) (fun x cs hk => k57_open hk) hr1 hc1
    exact left_any ⟨a0_0, a0_1⟩ (l1.map trialOf) _ w hrd (fun t ht => okTrial_iff.1 (List.all_eq_true.1 q4 t ht)) (by simp; omega) q1 q3 q2 (Nat.le_trans (leftL_len _ _ _) (by simp; omega))
  · cases h
def potbankref01_CheckShape.f (a0_0 : Int) (a0_1 : Int) (a0_2 : Int) (a0_3 : Int) (a0_4 : Int) (a0_5 : Int) (a0_6 : Int) (a0_7 : Int) (a0_8 : Int) (a0_9 : Int) (a0_10 : Int) : Option (Int) := some (errIf (okShape (⟨a0_0, ⟨a0_1, a0_2⟩, ⟨a0_3, a0_4⟩, ⟨a0_5, a0_6⟩, a0_7, ⟨a0_8, a0_9⟩, a0_10⟩ : Shape)) 10)
theorem potbankref01_CheckShape.calls (a0_0 : Int) (a0_1 : Int) (a0_2 : Int) (a0_3 : Int) (a0_4 : Int) (a0_5 : Int) (a0_6 : Int) (a0_7 : Int) (a0_8 : Int) (a0_9 : Int) (a0_10 : Int) (r : Int) (w : World) (h : potbankref01_CheckShape.f a0_0 a0_1 a0_2 a0_3 a0_4 a0_5 a0_6 a0_7 a0_8 a0_9 a0_10 = some r) :
    Calls Try.prog 42 #[.agg #[.int .i64 a0_0, .int .i64 a0_1, .int .i64 a0_2, .int .i64 a0_3, .int .i64 a0_4, .int .i64 a0_5, .int .i64 a0_6, .int .i64 a0_7, .int .i64 a0_8, .int .i64 a0_9, .int .i64 a0_10]] w fun e w' => e = .returned (.int .i64 r) ∧ Below w.heap.size w w' := by
  cases h; exact rCheckShape_any (⟨a0_0, ⟨a0_1, a0_2⟩, ⟨a0_3, a0_4⟩, ⟨a0_5, a0_6⟩, a0_7, ⟨a0_8, a0_9⟩, a0_10⟩ : Shape) w
def potbankref01_CheckBody.f (a0_0 : Int) (a0_1 : Int) (a0_2 : Int) (a0_3 : Int) (a0_4 : Int) (a0_5 : Int) (a0_6 : Int) : Option (Int) := some (errIf (okBody (⟨a0_0, ⟨a0_1, a0_2⟩, ⟨a0_3, a0_4⟩, ⟨a0_5, a0_6⟩⟩ : Body)) 11)
theorem potbankref01_CheckBody.calls (a0_0 : Int) (a0_1 : Int) (a0_2 : Int) (a0_3 : Int) (a0_4 : Int) (a0_5 : Int) (a0_6 : Int) (r : Int) (w : World) (h : potbankref01_CheckBody.f a0_0 a0_1 a0_2 a0_3 a0_4 a0_5 a0_6 = some r) :
    Calls Try.prog 46 #[.agg #[.int .i64 a0_0, .int .i64 a0_1, .int .i64 a0_2, .int .i64 a0_3, .int .i64 a0_4, .int .i64 a0_5, .int .i64 a0_6]] w fun e w' => e = .returned (.int .i64 r) ∧ Below w.heap.size w w' := by
  cases h; exact rCheckBody_any (⟨a0_0, ⟨a0_1, a0_2⟩, ⟨a0_3, a0_4⟩, ⟨a0_5, a0_6⟩⟩ : Body) w
def potbankref01_Shrunk.f (a0_0 : Int) (a0_1 : Int) (a0_2 : Int) (a0_3 : Int) (a0_4 : Int) (a0_5 : Int) (a0_6 : Int) (a1_0 : Int) (a1_1 : Int) : Option (Int × Int × Int) := some (outR (firedS (⟨a0_0, ⟨a0_1, a0_2⟩, ⟨a0_3, a0_4⟩, ⟨a0_5, a0_6⟩⟩ : Body) (⟨a1_0, a1_1⟩ : Rng) 2000 ⟨a0_1, a0_2⟩))
theorem potbankref01_Shrunk.calls (a0_0 : Int) (a0_1 : Int) (a0_2 : Int) (a0_3 : Int) (a0_4 : Int) (a0_5 : Int) (a0_6 : Int) (a1_0 : Int) (a1_1 : Int) (r1 : Int) (r2 : Int) (r3 : Int) (w : World) (h : potbankref01_Shrunk.f a0_0 a0_1 a0_2 a0_3 a0_4 a0_5 a0_6 a1_0 a1_1 = some (r1, r2, r3)) :
    Calls Try.prog 29 #[.agg #[.int .i64 a0_0, .int .i64 a0_1, .int .i64 a0_2, .int .i64 a0_3, .int .i64 a0_4, .int .i64 a0_5, .int .i64 a0_6], .agg #[.int .i64 a1_0, .int .i64 a1_1]] w fun e w' => e = .returned (.tuple #[.agg #[.int .i64 r1, .int .i64 r2], .int .i64 r3]) ∧ Below w.heap.size w w' := by
  have q := rShrunk_any (⟨a0_0, ⟨a0_1, a0_2⟩, ⟨a0_3, a0_4⟩, ⟨a0_5, a0_6⟩⟩ : Body) (⟨a1_0, a1_1⟩ : Rng) w
  rw [outR_some (p := firedS (⟨a0_0, ⟨a0_1, a0_2⟩, ⟨a0_3, a0_4⟩, ⟨a0_5, a0_6⟩⟩ : Body) (⟨a1_0, a1_1⟩ : Rng) 2000 ⟨a0_1, a0_2⟩) h] at q
  exact q
def potbankref01_Burnt.f (a0_0 : Int) (a0_1 : Int) (a0_2 : Int) (a0_3 : Int) (a0_4 : Int) (a0_5 : Int) (a0_6 : Int) (a1_0 : Int) (a1_1 : Int) : Option (Int × Int × Int) := some (outR (firedS (⟨a0_0, ⟨a0_1, a0_2⟩, ⟨a0_3, a0_4⟩, ⟨a0_5, a0_6⟩⟩ : Body) (⟨a1_0, a1_1⟩ : Rng) 100000 ⟨a0_3, a0_4⟩))
theorem potbankref01_Burnt.calls (a0_0 : Int) (a0_1 : Int) (a0_2 : Int) (a0_3 : Int) (a0_4 : Int) (a0_5 : Int) (a0_6 : Int) (a1_0 : Int) (a1_1 : Int) (r1 : Int) (r2 : Int) (r3 : Int) (w : World) (h : potbankref01_Burnt.f a0_0 a0_1 a0_2 a0_3 a0_4 a0_5 a0_6 a1_0 a1_1 = some (r1, r2, r3)) :
    Calls Try.prog 31 #[.agg #[.int .i64 a0_0, .int .i64 a0_1, .int .i64 a0_2, .int .i64 a0_3, .int .i64 a0_4, .int .i64 a0_5, .int .i64 a0_6], .agg #[.int .i64 a1_0, .int .i64 a1_1]] w fun e w' => e = .returned (.tuple #[.agg #[.int .i64 r1, .int .i64 r2], .int .i64 r3]) ∧ Below w.heap.size w w' := by
  have q := rBurnt_any (⟨a0_0, ⟨a0_1, a0_2⟩, ⟨a0_3, a0_4⟩, ⟨a0_5, a0_6⟩⟩ : Body) (⟨a1_0, a1_1⟩ : Rng) w
  rw [outR_some (p := firedS (⟨a0_0, ⟨a0_1, a0_2⟩, ⟨a0_3, a0_4⟩, ⟨a0_5, a0_6⟩⟩ : Body) (⟨a1_0, a1_1⟩ : Rng) 100000 ⟨a0_3, a0_4⟩) h] at q
  exact q
def potbankref01_Height.f (a0_0 : Int) (a0_1 : Int) (a0_2 : Int) (a0_3 : Int) (a0_4 : Int) (a0_5 : Int) (a0_6 : Int) (a0_7 : Int) (a0_8 : Int) (a0_9 : Int) (a0_10 : Int) (a1 : Int) : Option (Int × Int × Int) := some (outR (heightS (⟨a0_0, ⟨a0_1, a0_2⟩, ⟨a0_3, a0_4⟩, ⟨a0_5, a0_6⟩, a0_7, ⟨a0_8, a0_9⟩, a0_10⟩ : Shape) a1))
theorem potbankref01_Height.calls (a0_0 : Int) (a0_1 : Int) (a0_2 : Int) (a0_3 : Int) (a0_4 : Int) (a0_5 : Int) (a0_6 : Int) (a0_7 : Int) (a0_8 : Int) (a0_9 : Int) (a0_10 : Int) (a1 : Int) (r1 : Int) (r2 : Int) (r3 : Int) (w : World) (h : potbankref01_Height.f a0_0 a0_1 a0_2 a0_3 a0_4 a0_5 a0_6 a0_7 a0_8 a0_9 a0_10 a1 = some (r1, r2, r3)) :
    Calls Try.prog 12 #[.agg #[.int .i64 a0_0, .int .i64 a0_1, .int .i64 a0_2, .int .i64 a0_3, .int .i64 a0_4, .int .i64 a0_5, .int .i64 a0_6, .int .i64 a0_7, .int .i64 a0_8, .int .i64 a0_9, .int .i64 a0_10], .int .i64 a1] w fun e w' => e = .returned (.tuple #[.agg #[.int .i64 r1, .int .i64 r2], .int .i64 r3]) ∧ Below w.heap.size w w' := by
  have q := rHeight_any (⟨a0_0, ⟨a0_1, a0_2⟩, ⟨a0_3, a0_4⟩, ⟨a0_5, a0_6⟩, a0_7, ⟨a0_8, a0_9⟩, a0_10⟩ : Shape) a1 w
  rw [outR_some (p := heightS (⟨a0_0, ⟨a0_1, a0_2⟩, ⟨a0_3, a0_4⟩, ⟨a0_5, a0_6⟩, a0_7, ⟨a0_8, a0_9⟩, a0_10⟩ : Shape) a1) h] at q
  exact q
def potbankref01_Load.f (a0_0 : Int) (a0_1 : Int) (a0_2 : Int) (a0_3 : Int) (a0_4 : Int) (a0_5 : Int) (a0_6 : Int) (a0_7 : Int) (a0_8 : Int) (a0_9 : Int) (a0_10 : Int) (a1 : Int) (a2 : Int) : Option (Int × Int × Int) := some (outR (loadS (⟨a0_0, ⟨a0_1, a0_2⟩, ⟨a0_3, a0_4⟩, ⟨a0_5, a0_6⟩, a0_7, ⟨a0_8, a0_9⟩, a0_10⟩ : Shape) a1 a2))
theorem potbankref01_Load.calls (a0_0 : Int) (a0_1 : Int) (a0_2 : Int) (a0_3 : Int) (a0_4 : Int) (a0_5 : Int) (a0_6 : Int) (a0_7 : Int) (a0_8 : Int) (a0_9 : Int) (a0_10 : Int) (a1 : Int) (a2 : Int) (r1 : Int) (r2 : Int) (r3 : Int) (w : World) (h : potbankref01_Load.f a0_0 a0_1 a0_2 a0_3 a0_4 a0_5 a0_6 a0_7 a0_8 a0_9 a0_10 a1 a2 = some (r1, r2, r3)) :
    Calls Try.prog 14 #[.agg #[.int .i64 a0_0, .int .i64 a0_1, .int .i64 a0_2, .int .i64 a0_3, .int .i64 a0_4, .int .i64 a0_5, .int .i64 a0_6, .int .i64 a0_7, .int .i64 a0_8, .int .i64 a0_9, .int .i64 a0_10], .int .i64 a1, .int .i64 a2] w fun e w' => e = .returned (.tuple #[.agg #[.int .i64 r1, .int .i64 r2], .int .i64 r3]) ∧ Below w.heap.size w w' := by
  have q := rLoad_any (⟨a0_0, ⟨a0_1, a0_2⟩, ⟨a0_3, a0_4⟩, ⟨a0_5, a0_6⟩, a0_7, ⟨a0_8, a0_9⟩, a0_10⟩ : Shape) a1 a2 w
  rw [outR_some (p := loadS (⟨a0_0, ⟨a0_1, a0_2⟩, ⟨a0_3, a0_4⟩, ⟨a0_5, a0_6⟩, a0_7, ⟨a0_8, a0_9⟩, a0_10⟩ : Shape) a1 a2) h] at q
  exact q
def potbankref01_Stands.f (a0_0 : Int) (a0_1 : Int) (a0_2 : Int) (a0_3 : Int) (a0_4 : Int) (a0_5 : Int) (a0_6 : Int) (a0_7 : Int) (a0_8 : Int) (a0_9 : Int) (a0_10 : Int) (a1 : Int) : Option (Bool × Int) := some (standsS (⟨a0_0, ⟨a0_1, a0_2⟩, ⟨a0_3, a0_4⟩, ⟨a0_5, a0_6⟩, a0_7, ⟨a0_8, a0_9⟩, a0_10⟩ : Shape) a1)
theorem potbankref01_Stands.calls (a0_0 : Int) (a0_1 : Int) (a0_2 : Int) (a0_3 : Int) (a0_4 : Int) (a0_5 : Int) (a0_6 : Int) (a0_7 : Int) (a0_8 : Int) (a0_9 : Int) (a0_10 : Int) (a1 : Int) (r1 : Bool) (r2 : Int) (w : World) (h : potbankref01_Stands.f a0_0 a0_1 a0_2 a0_3 a0_4 a0_5 a0_6 a0_7 a0_8 a0_9 a0_10 a1 = some (r1, r2)) :
    Calls Try.prog 16 #[.agg #[.int .i64 a0_0, .int .i64 a0_1, .int .i64 a0_2, .int .i64 a0_3, .int .i64 a0_4, .int .i64 a0_5, .int .i64 a0_6, .int .i64 a0_7, .int .i64 a0_8, .int .i64 a0_9, .int .i64 a0_10], .int .i64 a1] w fun e w' => e = .returned (.tuple #[.bool r1, .int .i64 r2]) ∧ Below w.heap.size w w' := by
  have q := rStands_any (⟨a0_0, ⟨a0_1, a0_2⟩, ⟨a0_3, a0_4⟩, ⟨a0_5, a0_6⟩, a0_7, ⟨a0_8, a0_9⟩, a0_10⟩ : Shape) a1 w
  rw [some_inj1 (a := standsS (⟨a0_0, ⟨a0_1, a0_2⟩, ⟨a0_3, a0_4⟩, ⟨a0_5, a0_6⟩, a0_7, ⟨a0_8, a0_9⟩, a0_10⟩ : Shape) a1) h] at q
  exact q
def potbankref01_Most.f (a0_0 : Int) (a0_1 : Int) (a0_2 : Int) (a0_3 : Int) (a0_4 : Int) (a0_5 : Int) (a0_6 : Int) (a0_7 : Int) (a0_8 : Int) (a0_9 : Int) (a0_10 : Int) (a1 : Int) : Option (Int × Int) := some (mostS (⟨a0_0, ⟨a0_1, a0_2⟩, ⟨a0_3, a0_4⟩, ⟨a0_5, a0_6⟩, a0_7, ⟨a0_8, a0_9⟩, a0_10⟩ : Shape) a1)
theorem potbankref01_Most.calls (a0_0 : Int) (a0_1 : Int) (a0_2 : Int) (a0_3 : Int) (a0_4 : Int) (a0_5 : Int) (a0_6 : Int) (a0_7 : Int) (a0_8 : Int) (a0_9 : Int) (a0_10 : Int) (a1 : Int) (r1 : Int) (r2 : Int) (w : World) (h : potbankref01_Most.f a0_0 a0_1 a0_2 a0_3 a0_4 a0_5 a0_6 a0_7 a0_8 a0_9 a0_10 a1 = some (r1, r2)) :
    Calls Try.prog 18 #[.agg #[.int .i64 a0_0, .int .i64 a0_1, .int .i64 a0_2, .int .i64 a0_3, .int .i64 a0_4, .int .i64 a0_5, .int .i64 a0_6, .int .i64 a0_7, .int .i64 a0_8, .int .i64 a0_9, .int .i64 a0_10], .int .i64 a1] w fun e w' => e = .returned (.tuple #[.int .i64 r1, .int .i64 r2]) ∧ Below w.heap.size w w' := by
  have q := rMost_any (⟨a0_0, ⟨a0_1, a0_2⟩, ⟨a0_3, a0_4⟩, ⟨a0_5, a0_6⟩, a0_7, ⟨a0_8, a0_9⟩, a0_10⟩ : Shape) a1 w
  rw [some_inj1 (a := mostS (⟨a0_0, ⟨a0_1, a0_2⟩, ⟨a0_3, a0_4⟩, ⟨a0_5, a0_6⟩, a0_7, ⟨a0_8, a0_9⟩, a0_10⟩ : Shape) a1) h] at q
  exact q
def potbankref01_Mould.f (a0_0 : Int) (a0_1 : Int) (a0_2 : Int) (a0_3 : Int) (a0_4 : Int) (a0_5 : Int) (a0_6 : Int) (a1_0 : Int) (a1_1 : Int) : Option (Int × Int × Int) := some (outR (mouldS (⟨a0_0, ⟨a0_1, a0_2⟩, ⟨a0_3, a0_4⟩, ⟨a0_5, a0_6⟩⟩ : Body) (⟨a1_0, a1_1⟩ : Rng)))
theorem potbankref01_Mould.calls (a0_0 : Int) (a0_1 : Int) (a0_2 : Int) (a0_3 : Int) (a0_4 : Int) (a0_5 : Int) (a0_6 : Int) (a1_0 : Int) (a1_1 : Int) (r1 : Int) (r2 : Int) (r3 : Int) (w : World) (h : potbankref01_Mould.f a0_0 a0_1 a0_2 a0_3 a0_4 a0_5 a0_6 a1_0 a1_1 = some (r1, r2, r3)) :
    Calls Try.prog 32 #[.agg #[.int .i64 a0_0, .int .i64 a0_1, .int .i64 a0_2, .int .i64 a0_3, .int .i64 a0_4, .int .i64 a0_5, .int .i64 a0_6], .agg #[.int .i64 a1_0, .int .i64 a1_1]] w fun e w' => e = .returned (.tuple #[.agg #[.int .i64 r1, .int .i64 r2], .int .i64 r3]) ∧ Below w.heap.size w w' := by
  have q := rMould_any (⟨a0_0, ⟨a0_1, a0_2⟩, ⟨a0_3, a0_4⟩, ⟨a0_5, a0_6⟩⟩ : Body) (⟨a1_0, a1_1⟩ : Rng) w
  rw [outR_some (p := mouldS (⟨a0_0, ⟨a0_1, a0_2⟩, ⟨a0_3, a0_4⟩, ⟨a0_5, a0_6⟩⟩ : Body) (⟨a1_0, a1_1⟩ : Rng)) h] at q
  exact q
def potbankref01_Fired.f (a0_0 : Int) (a0_1 : Int) (a0_2 : Int) (a0_3 : Int) (a0_4 : Int) (a0_5 : Int) (a0_6 : Int) (a0_7 : Int) (a0_8 : Int) (a0_9 : Int) (a0_10 : Int) (a1_0 : Int) (a1_1 : Int) (a1_2 : Int) (a1_3 : Int) (a1_4 : Int) (a1_5 : Int) (a1_6 : Int) : Option (Int × Int × Int × Int × Int × Int × Int × Int × Int × Int × Int × Int) := some (outS (firedSS (⟨a0_0, ⟨a0_1, a0_2⟩, ⟨a0_3, a0_4⟩, ⟨a0_5, a0_6⟩, a0_7, ⟨a0_8, a0_9⟩, a0_10⟩ : Shape) (⟨a1_0, ⟨a1_1, a1_2⟩, ⟨a1_3, a1_4⟩, ⟨a1_5, a1_6⟩⟩ : Body)))
theorem potbankref01_Fired.calls (a0_0 : Int) (a0_1 : Int) (a0_2 : Int) (a0_3 : Int) (a0_4 : Int) (a0_5 : Int) (a0_6 : Int) (a0_7 : Int) (a0_8 : Int) (a0_9 : Int) (a0_10 : Int) (a1_0 : Int) (a1_1 : Int) (a1_2 : Int) (a1_3 : Int) (a1_4 : Int) (a1_5 : Int) (a1_6 : Int) (r1 : Int) (r2 : Int) (r3 : Int) (r4 : Int) (r5 : Int) (r6 : Int) (r7 : Int) (r8 : Int) (r9 : Int) (r10 : Int) (r11 : Int) (r12 : Int) (w : World) (h : potbankref01_Fired.f a0_0 a0_1 a0_2 a0_3 a0_4 a0_5 a0_6 a0_7 a0_8 a0_9 a0_10 a1_0 a1_1 a1_2 a1_3 a1_4 a1_5 a1_6 = some (r1, r2, r3, r4, r5, r6, r7, r8, r9, r10, r11, r12)) :
    Calls Try.prog 33 #[.agg #[.int .i64 a0_0, .int .i64 a0_1, .int .i64 a0_2, .int .i64 a0_3, .int .i64 a0_4, .int .i64 a0_5, .int .i64 a0_6, .int .i64 a0_7, .int .i64 a0_8, .int .i64 a0_9, .int .i64 a0_10], .agg #[.int .i64 a1_0, .int .i64 a1_1, .int .i64 a1_2, .int .i64 a1_3, .int .i64 a1_4, .int .i64 a1_5, .int .i64 a1_6]] w fun e w' => e = .returned (.tuple #[.agg #[.int .i64 r1, .int .i64 r2, .int .i64 r3, .int .i64 r4, .int .i64 r5, .int .i64 r6, .int .i64 r7, .int .i64 r8, .int .i64 r9, .int .i64 r10, .int .i64 r11], .int .i64 r12]) ∧ Below w.heap.size w w' := by
  have q := rFired_any (⟨a0_0, ⟨a0_1, a0_2⟩, ⟨a0_3, a0_4⟩, ⟨a0_5, a0_6⟩, a0_7, ⟨a0_8, a0_9⟩, a0_10⟩ : Shape) (⟨a1_0, ⟨a1_1, a1_2⟩, ⟨a1_3, a1_4⟩, ⟨a1_5, a1_6⟩⟩ : Body) w
  rw [outS_some (p := firedSS (⟨a0_0, ⟨a0_1, a0_2⟩, ⟨a0_3, a0_4⟩, ⟨a0_5, a0_6⟩, a0_7, ⟨a0_8, a0_9⟩, a0_10⟩ : Shape) (⟨a1_0, ⟨a1_1, a1_2⟩, ⟨a1_3, a1_4⟩, ⟨a1_5, a1_6⟩⟩ : Body)) h] at q
  exact q
def potbanklaw01_sane.f  : Option (Bool) := some true
theorem potbanklaw01_sane.calls  (r : Bool) (w : World) (h : potbanklaw01_sane.f  = some r) :
    Calls Try.prog 19 #[] w fun e w' => e = .returned (.bool r) ∧ Below w.heap.size w w' := by
  cases h; exact sane_any w
def potbankref01_Span.f (a0 : Int) (a1 : Int) (a2_0 : Int) (a2_1 : Int) (a2_2 : Int) : Option (Int × Int) := if 0 ≤ a2_0 ∧ 0 ≤ a2_1 ∧ a2_0 ≤ a2_2 ∧ a2_1 ≤ 1000000 ∧ a2_2 ≤ 1000000 then some ((spanS a0 a1 a2_0 a2_1 a2_2).lo, (spanS a0 a1 a2_0 a2_1 a2_2).hi) else none
theorem potbankref01_Span.calls (a0 : Int) (a1 : Int) (a2_0 : Int) (a2_1 : Int) (a2_2 : Int) (r1 : Int) (r2 : Int) (w : World) (h : potbankref01_Span.f a0 a1 a2_0 a2_1 a2_2 = some (r1, r2)) :
    Calls Try.prog 24 #[.int .i64 a0, .int .i64 a1, .agg #[.int .i64 a2_0, .int .i64 a2_1, .int .i64 a2_2]] w fun e w' => e = .returned (.agg #[.int .i64 r1, .int .i64 r2]) ∧ Below w.heap.size w w' := by
  unfold potbankref01_Span.f at h
  split at h
  · rename_i q; obtain ⟨q1, q2, q3, q4, q5⟩ := q; cases h; exact Span_any a0 a1 a2_0 a2_1 a2_2 w q1 q2 q3 q4 q5
  · cases h
def potbankref01_MadeBody.f (a0 : Int) (l1 : List Int) : Option (Int × Int × Int × Int × Int × Int × Int) := if l1.length ≤ 140737488355328 then some (outB (madeBody a0 l1)) else none
theorem potbankref01_MadeBody.calls (a0 : Int) (A1 : Option Addr) (c1 : Nat) (l1 : List Int) (r1 : Int) (r2 : Int) (r3 : Int) (r4 : Int) (r5 : Int) (r6 : Int) (r7 : Int) (w : World) (hr1 : Kd.C (Kd.int .i64) w A1 l1.length l1) (hc1 : l1.length ≤ c1) (h : potbankref01_MadeBody.f a0 l1 = some (r1, r2, r3, r4, r5, r6, r7)) :
    Calls Try.prog 23 #[.int .i64 a0, .slice A1 l1.length c1] w fun e w' => e = .returned (.agg #[.int .i64 r1, .int .i64 r2, .int .i64 r3, .int .i64 r4, .int .i64 r5, .int .i64 r6, .int .i64 r7]) ∧ Below w.heap.size w w' := by
  unfold potbankref01_MadeBody.f at h
  split at h
  · rename_i q
    have hrd : Rd 1 (fun x => [.int .i64 x]) w (.slice A1 l1.length c1) (l1.map id) := rd_of id rfl (by decide) (fun x cs hk => hk) hr1 hc1
    have z := MadeBody_any a0 l1 _ w (by simpa using hrd) q
    rw [outB_some (p := madeBody a0 l1) h] at z
    exact z
  · cases h
end Go.Proofs.Ytcgokimagimamaa.F
