/- Layer 1 in plain Lean: what shapes, bodies, ranges and piles are, and what the functions answer. -/
namespace Go.Proofs.Ytcgokimagimamaa
structure Rng where
  lo : Int
  hi : Int
structure Shape where
  id : Int
  wide : Rng
  deep : Rng
  high : Rng
  nest : Int
  weight : Rng
  bears : Int
structure Body where
  id : Int
  shrink : Rng
  loss : Rng
  heat : Rng
structure Trial where
  source : Int
  wet : Rng
  dry : Rng
def zR : Rng := ⟨0, 0⟩
def zShape : Shape := ⟨0, zR, zR, zR, 0, zR, 0⟩
def zBody : Body := ⟨0, zR, zR, zR⟩
def zTrial : Trial := ⟨0, zR, zR⟩
def inB (n lo hi : Int) : Bool := decide (lo ≤ n) && decide (n ≤ hi)
def partB (a b lo hi : Int) : Bool := decide (lo ≤ a) && decide (a ≤ b) && decide (b ≤ hi)
def partR (r : Rng) (lo hi : Int) : Bool := partB r.lo r.hi lo hi
def okShape (s : Shape) : Bool := inB s.id 1 999 && partR s.wide 0 2000 && partR s.deep 0 2000 && partR s.high 0 2000 && inB s.nest 0 s.high.lo && partR s.weight 0 100000 && inB s.bears 0 1000000
def okBody (b : Body) : Bool := inB b.id 1 999 && partR b.shrink 0 200 && partR b.loss 0 300 && partR b.heat 1 2000
def okTrial (t : Trial) : Bool := inB t.source 1 99999 && partR t.wet 1 2000 && partR t.dry 0 2000
def errIf (b : Bool) (e : Int) : Int := if b then 0 else e

theorem inB_iff {n lo hi : Int} : inB n lo hi = true ↔ lo ≤ n ∧ n ≤ hi := by simp [inB]
theorem partB_iff {a b lo hi : Int} : partB a b lo hi = true ↔ lo ≤ a ∧ a ≤ b ∧ b ≤ hi := by simp [partB, and_assoc]
theorem errIf_ne {b : Bool} {e : Int} (he : e ≠ 0) : (errIf b e = 0) = (b = true) := by cases b <;> simp [errIf, he]
theorem errIf_true {e : Int} : errIf true e = 0 := rfl
theorem errIf_false {e : Int} : errIf false e = e := rfl

structure ShapeOk (s : Shape) : Prop where
  id1 : 1 ≤ s.id
  id2 : s.id ≤ 999
  w1 : 0 ≤ s.wide.lo
  w2 : s.wide.lo ≤ s.wide.hi
  w3 : s.wide.hi ≤ 2000
  d1 : 0 ≤ s.deep.lo
  d2 : s.deep.lo ≤ s.deep.hi
  d3 : s.deep.hi ≤ 2000
  h1 : 0 ≤ s.high.lo
  h2 : s.high.lo ≤ s.high.hi
  h3 : s.high.hi ≤ 2000
  n1 : 0 ≤ s.nest
  n2 : s.nest ≤ s.high.lo
  g1 : 0 ≤ s.weight.lo
  g2 : s.weight.lo ≤ s.weight.hi
  g3 : s.weight.hi ≤ 100000
  b1 : 0 ≤ s.bears
  b2 : s.bears ≤ 1000000
theorem okShape_iff {s : Shape} : okShape s = true ↔ ShapeOk s := by
  simp only [okShape, partR, Bool.and_eq_true, inB_iff, partB_iff]
  constructor
  · rintro ⟨⟨⟨⟨⟨⟨⟨a1, a2⟩, b1, b2, b3⟩, c1, c2, c3⟩, d1, d2, d3⟩, e1, e2⟩, f1, f2, f3⟩, g1, g2⟩
    exact ⟨a1, a2, b1, b2, b3, c1, c2, c3, d1, d2, d3, e1, e2, f1, f2, f3, g1, g2⟩
  · rintro ⟨a1, a2, b1, b2, b3, c1, c2, c3, d1, d2, d3, e1, e2, f1, f2, f3, g1, g2⟩
    exact ⟨⟨⟨⟨⟨⟨⟨a1, a2⟩, b1, b2, b3⟩, c1, c2, c3⟩, d1, d2, d3⟩, e1, e2⟩, f1, f2, f3⟩, g1, g2⟩
structure BodyOk (b : Body) : Prop where
  id1 : 1 ≤ b.id
  id2 : b.id ≤ 999
  s1 : 0 ≤ b.shrink.lo
  s2 : b.shrink.lo ≤ b.shrink.hi
  s3 : b.shrink.hi ≤ 200
  l1 : 0 ≤ b.loss.lo
  l2 : b.loss.lo ≤ b.loss.hi
  l3 : b.loss.hi ≤ 300
  t1 : 1 ≤ b.heat.lo
  t2 : b.heat.lo ≤ b.heat.hi
  t3 : b.heat.hi ≤ 2000
theorem okBody_iff {b : Body} : okBody b = true ↔ BodyOk b := by
  simp only [okBody, partR, Bool.and_eq_true, inB_iff, partB_iff]
  constructor
  · rintro ⟨⟨⟨⟨a1, a2⟩, b1, b2, b3⟩, c1, c2, c3⟩, d1, d2, d3⟩
    exact ⟨a1, a2, b1, b2, b3, c1, c2, c3, d1, d2, d3⟩
  · rintro ⟨a1, a2, b1, b2, b3, c1, c2, c3, d1, d2, d3⟩
    exact ⟨⟨⟨⟨a1, a2⟩, b1, b2, b3⟩, c1, c2, c3⟩, d1, d2, d3⟩

/-! ### what fire makes -/
def turnLo (n hi : Int) : Int := n * (1000 - hi) / 1000
def turnHi (n lo : Int) : Int := (n * (1000 - lo) + 999) / 1000
def becomesR (wet by_ : Rng) : Rng := ⟨turnLo wet.lo by_.hi, turnHi wet.hi by_.lo⟩
def firedS (b : Body) (wet : Rng) (most : Int) (by_ : Rng) : Rng × Int :=
  if okBody b then (if partR wet 0 most then (becomesR wet by_, 0) else (zR, 1)) else (zR, 11)
theorem mul_bound {n h N : Int} (h0 : 0 ≤ n) (h1 : n ≤ N) (h2 : 0 ≤ h) (h3 : h ≤ 1000) : 0 ≤ n * (1000 - h) ∧ n * (1000 - h) ≤ N * 1000 := by
  constructor
  · exact Int.mul_nonneg h0 (by omega)
  · exact Int.le_trans (Int.mul_le_mul_of_nonneg_left (by omega : 1000 - h ≤ 1000) h0) (Int.mul_le_mul_of_nonneg_right h1 (by omega))
def firedShape (s : Shape) (b : Body) : Shape :=
  { s with wide := becomesR s.wide b.shrink, deep := becomesR s.deep b.shrink, high := becomesR s.high b.shrink, weight := becomesR s.weight b.loss, nest := turnLo s.nest b.shrink.hi }
/-- With the first k of wide, deep and high turned. -/
def firedTo (s : Shape) (b : Body) (k : Nat) : Shape :=
  { s with wide := if 0 < k then becomesR s.wide b.shrink else s.wide, deep := if 1 < k then becomesR s.deep b.shrink else s.deep, high := if 2 < k then becomesR s.high b.shrink else s.high }
def firedSS (s : Shape) (b : Body) : Shape × Int :=
  if okShape s then (if okBody b then (firedShape s b, 0) else (zShape, 11)) else (zShape, 10)

/-! ### division -/
theorem tdiv_down {n d : Int} (hd : 0 < d) : (if n.tmod d < 0 then n.tdiv d - 1 else n.tdiv d) = n / d := by
  have h1 := Int.tmod_add_mul_tdiv n d
  have h2 := Int.tmod_lt_of_pos n hd
  have h3 : -d < n.tmod d := Int.lt_tmod_of_pos n hd
  split
  · have := (Int.ediv_emod_unique (a := n) (b := d) (r := n.tmod d + d) (q := n.tdiv d - 1) hd).2 ⟨by rw [Int.mul_sub]; omega, by omega, by omega⟩
    exact this.1.symm
  · have := (Int.ediv_emod_unique (a := n) (b := d) (r := n.tmod d) (q := n.tdiv d) hd).2 ⟨by omega, by omega, by omega⟩
    exact this.1.symm
theorem tdiv_bound {n d N : Int} (hd : 0 < d) (h0 : -N ≤ n) (h1 : n ≤ N) (hN : 0 ≤ N) : -N ≤ n.tdiv d ∧ n.tdiv d ≤ N := by
  have key : ∀ m : Int, 0 ≤ m → m ≤ N → 0 ≤ m.tdiv d ∧ m.tdiv d ≤ N := fun m hm hmN => by
    rw [Int.tdiv_eq_ediv_of_nonneg hm]
    exact ⟨Int.ediv_nonneg hm (by omega), Int.le_trans (Int.ediv_le_self d hm) hmN⟩
  by_cases hn : 0 ≤ n
  · have := key n hn h1; omega
  · have := key (-n) (by omega) (by omega)
    rw [Int.neg_tdiv] at this
    omega
theorem tmod_bound {n d : Int} (hd : 0 < d) : -d < n.tmod d ∧ n.tmod d < d := ⟨Int.lt_tmod_of_pos n hd, Int.tmod_lt_of_pos n hd⟩
/-- n / d, rounded up. -/
def upDiv (n d : Int) : Int := -((-n) / d)

/-! ### moulds -/
def mouldOk (dry by_ : Rng) (n : Int) : Bool := decide (dry.lo ≤ turnLo n by_.hi) && decide (turnHi n by_.lo ≤ dry.hi)
def mouldTo (dry by_ : Rng) : Nat → Rng
  | 0 => ⟨-1, 0⟩
  | n + 1 => if mouldOk dry by_ n then ⟨if (mouldTo dry by_ n).lo < 0 then (n : Int) else (mouldTo dry by_ n).lo, n⟩ else mouldTo dry by_ n
def mouldS (b : Body) (dry : Rng) : Rng × Int :=
  if okBody b then (if partR dry 0 2000 then (if (mouldTo dry b.shrink 2001).lo < 0 then (zR, 3) else (mouldTo dry b.shrink 2001, 0)) else (zR, 1)) else (zR, 11)

def mouldLo (b : Body) (dry : Rng) : Int := upDiv (1000 * dry.lo) (1000 - b.shrink.hi)
def mouldHi (b : Body) (dry : Rng) : Int := min (1000 * dry.hi / (1000 - b.shrink.lo)) 2000
theorem upDiv_le {n d x : Int} (hd : 0 < d) : upDiv n d ≤ x ↔ n ≤ x * d := by
  unfold upDiv
  have h1 : -(-n / d) ≤ x ↔ -x ≤ -n / d := by omega
  rw [h1, Int.le_ediv_iff_mul_le hd, Int.neg_mul]
  omega
theorem mouldOk_iff {dry by_ : Rng} {n : Int} (hA : by_.hi ≤ 999) (hB : by_.lo ≤ 999) :
    mouldOk dry by_ n = true ↔ upDiv (1000 * dry.lo) (1000 - by_.hi) ≤ n ∧ n ≤ 1000 * dry.hi / (1000 - by_.lo) := by
  rw [upDiv_le (by omega), Int.le_ediv_iff_mul_le (by omega)]
  simp only [mouldOk, Bool.and_eq_true, decide_eq_true_eq]
  simp only [turnLo, turnHi]
  generalize n * (1000 - by_.hi) = x
  generalize n * (1000 - by_.lo) = y
  omega
theorem mouldTo_eq {dry by_ : Rng} (hA : by_.hi ≤ 999) (hB : by_.lo ≤ 999) (hL : 0 ≤ upDiv (1000 * dry.lo) (1000 - by_.hi)) : ∀ k : Nat,
    mouldTo dry by_ k = if upDiv (1000 * dry.lo) (1000 - by_.hi) ≤ min (1000 * dry.hi / (1000 - by_.lo)) ((k : Int) - 1) then
      ⟨upDiv (1000 * dry.lo) (1000 - by_.hi), min (1000 * dry.hi / (1000 - by_.lo)) ((k : Int) - 1)⟩ else ⟨-1, 0⟩ := by
  intro k
  have hg := fun n : Int => mouldOk_iff (dry := dry) (n := n) hA hB
  generalize upDiv (1000 * dry.lo) (1000 - by_.hi) = L at *
  generalize 1000 * dry.hi / (1000 - by_.lo) = H at *
  induction k with
  | zero => rw [if_neg (by omega)]; rfl
  | succ k ih =>
    rw [mouldTo]
    have h1 := hg k
    by_cases ho : mouldOk dry by_ k = true
    · have h2 := h1.1 ho
      rw [if_pos ho, ih, if_pos (c := L ≤ min H (((k + 1 : Nat) : Int) - 1)) (by omega)]
      by_cases hq : L ≤ min H ((k : Int) - 1)
      · rw [if_pos hq, if_neg (by simp; omega)]
        congr 1; omega
      · rw [if_neg hq, if_pos (by simp)]
        congr 1 <;> omega
    · have h2 : ¬ (L ≤ k ∧ (k : Int) ≤ H) := fun q => ho (h1.2 q)
      rw [if_neg ho, ih]
      by_cases hq : L ≤ min H ((k : Int) - 1)
      · rw [if_pos hq, if_pos (by omega)]
        congr 1; omega
      · rw [if_neg hq, if_neg (by omega)]
theorem mouldS_eq (b : Body) (dry : Rng) (hb : okBody b = true) (hp : partR dry 0 2000 = true) :
    mouldS b dry = if mouldLo b dry > mouldHi b dry then (zR, 3) else (⟨mouldLo b dry, mouldHi b dry⟩, 0) := by
  have ho := okBody_iff.1 hb
  obtain ⟨p1, p2, p3⟩ := partB_iff.1 hp
  have h3 := ho.s3
  have h2 := ho.s2
  have hL : 0 ≤ upDiv (1000 * dry.lo) (1000 - b.shrink.hi) := by
    unfold upDiv
    have : -(1000 * dry.lo) / (1000 - b.shrink.hi) ≤ 0 := by
      by_cases hz : dry.lo = 0
      · rw [hz]; simp
      · have := Int.ediv_neg_of_neg_of_pos (a := -(1000 * dry.lo)) (b := 1000 - b.shrink.hi) (by omega) (by omega); omega
    omega
  have hM := mouldTo_eq (dry := dry) (by omega : b.shrink.hi ≤ 999) (by omega : b.shrink.lo ≤ 999) hL 2001
  unfold mouldS mouldLo mouldHi
  rw [if_pos hb, if_pos hp, hM]
  clear hM
  generalize upDiv (1000 * dry.lo) (1000 - b.shrink.hi) = L at *
  generalize 1000 * dry.hi / (1000 - b.shrink.lo) = H at *
  by_cases hq : L ≤ min H (((2001 : Nat) : Int) - 1)
  · rw [if_pos hq, if_neg (by simp; omega), if_neg (by omega)]
    have e : min H (((2001 : Nat) : Int) - 1) = min H 2000 := by omega
    rw [e]
  · rw [if_neg hq, if_pos (by simp), if_pos (by omega)]

/-! ### piles -/
def pileErr (s : Shape) (many : Int) : Int := if okShape s then (if inB many 1 40 then 0 else 14) else 10
def pileHigh (high nest many : Int) : Int := high + (many - 1) * (high - nest)
def heightS (s : Shape) (many : Int) : Rng × Int :=
  if pileErr s many = 0 then (⟨pileHigh s.high.lo s.nest many, pileHigh s.high.hi s.nest many⟩, 0) else (zR, pileErr s many)
def loadS (s : Shape) (many at_ : Int) : Rng × Int :=
  if pileErr s many = 0 then (if inB at_ 0 (many - 1) then (⟨(many - 1 - at_) * s.weight.lo, (many - 1 - at_) * s.weight.hi⟩, 0) else (zR, 1)) else (zR, pileErr s many)
def standsB (s : Shape) (many : Int) : Bool := decide ((many - 1) * s.weight.hi ≤ s.bears)
def standsS (s : Shape) (many : Int) : Bool × Int :=
  if pileErr s many = 0 then (standsB s many, 0) else (false, pileErr s many)
def fitsPile (s : Shape) (high many : Int) : Bool := standsB s many && decide (pileHigh s.high.hi s.nest many ≤ high)
/-- The greatest number from n down that does; 0 if none. -/
def mostFrom (p : Int → Bool) : Nat → Int
  | 0 => 0
  | n + 1 => if p (n + 1 : Nat) then ((n + 1 : Nat) : Int) else mostFrom p n
def mostS (s : Shape) (high : Int) : Int × Int :=
  if okShape s then (if mostFrom (fitsPile s high) 40 = 0 then (0, 3) else (mostFrom (fitsPile s high) 40, 0)) else (0, 10)
theorem mostFrom_nonneg (p : Int → Bool) (n : Nat) : 0 ≤ mostFrom p n ∧ mostFrom p n ≤ n := by
  induction n with
  | zero => simp [mostFrom]
  | succ n ih => unfold mostFrom; split <;> omega
theorem pile_bound {high nest many : Int} (h0 : 0 ≤ nest) (h1 : nest ≤ high) (h2 : high ≤ 2000) (h3 : 1 ≤ many) (h4 : many ≤ 40) :
    0 ≤ (many - 1) * (high - nest) ∧ (many - 1) * (high - nest) ≤ 100000 := by
  constructor
  · exact Int.mul_nonneg (by omega) (by omega)
  · exact Int.le_trans (Int.mul_le_mul_of_nonneg_left (by omega : high - nest ≤ 2000) (by omega)) (by omega)
theorem load_bound {many at_ g : Int} (h0 : 0 ≤ g) (h1 : g ≤ 100000) (h2 : 0 ≤ at_) (h3 : at_ ≤ many - 1) (h4 : many ≤ 40) :
    0 ≤ (many - 1 - at_) * g ∧ (many - 1 - at_) * g ≤ 4000000 := by
  constructor
  · exact Int.mul_nonneg (by omega) h0
  · exact Int.le_trans (Int.mul_le_mul_of_nonneg_left h1 (by omega)) (by omega)

/-! ### trials -/
def allowsB (t : Trial) (by_ : Int) : Bool := decide (t.wet.lo * (1000 - by_) ≤ 1000 * t.dry.hi) && decide (1000 * t.dry.lo ≤ t.wet.hi * (1000 - by_))
structure TrialOk (t : Trial) : Prop where
  s1 : 1 ≤ t.source
  s2 : t.source ≤ 99999
  w1 : 1 ≤ t.wet.lo
  w2 : t.wet.lo ≤ t.wet.hi
  w3 : t.wet.hi ≤ 2000
  d1 : 0 ≤ t.dry.lo
  d2 : t.dry.lo ≤ t.dry.hi
  d3 : t.dry.hi ≤ 2000
theorem okTrial_iff {t : Trial} : okTrial t = true ↔ TrialOk t := by
  simp only [okTrial, partR, Bool.and_eq_true, inB_iff, partB_iff]
  constructor
  · rintro ⟨⟨⟨a1, a2⟩, b1, b2, b3⟩, c1, c2, c3⟩
    exact ⟨a1, a2, b1, b2, b3, c1, c2, c3⟩
  · rintro ⟨a1, a2, b1, b2, b3, c1, c2, c3⟩
    exact ⟨⟨⟨a1, a2⟩, b1, b2, b3⟩, c1, c2, c3⟩
def okBy (l : List Trial) (by_ : Int) : Bool := l.all fun t => allowsB t by_
/-- The numbers from lo on, n of them, that all trials allow. -/
def allowedL (l : List Trial) : Nat → Int → List Int
  | 0, _ => []
  | n + 1, lo => if okBy l lo then lo :: allowedL l n (lo + 1) else allowedL l n (lo + 1)
def leftL (r : Rng) (l : List Trial) : List Int := allowedL l (r.hi - r.lo + 1).toNat r.lo
def leftS (r : Rng) (l : List Trial) : Rng × Bool :=
  match leftL r l with
  | [] => (zR, false)
  | x :: t => (⟨x, (x :: t).getLast (by simp)⟩, true)
def toldS (t : Trial) : Rng × Int :=
  if okTrial t then (if (leftS ⟨0, 200⟩ [t]).2 then ((leftS ⟨0, 200⟩ [t]).1, 0) else (zR, 3)) else (zR, 13)
theorem not_okBy (l : List Trial) (b : Int) : (l.any fun t => !allowsB t b) = !okBy l b := by
  induction l with
  | nil => rfl
  | cons x t ih => simp only [List.any_cons, okBy, List.all_cons] at *; rw [ih]; simp [Bool.not_and]
end Go.Proofs.Ytcgokimagimamaa
