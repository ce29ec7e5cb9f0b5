/- The calculus over shadows, and contracts: ShA, ShB, ShC, ShD, ShE, ShF, ShG, ShH, ShI, ShJ, ShK, ShKm, ShL, ShM, ShN. -/
import Derived.RangeFuncFrom
import Derived.Below
import Derived.Laws.Cells
import Derived.Laws.Build
import Derived.Laws.Slices
import Derived.Laws.StructEq
import Derived.KernelRfl
import Derived.Laws.Tables
import Derived.Laws.Append
import Derived.ChangeKeysEq
import Derived.MapKept
import Derived.Laws.Sem
set_option linter.all false
section
namespace Go.Sh
open Go.RowKit
set_option linter.unusedVariables false

inductive V where
  | b (x : Bool) | i (k : IntKind) (n : Int) | s (x : ByteArray)
  | agg (cs : List V) | tup (cs : List V)
  | nsl | fs0 | fsl (rows : List (List V)) | rsl (id k off len cap : Nat) (ex : Bool)
  | npt | rpt (id k row off : Nat) | fpt (row : List V) (off : Nat)
  | fn (f : Fn) (first caps : List V) | nfn
  | ifc (t : TypeId) (v : V) | nifc
  | nmp | rmp (id : Nat)
  | yld (id : Nat)
  | skp
  | junk
  deriving Inhabited

def V.cells : V → List V | .agg cs => cs | v => [v]
/-- A value that fills one cell. -/
def V.one : V → Bool | .agg _ => false | .tup _ => false | .skp => false | .junk => false | _ => true

/- The places of one's own that a value names lie below n. (Lists that nobody writes name none.) -/
mutual
def V.bel (n : Nat) : V → Bool
  | .agg cs => belL n cs
  | .tup cs => belL n cs
  | .fn _ a b => belL n a && belL n b
  | .ifc _ v => v.bel n
  | .rsl id _ _ _ _ _ => id < n
  | .rpt id _ _ _ => id < n
  | .rmp id => id < n
  | .yld id => id < n
  | _ => true
def belL (n : Nat) : List V → Bool
  | [] => true
  | v :: r => v.bel n && belL n r
end

theorem belL_get {n : Nat} : ∀ {l : List V} {j : Nat} {v : V}, belL n l = true → l[j]? = some v → v.bel n = true
  | [], j, v, h, e => by simp at e
  | x :: r, 0, v, h, e => by simp [belL] at h e; rw [← e]; exact h.1
  | x :: r, j + 1, v, h, e => by simp [belL] at h e; exact belL_get h.2 e

/-- A block of one's own. -/
inductive Blk where
  | row (k : Nat) (rows : List (List V))
  | mp (es : List (V × V))
  | lp (r : Loop) (E : List (Nat × V))
  | dead
  deriving Inhabited

/-- The world; the blocks that are somebody's own (no list may lie there); where one's own blocks lie, and how many cells each has; how many there are. -/
structure Cx where
  w : World
  X : Nat → Prop
  ρ : Nat → Option (Nat × Nat)
  N : Nat

inductive R (c : Cx) : V → Value → Prop
  | b (x : Bool) : R c (.b x) (.bool x)
  | i (k : IntKind) (n : Int) : R c (.i k n) (.int k n)
  | s (x : ByteArray) : R c (.s x) (.string x)
  | agg (cs : List V) (us : List Value) : cs.length = us.length → (∀ (j : Nat) (v : V) (u : Value), cs[j]? = some v → us[j]? = some u → R c v u) → R c (.agg cs) (.agg us.toArray)
  | tup (cs : List V) (us : List Value) : cs.length = us.length → (∀ (j : Nat) (v : V) (u : Value), cs[j]? = some v → us[j]? = some u → R c v u) → R c (.tup cs) (.tuple us.toArray)
  | nsl : R c .nsl (.slice none 0 0)
  | fs0 (a : Option Addr) : R c .fs0 (.slice a 0 0)
  | fsl0 (a : Option Addr) (cap : Nat) : (a = none → cap = 0) → R c (.fsl []) (.slice a 0 cap)
  | fsl (rows : List (List V)) (a o k cap : Nat) (cells : Array Value) (e : TypeId) (fz : Nat × Nat) : c.w.heap[a]? = some (.cells cells e fz) → ¬ c.X a →
      (∀ row ∈ rows, row.length = k) → o + rows.length * k ≤ cells.size → rows.length ≤ cap → (∀ row ∈ rows, belL 0 row = true) →
      (∀ (i : Nat) (row : List V) (j : Nat) (v : V) (u : Value), rows[i]? = some row → row[j]? = some v → cells[o + i * k + j]? = some u → R c v u) →
      R c (.fsl rows) (.slice (some ⟨a, o, none⟩) rows.length cap)
  | rsl (id k off len cap : Nat) (ex : Bool) (a : Addr) (q : Nat) : id < c.N → a.spot = none → len ≤ q → cap ≤ q → (ex = true → q = cap) →
      (∀ b sz, c.ρ id = some (b, sz) → (0 < q → a = ⟨b, off * k, none⟩) ∧ (off + q) * k ≤ sz) → R c (.rsl id k off len cap ex) (.slice (some a) len q)
  | npt : R c .npt (.pointer none)
  | rpt (id k row off : Nat) (a : Addr) : id < c.N → a.spot = none → (∀ b sz, c.ρ id = some (b, sz) → a = ⟨b, row * k + off, none⟩) → R c (.rpt id k row off) (.pointer (some a))
  | fpt (row : List V) (off a o : Nat) (cells : Array Value) (e : TypeId) (fz : Nat × Nat) : c.w.heap[a]? = some (.cells cells e fz) → ¬ c.X a → o + row.length ≤ cells.size → belL 0 row = true →
      (∀ (j : Nat) (v : V) (u : Value), row[j]? = some v → cells[o + j]? = some u → R c v u) → R c (.fpt row off) (.pointer (some ⟨a, o + off, none⟩))
  | fn (f : Fn) (fs cs : List V) (us vs : List Value) : fs.length = us.length → cs.length = vs.length →
      (∀ (j : Nat) (v : V) (u : Value), fs[j]? = some v → us[j]? = some u → R c v u) → (∀ (j : Nat) (v : V) (u : Value), cs[j]? = some v → vs[j]? = some u → R c v u) →
      R c (.fn f fs cs) (.func f us.toArray vs.toArray)
  | nfn : R c .nfn .nilFunc
  | ifc (t : TypeId) (v : V) (u : Value) : R c v u → R c (.ifc t v) (.iface t u)
  | nifc : R c .nifc .nilIface
  | nmp : R c .nmp (.map none)
  | rmp (id a : Nat) : id < c.N → (∀ b sz, c.ρ id = some (b, sz) → a = b) → R c (.rmp id) (.map (some a))
  | yld (id a : Nat) : id < c.N → (∀ b sz, c.ρ id = some (b, sz) → a = b) → R c (.yld id) (.func (.yield a) #[] #[])
  | skp : R c .skp undef
  | junk (u : Value) : R c .junk u

/-- What a reading needs of a later world. -/
structure Sub (c c' : Cx) : Prop where
  keep : ∀ b, b < c.w.heap.size → ¬ c.X b → c'.w.heap[b]? = c.w.heap[b]? ∧ ¬ c'.X b
  N : c.N ≤ c'.N
  ρ : ∀ id, id < c.N → c'.ρ id = c.ρ id ∨ c'.ρ id = none

theorem lt_of_get {α : Type} {a : Array α} {i : Nat} {x : α} (h : a[i]? = some x) : i < a.size := (Array.getElem?_eq_some_iff.1 h).1

/-- What a reading that names places below n needs of another context. -/
structure SubN (n : Nat) (c c' : Cx) : Prop where
  keep : ∀ b, b < c.w.heap.size → ¬ c.X b → c'.w.heap[b]? = c.w.heap[b]? ∧ ¬ c'.X b
  N : ∀ id, id < n → id < c.N → id < c'.N
  ρ : ∀ id, id < n → id < c.N → c'.ρ id = c.ρ id ∨ c'.ρ id = none

mutual
theorem V.bel_mono {n m : Nat} (h : n ≤ m) : ∀ (v : V), v.bel n = true → v.bel m = true
  | .agg cs, e => by simp only [V.bel] at e ⊢; exact belL_mono h cs e
  | .tup cs, e => by simp only [V.bel] at e ⊢; exact belL_mono h cs e
  | .fn _ a b, e => by simp only [V.bel, Bool.and_eq_true] at e ⊢; exact ⟨belL_mono h a e.1, belL_mono h b e.2⟩
  | .ifc _ v, e => by simp only [V.bel] at e ⊢; exact V.bel_mono h v e
  | .rsl .., e => by simp [V.bel] at e ⊢; omega
  | .rpt .., e => by simp [V.bel] at e ⊢; omega
  | .rmp _, e => by simp [V.bel] at e ⊢; omega
  | .yld _, e => by simp [V.bel] at e ⊢; omega
  | .b _, _ => rfl
  | .i _ _, _ => rfl
  | .s _, _ => rfl
  | .nsl, _ => rfl
  | .fs0, _ => rfl
  | .fsl _, _ => rfl
  | .npt, _ => rfl
  | .fpt _ _, _ => rfl
  | .nfn, _ => rfl
  | .nifc, _ => rfl
  | .nmp, _ => rfl
  | .skp, _ => rfl
  | .junk, _ => rfl
theorem belL_mono {n m : Nat} (h : n ≤ m) : ∀ (l : List V), belL n l = true → belL m l = true
  | [], _ => rfl
  | v :: r, e => by simp only [belL, Bool.and_eq_true] at e ⊢; exact ⟨V.bel_mono h v e.1, belL_mono h r e.2⟩
end

theorem R.rectx {n : Nat} {c c' : Cx} {v : V} {u : Value} (s : SubN n c c') (h : R c v u) (hv : v.bel n = true) : R c' v u := by
  have key : ∀ (id : Nat) (q : Nat → Nat → Prop), id < n → id < c.N → (∀ b sz, c.ρ id = some (b, sz) → q b sz) → ∀ b sz, c'.ρ id = some (b, sz) → q b sz := fun id q hn hi h b sz hr => by
    rcases s.ρ id hn hi with e | e
    · exact h b sz (e ▸ hr)
    · rw [e] at hr; cases hr
  induction h with
  | b x => exact .b x
  | i k n => exact .i k n
  | s x => exact .s x
  | agg cs us hl _ ih => exact .agg cs us hl (fun j v u e1 e2 => ih j v u e1 e2 (belL_get (by simpa [V.bel] using hv) e1))
  | tup cs us hl _ ih => exact .tup cs us hl (fun j v u e1 e2 => ih j v u e1 e2 (belL_get (by simpa [V.bel] using hv) e1))
  | nsl => exact .nsl
  | fs0 a => exact .fs0 a
  | fsl0 a cap h => exact .fsl0 a cap h
  | fsl rows a o k cap cells e fz hb hx hk hs hc hp _ ih =>
    obtain ⟨h1, h2⟩ := s.keep a (lt_of_get hb) hx
    exact .fsl rows a o k cap cells e fz (h1.trans hb) h2 hk hs hc hp (fun i row j v u e1 e2 e3 => ih i row j v u e1 e2 e3 (V.bel_mono (Nat.zero_le _) v (belL_get (hp row (List.mem_of_getElem? e1)) e2)))
  | rsl id k off len cap ex a q hi hs hl hq hx hp =>
    simp [V.bel] at hv
    exact .rsl id k off len cap ex a q (s.N id hv hi) hs hl hq hx (key id (fun b sz => (0 < q → a = ⟨b, off * k, none⟩) ∧ (off + q) * k ≤ sz) hv hi hp)
  | npt => exact .npt
  | rpt id k row off a hi hs hp =>
    simp [V.bel] at hv
    exact .rpt id k row off a (s.N id hv hi) hs (key id (fun b _ => a = ⟨b, row * k + off, none⟩) hv hi hp)
  | fpt row off a o cells e fz hb hx hs hp _ ih =>
    obtain ⟨h1, h2⟩ := s.keep a (lt_of_get hb) hx
    exact .fpt row off a o cells e fz (h1.trans hb) h2 hs hp (fun j v u e1 e2 => ih j v u e1 e2 (V.bel_mono (Nat.zero_le _) v (belL_get hp e1)))
  | fn f fs cs us vs h1 h2 _ _ ih1 ih2 =>
    simp only [V.bel, Bool.and_eq_true] at hv
    exact .fn f fs cs us vs h1 h2 (fun j v u e1 e2 => ih1 j v u e1 e2 (belL_get hv.1 e1)) (fun j v u e1 e2 => ih2 j v u e1 e2 (belL_get hv.2 e1))
  | nfn => exact .nfn
  | ifc t v u _ ih => exact .ifc t v u (ih (by simpa [V.bel] using hv))
  | nifc => exact .nifc
  | nmp => exact .nmp
  | rmp id a hi hp =>
    simp [V.bel] at hv
    exact .rmp id a (s.N id hv hi) (key id (fun b _ => a = b) hv hi hp)
  | yld id a hi hp =>
    simp [V.bel] at hv
    exact .yld id a (s.N id hv hi) (key id (fun b _ => a = b) hv hi hp)
  | skp => exact .skp
  | junk u => exact .junk u

theorem R.mono {c c' : Cx} {v : V} {u : Value} (s : Sub c c') (h : R c v u) : R c' v u := by
  have key : ∀ (id : Nat) (q : Nat → Nat → Prop), id < c.N → (∀ b sz, c.ρ id = some (b, sz) → q b sz) → ∀ b sz, c'.ρ id = some (b, sz) → q b sz := fun id q hi h b sz hr => by
    rcases s.ρ id hi with e | e
    · exact h b sz (e ▸ hr)
    · rw [e] at hr; cases hr
  induction h with
  | b x => exact .b x
  | i k n => exact .i k n
  | s x => exact .s x
  | agg cs us hl _ ih => exact .agg cs us hl ih
  | tup cs us hl _ ih => exact .tup cs us hl ih
  | nsl => exact .nsl
  | fs0 a => exact .fs0 a
  | fsl0 a cap h => exact .fsl0 a cap h
  | fsl rows a o k cap cells e fz hb hx hk hs hc hp _ ih =>
    obtain ⟨h1, h2⟩ := s.keep a (lt_of_get hb) hx
    exact .fsl rows a o k cap cells e fz (h1.trans hb) h2 hk hs hc hp ih
  | rsl id k off len cap ex a q hi hs hl hq hx hp => exact .rsl id k off len cap ex a q (Nat.lt_of_lt_of_le hi s.N) hs hl hq hx (key id (fun b sz => (0 < q → a = ⟨b, off * k, none⟩) ∧ (off + q) * k ≤ sz) hi hp)
  | npt => exact .npt
  | rpt id k row off a hi hs hp => exact .rpt id k row off a (Nat.lt_of_lt_of_le hi s.N) hs (key id (fun b _ => a = ⟨b, row * k + off, none⟩) hi hp)
  | fpt row off a o cells e fz hb hx hs hp _ ih =>
    obtain ⟨h1, h2⟩ := s.keep a (lt_of_get hb) hx
    exact .fpt row off a o cells e fz (h1.trans hb) h2 hs hp ih
  | fn f fs cs us vs h1 h2 _ _ ih1 ih2 => exact .fn f fs cs us vs h1 h2 ih1 ih2
  | nfn => exact .nfn
  | ifc t v u _ ih => exact .ifc t v u ih
  | nifc => exact .nifc
  | nmp => exact .nmp
  | rmp id a hi hp => exact .rmp id a (Nat.lt_of_lt_of_le hi s.N) (key id (fun b _ => a = b) hi hp)
  | yld id a hi hp => exact .yld id a (Nat.lt_of_lt_of_le hi s.N) (key id (fun b _ => a = b) hi hp)
  | skp => exact .skp
  | junk u => exact .junk u

theorem R.one {c : Cx} {v : V} {u : Value} (h : R c v u) (ho : v.one = true) : u.oneCell' = true := by
  cases h <;> first | rfl | cases ho

/-- The cells from o on hold these rows. -/
def CellsAs (c : Cx) (k : Nat) (rows : List (List V)) (cells : Array Value) (o : Nat) : Prop :=
  ∀ (i : Nat) (row : List V) (j : Nat) (v : V) (u : Value), rows[i]? = some row → row[j]? = some v → cells[o + i * k + j]? = some u → R c v u

/-- Slots. -/
abbrev Env := List (Nat × V)
def get : Env → Nat → Option V | [], _ => none | (k, v) :: r, t => if k = t then some v else get r t
def put (e : Env) (t : Nat) (v : V) : Env := (t, v) :: e
def putO (e : Env) (t : Option Nat) (v : V) : Env := match t with | some t => put e t v | none => e
def keep (e : Env) : List Nat → Env | [] => [] | t :: r => match get e t with | some v => (t, v) :: keep e r | none => keep e r

def RE (c : Cx) (E : Env) (tmps : Array Value) : Prop := ∀ t v, get E t = some v → ∃ u, tmps[t]? = some u ∧ R c v u

theorem RE.mono {c c' : Cx} {E : Env} {tmps : Array Value} (s : Sub c c') (h : RE c E tmps) : RE c' E tmps := fun t v e => let ⟨u, h1, h2⟩ := h t v e; ⟨u, h1, h2.mono s⟩

/-- A block of one's own lies at b. -/
def BlkAs (c : Cx) (b sz : Nat) : Blk → Prop
  | .row k rows => ∃ cells e, c.w.heap[b]? = some (.cells cells e (0, 0)) ∧ cells.size = sz ∧ (∀ row ∈ rows, row.length = k) ∧ rows.length * k ≤ sz ∧
      (∀ row ∈ rows, ∀ v ∈ row, v.one = true) ∧ CellsAs c k rows cells 0
  | .mp es => ∃ ents clock, c.w.heap[b]? = some (.map ents clock) ∧ ents.size = es.length ∧ ∀ (i : Nat) (x : V × V) (e : MapEntry), es[i]? = some x → ents[i]? = some e → R c x.1 e.key ∧ R c x.2 e.val
  | .lp r E => c.w.heap[b]? = some (.loop r) ∧ RE c E r.tmps
  | .dead => False

/-- What a block of one's own names. -/
def Blk.has : Blk → V → Prop
  | .row _ rows, v => ∃ row ∈ rows, v ∈ row
  | .mp es, v => ∃ e ∈ es, v = e.1 ∨ v = e.2
  | .lp _ E, v => ∃ t, get E t = some v
  | .dead, _ => False

theorem BlkAs.moveC {c c' : Cx} {b sz : Nat} {blk : Blk} (h : BlkAs c b sz blk) (hh : c'.w.heap[b]? = c.w.heap[b]?) (conv : ∀ v u, blk.has v → R c v u → R c' v u) : BlkAs c' b sz blk := by
  cases blk with
  | row k rows =>
    obtain ⟨cells, ee, g1, g2, g3, g4, g5, g6⟩ := h
    exact ⟨cells, ee, hh.trans g1, g2, g3, g4, g5, fun i row j v u e1 e2 e3 => conv v u ⟨row, List.mem_of_getElem? e1, List.mem_of_getElem? e2⟩ (g6 i row j v u e1 e2 e3)⟩
  | mp es =>
    obtain ⟨ents, clock, g1, g2, g3⟩ := h
    exact ⟨ents, clock, hh.trans g1, g2, fun i x e a b => ⟨conv _ _ ⟨x, List.mem_of_getElem? a, .inl rfl⟩ (g3 i x e a b).1, conv _ _ ⟨x, List.mem_of_getElem? a, .inr rfl⟩ (g3 i x e a b).2⟩⟩
  | lp r E =>
    obtain ⟨g1, g2⟩ := h
    exact ⟨hh.trans g1, fun t v hg => let ⟨u, h1, h2⟩ := g2 t v hg; ⟨u, h1, conv v u ⟨t, hg⟩ h2⟩⟩
  | dead => exact h

theorem BlkAs.move {c c' : Cx} {b sz : Nat} {blk : Blk} (h : BlkAs c b sz blk) (hh : c'.w.heap[b]? = c.w.heap[b]?) (s : Sub c c') : BlkAs c' b sz blk := h.moveC hh fun _ _ _ hR => hR.mono s

theorem BlkAs.seen {c : Cx} {b sz : Nat} {blk : Blk} (h : BlkAs c b sz blk) {v : V} (hv : blk.has v) : ∃ u, R c v u := by
  cases blk with
  | row k rows =>
    obtain ⟨cells, ee, g1, g2, g3, g4, g5, g6⟩ := h
    obtain ⟨row, hr, hv⟩ := hv
    obtain ⟨i, hi⟩ := List.getElem?_of_mem hr
    obtain ⟨j, hj⟩ := List.getElem?_of_mem hv
    have h1 := (List.getElem?_eq_some_iff.1 hi).1
    have h2 : j < k := by rw [← g3 row hr]; exact (List.getElem?_eq_some_iff.1 hj).1
    have : (i + 1) * k ≤ rows.length * k := Nat.mul_le_mul_right _ h1
    rw [Nat.add_mul] at this
    exact ⟨cells[0 + i * k + j]'(by omega), g6 i row j v _ hi hj (Array.getElem?_eq_getElem _)⟩
  | mp es =>
    obtain ⟨ents, clock, g1, g2, g3⟩ := h
    obtain ⟨e, he, hv⟩ := hv
    obtain ⟨i, hi⟩ := List.getElem?_of_mem he
    have h1 : i < ents.size := by rw [g2]; exact (List.getElem?_eq_some_iff.1 hi).1
    have := g3 i e ents[i] hi (Array.getElem?_eq_getElem h1)
    rcases hv with rfl | rfl
    · exact ⟨_, this.1⟩
    · exact ⟨_, this.2⟩
  | lp r E =>
    obtain ⟨t, ht⟩ := hv
    obtain ⟨u, _, h2⟩ := h.2 t v ht
    exact ⟨u, h2⟩
  | dead => exact hv.elim

structure RH (c : Cx) (H : List Blk) : Prop where
  N : c.N = H.length
  X : ∀ b, c.X b → b < c.w.heap.size
  gone : ∀ id, (H[id]? = none ∨ H[id]? = some .dead) → c.ρ id = none
  live : ∀ id blk, H[id]? = some blk → blk ≠ .dead → ∃ b sz, c.ρ id = some (b, sz) ∧ c.X b ∧ BlkAs c b sz blk
  inj : ∀ id id' b sz sz', c.ρ id = some (b, sz) → c.ρ id' = some (b, sz') → id = id'

/-- From c to c': what is not one's own stays. -/
structure Stp (c c' : Cx) : Prop where
  os : c'.w.os = c.w.os
  tape : c'.w.tape = c.w.tape
  output : c'.w.output = c.w.output
  size : c.w.heap.size ≤ c'.w.heap.size
  keep : ∀ b, b < c.w.heap.size → (∀ id sz, c.ρ id ≠ some (b, sz)) → c'.w.heap[b]? = c.w.heap[b]?
  X : ∀ b, b < c.w.heap.size → (c'.X b → c.X b) ∧ ((∀ id sz, c.ρ id ≠ some (b, sz)) → c.X b → c'.X b)
  N : c.N ≤ c'.N
  ρ : ∀ id, id < c.N → c'.ρ id = c.ρ id ∨ c'.ρ id = none
  own : ∀ id b sz, c'.ρ id = some (b, sz) → c.w.heap.size ≤ b ∨ ∃ id0 sz0, c.ρ id0 = some (b, sz0)
  drawn : c.w.drawn ≤ c'.w.drawn

theorem Stp.refl (c : Cx) : Stp c c := ⟨rfl, rfl, rfl, Nat.le_refl _, fun _ _ _ => rfl, fun _ _ => ⟨fun h => h, fun _ h => h⟩, Nat.le_refl _, fun _ _ => .inl rfl, fun id b sz h => .inr ⟨id, sz, h⟩, Nat.le_refl _⟩

theorem Stp.trans {a b c : Cx} (h : Stp a b) (k : Stp b c) : Stp a c where
  os := k.os.trans h.os
  tape := k.tape.trans h.tape
  output := k.output.trans h.output
  drawn := Nat.le_trans h.drawn k.drawn
  size := Nat.le_trans h.size k.size
  keep := fun i hi hn => (k.keep i (Nat.lt_of_lt_of_le hi h.size) (fun id sz e => by
    rcases h.own id i sz e with g | ⟨id0, sz0, g⟩
    · omega
    · exact hn id0 sz0 g)).trans (h.keep i hi hn)
  X := fun i hi => ⟨fun e => (h.X i hi).1 ((k.X i (Nat.lt_of_lt_of_le hi h.size)).1 e), fun hn e => (k.X i (Nat.lt_of_lt_of_le hi h.size)).2 (fun id sz e => by
    rcases h.own id i sz e with g | ⟨id0, sz0, g⟩
    · omega
    · exact hn id0 sz0 g) ((h.X i hi).2 hn e)⟩
  N := Nat.le_trans h.N k.N
  ρ := fun id hi => by
    rcases k.ρ id (Nat.lt_of_lt_of_le hi h.N) with e | e
    · rcases h.ρ id hi with g | g
      · exact .inl (e.trans g)
      · exact .inr (e.trans g)
    · exact .inr e
  own := fun id i sz e => by
    rcases k.own id i sz e with g | ⟨id0, sz0, g⟩
    · exact .inl (Nat.le_trans h.size g)
    · exact h.own id0 i sz0 g

theorem RH.ownX {c : Cx} {H : List Blk} (h : RH c H) {id b sz : Nat} (e : c.ρ id = some (b, sz)) : c.X b := by
  cases hb : H[id]? with
  | none => rw [h.gone id (.inl hb)] at e; cases e
  | some blk =>
    by_cases hd : blk = .dead
    · rw [h.gone id (.inr (by rw [hb, hd]))] at e; cases e
    · obtain ⟨b', sz', h1, h2, _⟩ := h.live id blk hb hd
      rw [h1] at e; cases e; exact h2

theorem Stp.sub {c c' : Cx} {H : List Blk} (s : Stp c c') (h : RH c H) : Sub c c' where
  keep := fun b hb hx => ⟨s.keep b hb (fun id sz e => hx (h.ownX e)), fun hx' => hx ((s.X b hb).1 hx')⟩
  N := s.N
  ρ := s.ρ

theorem CellsAs.mono {c c' : Cx} {k : Nat} {rows : List (List V)} {cells : Array Value} {o : Nat} (s : Sub c c') (h : CellsAs c k rows cells o) : CellsAs c' k rows cells o :=
  fun i row j v u h1 h2 h3 => (h i row j v u h1 h2 h3).mono s

end Go.Sh
end
section
namespace Go.Sh
open Go.RowKit
set_option linter.unusedVariables false

/-- It holds what comes behind still. -/
inductive StopK {α : Type} (a : α) : Type where
  | mk

inductive A where
  | t (n : Nat)
  | c (v : V)
  deriving Inhabited

inductive IOp where
  | mov (x : A)
  | pick (c x y : A)
  | alloc (z : List V)
  | box (x : A)
  | bld (z : List V) (parts : List (Nat × Nat × A))
  | bsl (fz : Bool) (k n : Nat) (z : List V) (parts : List (Nat × A))
  | ld (sz : Option Nat) (a : A)
  | st (sz : Nat) (a v : A)
  | nilc (x : A)
  | bin (op : BinOp) (x y : A)
  | eqb (tg : Nat) (neg : Bool) (x y : A)
  | eqs (neg : Bool) (offs : List (Nat × Nat)) (x y : A)
  | un (op : UnOp) (x : A)
  | cvi (k : IntKind) (x : A)
  | mki (t : TypeId) (x : A)
  | mkf (f : Fn) (first caps : List A)
  | mks (k bytes : Nat) (z : List V) (len cap : A)
  | slc (k : Nat) (x : A) (lo hi mx : Option A)
  | sls (x : A) (lo hi : Option A)
  | fad (off : Nat) (x : A)
  | fld (off : Nat) (sz : Option Nat) (x : A)
  | ixs (k : Nat) (x i : A)
  | ixa (n es : Nat) (x i : A)
  | ixv (n es : Nat) (sz : Option Nat) (x i : A)
  | ixt (x i : A)
  | ext (x : A) (n : Nat)
  | calv (f : A) (args : List A)
  | inv (x : A) (name : String) (args : List A)
  | len (str : Bool) (x : A)
  | app (k bytes : Nat) (x y : A)
  | mm (mx : Bool) (x y : A)
  | clr (k : Nat) (z : List V) (x : A)
  | mkm
  | lk (tg : Nat) (tgs : List Nat) (z : V) (ok : Bool) (x i : A)
  | mup (tg : Nat) (tgs : List Nat) (m k v : A)
  | lenm (x : A)
  deriving Inhabited

structure IEl where
  dst : Option Nat
  grd : Option (Nat × Bool)
  op : IOp
  deriving Inhabited

def ev (E : Env) : A → V
  | .t n => (get E n).getD .junk
  | .c v => v

def setAt (l : List V) (off : Nat) (cs : List V) : List V := l.take off ++ cs ++ l.drop (off + cs.length)

def fillI (E : Env) : List V → List (Nat × Nat × A) → Option (List V)
  | z, [] => some z
  | z, (off, sz, x) :: r => if (ev E x).cells.length = sz ∧ off + sz ≤ z.length ∧ (ev E x).cells.all V.one = true then fillI E (setAt z off (ev E x).cells) r else none

def fillR (E : Env) (k : Nat) : List (List V) → List (Nat × A) → Option (List (List V))
  | z, [] => some z
  | z, (j, x) :: r => if (ev E x).cells.length = k ∧ (ev E x).cells.all V.one = true ∧ j < z.length then fillR E k (z.set j (ev E x).cells) r else none

def ldRow (sz : Option Nat) (row : List V) (off : Nat) : Option V :=
  match sz with
  | none => row[off]?
  | some n => if off + n ≤ row.length then some (.agg ((row.drop off).take n)) else none

def bitI (op : BinOp) (k : IntKind) (x y : Int) : Option V :=
  match op with
  | .and => some (.i k (k.wrap ((BitVec.ofInt k.bits x &&& BitVec.ofInt k.bits y).toNat)))
  | .or => some (.i k (k.wrap ((BitVec.ofInt k.bits x ||| BitVec.ofInt k.bits y).toNat)))
  | .xor => some (.i k (k.wrap ((BitVec.ofInt k.bits x ^^^ BitVec.ofInt k.bits y).toNat)))
  | .andNot => some (.i k (k.wrap ((BitVec.ofInt k.bits x &&& ~~~ BitVec.ofInt k.bits y).toNat)))
  | _ => none

def cmpI (op : BinOp) (x y : Int) : Option V :=
  match op with
  | .eql => some (.b (x == y))
  | .neq => some (.b (x != y))
  | .lss => some (.b (x < y))
  | .leq => some (.b (x ≤ y))
  | .gtr => some (.b (x > y))
  | .geq => some (.b (x ≥ y))
  | _ => none

def intI (op : BinOp) (k : IntKind) (x y : Int) : Option V :=
  match op with
  | .add => some (.i k (k.wrap (x + y)))
  | .sub => some (.i k (k.wrap (x - y)))
  | .mul => some (.i k (k.wrap (x * y)))
  | .quo => if y = 0 then none else some (.i k (k.wrap (x.tdiv y)))
  | .rem => if y = 0 then none else some (.i k (x.tmod y))
  | .and | .or | .xor | .andNot => bitI op k x y
  | .shl | .shr => none
  | _ => cmpI op x y

def strI (op : BinOp) (x y : ByteArray) : Option V :=
  match op with
  | .add => if ((x.size + y.size : Nat) : Int) > IntKind.i64.max then none else some (.s (x ++ y))
  | .eql => some (.b (x.toList == y.toList))
  | .neq => some (.b (!(x.toList == y.toList)))
  | .lss => some (.b (Op.bytesLess x.toList y.toList))
  | .leq => some (.b (Op.bytesLess x.toList y.toList || x.toList == y.toList))
  | .gtr => some (.b (!(Op.bytesLess x.toList y.toList || x.toList == y.toList)))
  | .geq => some (.b (!(Op.bytesLess x.toList y.toList)))
  | _ => none

def binI (op : BinOp) (x y : V) : Option V :=
  match x, y with
  | .i k a, .i k' b =>
    match op with
    | .shl => if b < 0 then none else some (.i k (k.wrap (a * 2 ^ (min b.toNat k.bits))))
    | .shr => if b < 0 then none else some (.i k (a.fdiv (2 ^ (min b.toNat k.bits))))
    | _ => if k = k' then intI op k a b else none
  | .s a, .s b => strI op a b
  | _, _ => none

/-- Equality of two cells of plain data: whole numbers (0), bools (1), strings (2). -/
def eq1 (tg : Nat) (x y : V) : Option Bool :=
  match tg with
  | 0 => match x, y with
    | .i k a, .i k' b => if k = k' then some (a == b) else none
    | _, _ => none
  | 1 => match x, y with
    | .b a, .b b => some (a == b)
    | _, _ => none
  | 2 => match x, y with
    | .s a, .s b => some (a.toList == b.toList)
    | _, _ => none
  | _ => none

def slN : V → Option Bool | .nsl => some true | .fsl (_ :: _) => some false | .rsl .. => some false | _ => none
def ptN : V → Option Bool | .npt => some true | .rpt .. => some false | .fpt .. => some false | _ => none
def mpN : V → Option Bool | .nmp => some true | .rmp _ => some false | _ => none
def nilEq (a b : Option Bool) : Option Bool :=
  match a, b with
  | some true, some b => some b
  | some false, some true => some false
  | _, _ => none

/-- Equality of bools (0), and with nil, of slices (1), pointers (2), maps (3). -/
def eqB (tg : Nat) (x y : V) : Option Bool :=
  match tg with
  | 0 => match x, y with
    | .b a, .b b => some (a == b)
    | _, _ => none
  | 1 => nilEq (slN x) (slN y)
  | 2 => nilEq (ptN x) (ptN y)
  | 3 => nilEq (mpN x) (mpN y)
  | _ => none

def eqS (xs ys : List V) : List (Nat × Nat) → Option Bool
  | [] => some true
  | (o, tg) :: r => match xs[o]?, ys[o]? with
    | some x, some y => match eq1 tg x y, eqS xs ys r with
      | some a, some b => some (a && b)
      | _, _ => none
    | _, _ => none

/-- Equality of aggregates of cells of plain data. -/
def eqC : List Nat → List V → List V → Option Bool
  | [], [], [] => some true
  | t :: ts, x :: xs, y :: ys => match eq1 t x y, eqC ts xs ys with
    | some a, some b => some (a && b)
    | _, _ => none
  | _, _, _ => none

/-- Equality of a map's keys. -/
def eqK (tg : Nat) (tgs : List Nat) (x y : V) : Option Bool :=
  match tg with
  | 3 => match x, y with
    | .agg xs, .agg ys => eqC tgs xs ys
    | _, _ => none
  | t => eq1 t x y

def findK (tg : Nat) (tgs : List Nat) (k : V) : List (V × V) → Option (Option V)
  | [] => some none
  | e :: r => match eqK tg tgs k e.1 with
    | some true => some (some e.2)
    | some false => findK tg tgs k r
    | none => none

def updK (tg : Nat) (tgs : List Nat) (k v : V) : List (V × V) → Option (List (V × V))
  | [] => some [(k, v)]
  | e :: r => match eqK tg tgs k e.1 with
    | some true => some ((k, v) :: r)
    | some false => (updK tg tgs k v r).map (e :: ·)
    | none => none

def lkV (z : V) (ok : Bool) : Option V → V
  | some v => if ok then .tup [v, .b true] else v
  | none => if ok then .tup [z, .b false] else z

def unI (op : UnOp) (x : V) : Option V :=
  match op, x with
  | .neg, .i k n => some (.i k (k.wrap (0 - n)))
  | .xor, .i k n => bitI .xor k (if k.signed then -1 else k.max) n
  | .not, .b x => some (.b (!x))
  | _, _ => none

def rowAt (rows : List (List V)) (n : Int) : Option (List V) := if 0 ≤ n then rows[n.toNat]? else none

/-- The rows that a slice shows. -/
def shown (H : List Blk) : V → Option (List (List V))
  | .nsl => some []
  | .fs0 => some []
  | .fsl rows => some rows
  | .rsl id k off len _ _ => match H[id]? with
    | some (.row k' rows) => if k = k' ∧ off + len ≤ rows.length then some ((rows.drop off).take len) else none
    | _ => none
  | _ => none

def idx (E : Env) (x : A) : Option Int := match ev E x with | .i _ n => some n | _ => none

/-- What is asked of a call of a value, with arguments, over one's own blocks. -/
def RL (c : Cx) (vs : List V) (us : List Value) : Prop := vs.length = us.length ∧ ∀ (j : Nat) (v : V) (u : Value), vs[j]? = some v → us[j]? = some u → R c v u

def Post (c : Cx) (H' : List Blk) (r : V) (v : Value) (w' : World) : Prop := ∃ c' : Cx, c'.w = w' ∧ RH c' H' ∧ R c' r v ∧ Stp c c'

def Inv (P : Program) (d : Deferred) (w : World) (Q : Value → World → Prop) : Prop :=
  match (invoke d.target d.args).run P w with
  | .ok (.enter f args) w' => Calls P f args w' fun e w'' => ∃ v, e = .returned v ∧ Q v w''
  | .ok (.round l f tmps assign body) w' => ∀ m, RoundIn Fence.wide m P l f tmps assign body w' fun e w'' => ∃ v, e = .returned v ∧ Q v w''
  | .ok (.value v) w' => Q v w'
  | _ => False

/-- **A CONTRACT**: called with args over the blocks H it returns r, and leaves the blocks H'. -/
def SndC (P : Program) (f : V) (args : List V) (H : List Blk) (r : V) (H' : List Blk) : Prop :=
  ∀ c, RH c H → ∀ fu us, R c f fu → RL c args us → ∃ d, (Deferred.ofValue fu us.toArray) = Sem.pure d ∧ Inv P d c.w (Post c H' r)

abbrev Snd (P : Program) (f : FuncId) (args : List V) (H : List Blk) (r : V) (H' : List Blk) : Prop := SndC P (.fn (.func f) [] []) args H r H'

/-- The function that a method of a value of a type is. -/
def methOf (P : Program) (t : TypeId) (name : String) : Option FuncId :=
  match P.info? t with
  | some i => match i.methods.find? (·.name == name) with
    | some m => if m.path.isEmpty then match m.func, P.underlying t with
        | some (_, false), some (.pointer _) => none
        | some (f, false), some _ => some f
        | _, _ => none
      else none
    | none => none
  | none => none

def bnd (E : Env) (x : Option A) (d : Nat) : Option Int := match x with | none => some d | some x => idx E x

def sliceI (E : Env) (k0 : Nat) (x : V) (lo hi mx : Option A) (K : V → Prop) (s : StopK K := .mk) : Prop :=
  match x with
  | .fsl rows => (∀ row ∈ rows, row.length = k0) ∧ match mx with
    | none => match bnd E lo 0, bnd E hi rows.length with
      | some l, some h => 0 ≤ l ∧ l ≤ h ∧ h ≤ rows.length ∧ K (.fsl ((rows.take h.toNat).drop l.toNat))
      | _, _ => False
    | some m => match bnd E lo 0, bnd E hi rows.length, idx E m with
      | some l, some h, some m => 0 ≤ l ∧ l = h ∧ h = m ∧ m ≤ rows.length ∧ K .fs0
      | _, _, _ => False
  | .nsl => match bnd E lo 0, bnd E hi 0, bnd E mx 0 with
    | some l, some h, some m => l = 0 ∧ h = 0 ∧ m = 0 ∧ K .nsl
    | _, _, _ => False
  | .fs0 => match bnd E lo 0, bnd E hi 0, bnd E mx 0 with
    | some l, some h, some m => l = 0 ∧ h = 0 ∧ m = 0 ∧ K .fs0
    | _, _, _ => False
  | .rsl id k off len cap ex => k = k0 ∧
    match mx with
    | none => match bnd E lo 0, bnd E hi len with
      | some l, some h => 0 ≤ l ∧ l ≤ h ∧ h ≤ (max len cap : Nat) ∧ K (.rsl id k (off + l.toNat) (h.toNat - l.toNat) (max len cap - l.toNat) ex)
      | _, _ => False
    | some m => match bnd E lo 0, bnd E hi len, idx E m with
      | some l, some h, some m => 0 ≤ l ∧ l ≤ h ∧ h ≤ m ∧ m ≤ (max len cap : Nat) ∧ K (.rsl id k (off + l.toNat) (h.toNat - l.toNat) (m.toNat - l.toNat) true)
      | _, _, _ => False
  | _ => False

/-- It holds two ways still: simp does not go into them. -/
inductive Stop (A B : Prop) : Type where
  | mk
/-- A way that is taken by a bool. -/
def brG (x t : Bool) (A B : Prop) (s : Stop A B := .mk) : Prop := (x = t → A) ∧ (x = (!t) → B)

/-- An empty list that may be nil, asked whether it is. -/
def unkN : V → V → Bool
  | .fsl [], .nsl => true
  | _, _ => false

def eqbI (d : Bool) (tg : Nat) (neg : Bool) (x y : V) (K : V → Prop) (s : StopK K := .mk) : Prop :=
  match eqB tg x y with
  | some t => K (.b (if neg then !t else t))
  | none => d = false ∧ tg = 1 ∧ unkN x y = true ∧ ∀ t, K (.b t)

/-- An append. -/
def appI (k bytes : Nat) (x y : V) (H : List Blk) (K : V → List Blk → Prop) (s : StopK K := .mk) : Prop :=
  0 < k ∧ bytes ≤ 1000000 ∧ ∃ ys, shown H y = some ys ∧ (∀ r ∈ ys, r.length = k ∧ r.all V.one = true) ∧
  match x with
  | .nsl => (ys = [] → K .nsl H) ∧ (ys ≠ [] → ys.length ≤ 1000000 ∧ K (.rsl H.length k 0 ys.length ys.length false) (H ++ [.row k ys]))
  | .rsl id k' off len cap ex => k' = k ∧ len + ys.length ≤ 1000000 ∧ ∃ rows, H[id]? = some (.row k rows) ∧ off + len ≤ rows.length ∧
        ((len + ys.length ≤ cap ∧ off + len + ys.length ≤ rows.length ∧ K (.rsl id k off (len + ys.length) cap ex) (H.set id (.row k (rows.take (off + len) ++ ys ++ rows.drop (off + len + ys.length))))) ∨
         (ex = true ∧ cap < len + ys.length ∧ K (.rsl H.length k 0 (len + ys.length) (len + ys.length) false) (H ++ [.row k ((rows.drop off).take len ++ ys)])) ∨
         (off = 0 ∧ len = rows.length ∧ K (.rsl H.length k 0 (len + ys.length) (len + ys.length) false) (H.set id .dead ++ [.row k (rows ++ ys)])))
  | .fs0 => (ys = [] → K .fs0 H) ∧ (ys ≠ [] → ys.length ≤ 1000000 ∧ K (.rsl H.length k 0 ys.length ys.length false) (H ++ [.row k ys]))
  | .fsl rows => ys = [] ∧ K (.fsl rows) H
  | _ => False

def optK (o : Option V) (K : V → Prop) (s : StopK K := .mk) : Prop := ∃ v, o = some v ∧ K v

/-- What is asked of a call where its result is not told at once. -/
def SndX (P : Program) (f : V) (args : List V) (H : List Blk) (K : V → List Blk → Prop) : Prop :=
  ∀ c, RH c H → ∀ fu us, R c f fu → RL c args us → ∃ d, (Deferred.ofValue fu us.toArray) = Sem.pure d ∧ Inv P d c.w fun v w' => ∃ r H', K r H' ∧ Post c H' r v w'

/-- A call (where the order is drawn, its result is told at once). -/
def callI (d : Bool) (P : Program) (f : V) (args : List V) (H : List Blk) (K : V → List Blk → Prop) (s : StopK K := .mk) : Prop :=
  match d with
  | true => ∃ r H', SndC P f args H r H' ∧ K r H'
  | false => SndX P f args H K

def stepI (d : Bool) (P : Program) (o : IOp) (E : Env) (H : List Blk) (K : V → List Blk → Prop) (s : StopK (o, K) := .mk) : Prop :=
  match o with
  | .mov x => K (ev E x) H
  | .pick c x y => match ev E c with
    | .b t => brG t true (K (ev E x) H) (K (ev E y) H)
    | _ => False
  | .alloc z => z.all V.one = true ∧ K (.rpt H.length z.length 0 0) (H ++ [.row z.length [z]])
  | .box x => (ev E x).cells.all V.one = true ∧ K (.rpt H.length (ev E x).cells.length 0 0) (H ++ [.row (ev E x).cells.length [(ev E x).cells]])
  | .bld z parts => z.all V.one = true ∧ ∃ cs, fillI E z parts = some cs ∧ K (.agg cs) H
  | .bsl false k n z parts => n * k ≤ 1000000 ∧ z.length = k ∧ z.all V.one = true ∧ ∃ rows, fillR E k (List.replicate n z) parts = some rows ∧ K (.rsl H.length k 0 n n true) (H ++ [.row k rows])
  | .bsl true k n z parts => n * k ≤ 1000000 ∧ z.length = k ∧ z.all V.one = true ∧ ∃ rows, fillR E k (List.replicate n z) parts = some rows ∧ (∀ r ∈ rows, belL 0 r = true) ∧ K (if n = 0 then .fs0 else .fsl rows) H
  | .ld sz a => match ev E a with
    | .rpt id k r off => ∃ rows row, H[id]? = some (.row k rows) ∧ rows[r]? = some row ∧ optK (ldRow sz row off) fun v => K v H
    | .fpt row off => optK (ldRow sz row off) fun v => K v H
    | _ => False
  | .st sz a v => match ev E a with
    | .rpt id k r off => ∃ rows row, H[id]? = some (.row k rows) ∧ rows[r]? = some row ∧ (ev E v).cells.length = sz ∧ off + sz ≤ row.length ∧ (ev E v).cells.all V.one = true ∧
        K (.tup []) (H.set id (.row k (rows.set r (setAt row off (ev E v).cells))))
    | _ => False
  | .nilc x => match ev E x with
    | .rpt .. | .fpt .. | .fn (.func _) .. | .ifc .. | .yld .. => K (ev E x) H
    | _ => False
  | .bin op x y => optK (binI op (ev E x) (ev E y)) fun v => K v H
  | .eqb tg neg x y => eqbI d tg neg (ev E x) (ev E y) fun v => K v H
  | .eqs neg offs x y => match ev E x, ev E y with
    | .agg xs, .agg ys => ∃ t, eqS xs ys offs = some t ∧ K (.b (if neg then !t else t)) H
    | _, _ => False
  | .un op x => optK (unI op (ev E x)) fun v => K v H
  | .cvi k x => match ev E x with
    | .i _ n => K (.i k (k.wrap n)) H
    | _ => False
  | .mki t x => K (.ifc t (ev E x)) H
  | .mkf f first caps => K (.fn f (first.map (ev E)) (caps.map (ev E))) H
  | .mks k bytes z len cap => match ev E len, ev E cap with
    | .i .i64 l, .i .i64 q => 0 ≤ l ∧ l ≤ q ∧ q ≤ 1000000 ∧ bytes ≤ 1000000 ∧ z.length = k ∧ z.all V.one = true ∧
        K (.rsl H.length k 0 l.toNat q.toNat true) (H ++ [.row k (List.replicate q.toNat z)])
    | _, _ => False
  | .slc k x lo hi mx => sliceI E k (ev E x) lo hi mx fun v => K v H
  | .sls x lo hi => match ev E x with
    | .s x => match bnd E lo 0, bnd E hi x.size with
      | some l, some h => 0 ≤ l ∧ l ≤ h ∧ h ≤ x.size ∧ K (.s (x.extract l.toNat h.toNat)) H
      | _, _ => False
    | _ => False
  | .fad off x => match ev E x with
    | .rpt id k r o => K (.rpt id k r (o + off)) H
    | .fpt row o => K (.fpt row (o + off)) H
    | _ => False
  | .fld off sz x => match ev E x with
    | .agg cs => optK (ldRow sz cs off) fun v => K v H
    | _ => False
  | .ixs k0 x i => match ev E x, ev E i with
    | .fsl rows, .i _ n => ∃ row, rowAt rows n = some row ∧ row.length = k0 ∧ K (.fpt row 0) H
    | .rsl id k off len cap ex, .i _ n => k = k0 ∧ 0 ≤ n ∧ n < len ∧ K (.rpt id k (off + n.toNat) 0) H
    | _, _ => False
  | .ixa n es x i => match ev E x, ev E i with
    | .rpt id k r o, .i _ j => 0 ≤ j ∧ j < n ∧ K (.rpt id k r (o + j.toNat * es)) H
    | .fpt row o, .i _ j => 0 ≤ j ∧ j < n ∧ K (.fpt row (o + j.toNat * es)) H
    | _, _ => False
  | .ixv n es sz x i => match ev E x, ev E i with
    | .agg cs, .i _ j => 0 ≤ j ∧ j < n ∧ optK (ldRow sz cs (j.toNat * es)) fun v => K v H
    | _, _ => False
  | .ixt x i => match ev E x, ev E i with
    | .s x, .i _ j => ∃ b, (if 0 ≤ j then x[j.toNat]? else none) = some b ∧ K (.i .u8 b.toNat) H
    | _, _ => False
  | .ext x n => match ev E x with
    | .tup vs => optK vs[n]? fun v => K v H
    | _ => False
  | .calv f args => callI d P (ev E f) (args.map (ev E)) H K
  | .inv x name args => match ev E x with
    | .ifc t v => ∃ f, methOf P t name = some f ∧ callI d P (.fn (.func f) [] []) (v :: args.map (ev E)) H K
    | _ => False
  | .len false x => match ev E x with
    | .nsl => K (.i .i64 0) H
    | .fs0 => K (.i .i64 0) H
    | .fsl rows => K (.i .i64 rows.length) H
    | .rsl _ _ _ len _ _ => K (.i .i64 len) H
    | _ => False
  | .len true x => match ev E x with
    | .s x => K (.i .i64 x.size) H
    | _ => False
  | .app k bytes x y => appI k bytes (ev E x) (ev E y) H K
  | .clr k z x => match ev E x with
    | .rsl id k' off len _ _ => k' = k ∧ z.length = k ∧ z.all V.one = true ∧ ∃ rows, H[id]? = some (.row k rows) ∧ off + len ≤ rows.length ∧
        K (.tup []) (H.set id (.row k (rows.take off ++ List.replicate len z ++ rows.drop (off + len))))
    | .nsl => K (.tup []) H
    | .fs0 => K (.tup []) H
    | .fsl [] => K (.tup []) H
    | _ => False
  | .mm mx x y => match ev E x, ev E y with
    | .i k a, .i k' b => k = k' ∧ K (.i k (if mx then max a b else min a b)) H
    | _, _ => False
  | .mkm => K (.rmp H.length) (H ++ [.mp []])
  | .lk tg tgs z ok x i => eqK tg tgs (ev E i) (ev E i) = some true ∧ match ev E x with
    | .nmp => K (lkV z ok none) H
    | .rmp id => ∃ es r, H[id]? = some (.mp es) ∧ findK tg tgs (ev E i) es = some r ∧ K (lkV z ok r) H
    | _ => False
  | .mup tg tgs m k v => eqK tg tgs (ev E k) (ev E k) = some true ∧ match ev E m with
    | .rmp id => ∃ es es', H[id]? = some (.mp es) ∧ updK tg tgs (ev E k) (ev E v) es = some es' ∧ K (.tup []) (H.set id (.mp es'))
    | _ => False
  | .lenm x => match ev E x with
    | .nmp => K (.i .i64 0) H
    | .rmp id => ∃ es, H[id]? = some (.mp es) ∧ K (.i .i64 es.length) H
    | _ => False

def toV1 : Value → Option V
  | .bool b => some (.b b)
  | .int k n => some (.i k n)
  | .string s => some (.s s)
  | .pointer none => some .npt
  | .slice none 0 0 => some .nsl
  | .map none => some .nmp
  | .nilFunc => some .nfn
  | .nilIface => some .nifc
  | .func f a b => if a.size = 0 ∧ b.size = 0 then some (.fn f [] []) else none
  | _ => none

def toVL : List Value → Option (List V)
  | [] => some []
  | x :: r => match toV1 x, toVL r with | some v, some l => some (v :: l) | _, _ => none

def toV : Value → Option V
  | .agg cs => (toVL cs.toList).map .agg
  | .tuple cs => if cs.size = 0 then some (.tup []) else none
  | x => toV1 x

def lowA : Operand → Option A
  | .tmp t => some (.t t)
  | .const v => (toV v).map .c
  | .func f => some (.c (.fn (.func f) [] []))
  | .global _ => none

def lowAs : List Operand → Option (List A)
  | [] => some []
  | x :: r => match lowA x, lowAs r with | some v, some l => some (v :: l) | _, _ => none

def szOf (P : Program) (t : TypeId) : Option Nat := (P.info? t).map (·.size)
def bytesI (P : Program) (t : TypeId) : Option Nat := (P.info? t).map (·.bytes)
def aggI (P : Program) (t : TypeId) : Option Bool :=
  match P.underlying t with
  | some (.struct _) | some (.array _ _) => some true
  | some _ => some false
  | none => none
def ldSz (P : Program) (t : TypeId) : Option (Option Nat) :=
  match aggI P t, szOf P t with
  | some true, some n => some (some n)
  | some false, some _ => some none
  | _, _ => none
def zeroI (P : Program) (t : TypeId) : Option (List V) := ((P.info? t).bind (·.zero)).bind fun z => (toV z).map V.cells

def addOffs (b : Nat) (l : List (Nat × Nat)) : List (Nat × Nat) := l.map fun x => (b + x.1, x.2)

/-- The cells of a type of plain data that an equality compares. -/
def flatFs (g : TypeId → Option (List (Nat × Nat))) : List Field → Option (List (Nat × Nat))
  | [] => some []
  | f :: fs => match g f.type, flatFs g fs with
    | some l, some r => if f.name = "_" then none else some (addOffs f.offset l ++ r)
    | _, _ => none

def flatOffs (P : Program) : Nat → TypeId → Option (List (Nat × Nat))
  | 0, _ => none
  | d + 1, t =>
    match P.underlying t with
    | some (.int _) => some [(0, 0)]
    | some .bool => some [(0, 1)]
    | some .string => some [(0, 2)]
    | some (.struct fs) => if P.stoodInHeld t then none else
      match szOf P t, flatFs (flatOffs P d) fs.toList with
      | some n, some l => if l.all (fun x => x.1 < n) then some l else none
      | _, _ => none
    | _ => none

/-! ### maps -/
def sclTag (P : Program) (t : TypeId) : Option Nat :=
  match P.underlying t with
  | some (.int _) => some 0
  | some .bool => some 1
  | some .string => some 2
  | _ => none

def fieldTags (P : Program) : List Field → Nat → Option (List Nat)
  | [], _ => some []
  | f :: r, o => match sclTag P f.type, fieldTags P r (o + 1) with
    | some t, some l => if f.name = "_" ∨ f.offset ≠ o then none else some (t :: l)
    | _, _ => none

def keyTag (P : Program) (t : TypeId) : Option (Nat × List Nat) :=
  match P.underlying t with
  | some (.struct fs) => if P.stoodInHeld t then none else (fieldTags P fs.toList 0).map fun l => (3, l)
  | some (.array n e) => match sclTag P e with
    | some t => if P.cellsOf e = 1 ∧ (P.info? e).isSome then some (3, List.replicate n t) else none
    | none => none
  | _ => (sclTag P t).map fun t => (t, [])

def zeroV (P : Program) (t : TypeId) : Option V := ((P.info? t).bind (·.zero)).bind toV

def lowPart (place : Nat → Option (Nat × Nat)) : List (Nat × Operand) → Option (List (Nat × Nat × A))
  | [] => some []
  | (j, x) :: r => match place j, lowA x, lowPart place r with
    | some p, some a, some l => some ((p.1, p.2, a) :: l)
    | _, _, _ => none

def placesI (P : Program) (fs : Array Field) : Option (List (Nat × Nat)) := fs.toList.mapM fun f => (P.info? f.type).map fun i => (f.offset, i.size)

def lowPartR : List (Nat × Operand) → Option (List (Nat × A))
  | [] => some []
  | (j, x) :: r => match lowA x, lowPartR r with
    | some a, some l => some ((j, a) :: l)
    | _, _ => none

def lowOA : Option Operand → Option (Option A)
  | none => some none
  | some x => (lowA x).map some

def lowO (P : Program) (o : Op) : Option IOp :=
  match o with
  | .move x | .assign x => (lowA x).map .mov
  | .pick c a b => match lowA c, lowA a, lowA b with | some c, some a, some b => some (.pick c a b) | _, _, _ => none
  | .alloc t => (zeroI P t).map .alloc
  | .box _ x => (lowA x).map .box
  | .build t parts => match P.underlying t, zeroI P t with
    | some (.struct fs), some z => match placesI P fs with | some l => (lowPart (l.toArray[·]?) parts.toList).map (.bld z) | none => none
    | some (.array _ e), some z => match szOf P e with | some n => (lowPart (fun i => some (i * n, n)) parts.toList).map (.bld z) | none => none
    | _, _ => none
  | .buildSlice t len parts => match P.underlying t with
    | some (.slice e) => match szOf P e, zeroI P e with
      | some k, some z => if 0 < k then (lowPartR parts.toList).map (.bsl false k len z) else none
      | _, _ => none
    | _ => none
  | .load t a => match ldSz P t, lowA a with | some s, some a => some (.ld s a) | _, _ => none
  | .store t a v => match szOf P t, lowA a, lowA v with | some s, some a, some v => some (.st s a v) | _, _, _ => none
  | .nilCheck x => (lowA x).map .nilc
  | .binOp op t x y _ => match lowA x, lowA y with
    | some a, some b =>
      if op = .eql ∨ op = .neq then
        match P.underlying t with
        | some (.int _) | some .string => some (.bin op a b)
        | some .bool => some (.eqb 0 (op = .neq) a b)
        | some (.slice _) => some (.eqb 1 (op = .neq) a b)
        | some (.pointer _) => some (.eqb 2 (op = .neq) a b)
        | some (.map _ _) => some (.eqb 3 (op = .neq) a b)
        | some (.struct _) => if P.eqGuardType P.depth t then none else (flatOffs P 8 t).map fun l => .eqs (op = .neq) l a b
        | _ => none
      else some (.bin op a b)
    | _, _ => none
  | .unOp op _ x => (lowA x).map (.un op)
  | .convert s d x => match P.underlying s, P.underlying d, lowA x with
    | some (.int _), some (.int k), some a => some (.cvi k a)
    | _, _, _ => none
  | .makeInterface t x => if P.concrete t then (lowA x).map (.mki t) else none
  | .makeFunc f first caps => match f with
    | .func _ => match lowAs first.toList, lowAs caps.toList with | some a, some b => some (.mkf f a b) | _, _ => none
    | _ => none
  | .makeSlice t l q => match P.underlying t with
    | some (.slice e) => match szOf P e, bytesI P e, zeroI P e, lowA l, lowA q with
      | some k, some b, some z, some l, some q => if 0 < k then some (.mks k b z l q) else none
      | _, _, _, _, _ => none
    | _ => none
  | .slice t x lo hi mx => match P.underlying t with
    | some (.slice e) => match szOf P e, lowA x, lowOA lo, lowOA hi, lowOA mx with
      | some k, some x, some lo, some hi, some mx => if mx.isSome && hi.isNone then none else some (.slc k x lo hi mx)
      | _, _, _, _, _ => none
    | some .string => match lowA x, lowOA lo, lowOA hi, mx with
      | some x, some lo, some hi, none => some (.sls x lo hi)
      | _, _, _, _ => none
    | _ => none
  | .fieldAddr s x f => match P.underlying s with
    | some (.struct fs) => match fs[f]?, lowA x with
      | some f, some a => match szOf P f.type with | some (n + 1) => some (.fad f.offset a) | _ => none
      | _, _ => none
    | _ => none
  | .field t x f => match P.underlying t with
    | some (.struct fs) => match fs[f]?, lowA x with
      | some f, some a => (ldSz P f.type).map fun s => .fld f.offset s a
      | _, _ => none
    | _ => none
  | .indexAddr t x i => match P.underlying t with
    | some (.slice e) => match szOf P e, lowA x, lowA i with | some k, some x, some i => some (.ixs k x i) | _, _, _ => none
    | some (.array n e) => match szOf P e, lowA x, lowA i with | some k, some x, some i => some (.ixa n k x i) | _, _, _ => none
    | _ => none
  | .index t x i => match P.underlying t with
    | some (.array n e) => match szOf P e, ldSz P e, lowA x, lowA i with | some k, some s, some x, some i => some (.ixv n k s x i) | _, _, _, _ => none
    | some .string => match lowA x, lowA i with | some x, some i => some (.ixt x i) | _, _ => none
    | _ => none
  | .extract x n => (lowA x).map fun a => .ext a n
  | .makeMap t r => match P.underlying t, r with
    | some (.map _ _), none => some .mkm
    | some (.map _ _), some (.const (.int _ _)) => some .mkm
    | _, _ => none
  | .lookup t x i ok => match P.underlying t with
    | some (.map k e) => match keyTag P k, zeroV P e, lowA x, lowA i with
      | some kt, some z, some x, some i => some (.lk kt.1 kt.2 z ok x i)
      | _, _, _, _ => none
    | _ => none
  | .mapUpdate t m k v | .insert t m k v => match P.underlying t with
    | some (.map kk _) => match keyTag P kk, lowA m, lowA k, lowA v with
      | some kt, some m, some k, some v => some (.mup kt.1 kt.2 m k v)
      | _, _, _, _ => none
    | _ => none
  | .call c => match c.callee with
    | .value f => match lowA f, lowAs c.args.toList with | some f, some l => some (.calv f l) | _, _ => none
    | .invoke x name => match lowA x, lowAs c.args.toList with | some x, some l => some (.inv x name l) | _, _ => none
    | .builtin b => match b, c.argTypes.toList, lowAs c.args.toList with
      | .len, [t], some [x] => match P.underlying t with
        | some (.slice _) => some (.len false x)
        | some .string => some (.len true x)
        | some (.map _ _) => some (.lenm x)
        | _ => none
      | .append, [t, t'], some [x, y] => match P.underlying t, P.underlying t' with
        | some (.slice e), some (.slice _) => match szOf P e, bytesI P e with
          | some k, some b => match zeroI P e with
            | some z => if 0 < k ∧ z.length = k then some (.app k b x y) else none
            | none => none
          | _, _ => none
        | _, _ => none
      | .clear, [t], some [x] => match P.underlying t with
        | some (.slice e) => match szOf P e, zeroI P e with
          | some k, some z => if 0 < k then some (.clr k z x) else none
          | _, _ => none
        | _ => none
      | .max, _, some [x, y] => some (.mm true x y)
      | .min, _, some [x, y] => some (.mm false x y)
      | _, _, _ => none
  | _ => none

def slotOf (ops : Array Oper) (j : Nat) : Option Nat := (ops[j]?).bind (·.dst)

def dstOk (nt : Nat) (d : Option Nat) : Bool := match d with | some d => decide (d < nt) | none => true

def lowEl (P : Program) (nt : Nat) (ops : Array Oper) (o : Oper) : Option IEl :=
  match lowO P o.op with
  | none => none
  | some op =>
    if dstOk nt o.dst = true then
      match o.guard with
      | none => some ⟨o.dst, none, op⟩
      | some (j, t) => match slotOf ops j with
        | some s => some ⟨o.dst, some (s, t), op⟩
        | none => none
    else none

def lowEls (P : Program) (nt : Nat) (ops : Array Oper) : List Oper → Option (List IEl)
  | [] => some []
  | o :: r => match lowEl P nt ops o, lowEls P nt ops r with | some e, some l => some (e :: l) | _, _ => none

/-- Operations one after the other. -/
def seqI (P : Program) (l : List IEl) (E : Env) (H : List Blk) (K : Env → List Blk → Prop) (s : StopK (l, K) := .mk) : Prop :=
  match l with
  | [] => K E H
  | ⟨dst, none, op⟩ :: r => stepI false P op E H fun v H' => seqI P r (putO E dst v) H' K
  | ⟨dst, some (g, t), op⟩ :: r => match get E g with
    | some (.b x) => brG x t (stepI false P op E H fun v H' => seqI P r (putO E dst v) H' K) (seqI P r (putO E dst .skp) H K)
    | some .skp => seqI P r (putO E dst .skp) H K
    | _ => False
end Go.Sh
end
section
namespace Go.Sh
open Go.RowKit
set_option linter.unusedVariables false
set_option linter.unusedSimpArgs false

variable {P : Program}

/-- A row of cells lies at block a from o on. -/
def Seen (c : Cx) (a o : Nat) (row : List V) : Prop :=
  ∃ cells e fz, c.w.heap[a]? = some (.cells cells e fz) ∧ o + row.length ≤ cells.size ∧ ∀ (j : Nat) (v : V) (u : Value), row[j]? = some v → cells[o + j]? = some u → R c v u

theorem Seen.cellAt {c : Cx} {a o : Nat} {row : List V} (h : Seen c a o row) {j : Nat} {v : V} (hv : row[j]? = some v) :
    ∃ u, c.w.cell? ⟨a, o + j, none⟩ = some u ∧ R c v u := by
  obtain ⟨cells, e, fz, h1, h2, h3⟩ := h
  have hj : j < row.length := (List.getElem?_eq_some_iff.1 hv).1
  have hlt : o + j < cells.size := by omega
  refine ⟨cells[o + j], ?_, h3 j v _ hv (by simp [hlt])⟩
  simp [World.cell?, h1, hlt]

theorem Addr.add_mk (b o n : Nat) : (⟨b, o, none⟩ : Addr).add n = ⟨b, o + n, none⟩ := by
  unfold Addr.add; split <;> simp_all

theorem run_isAgg {t : TypeId} {b : Bool} {w : World} (h : aggI P t = some b) : (isAgg t).run P w = .ok b w := by
  unfold aggI at h
  unfold isAgg underlying
  cases hu : P.underlying t with
  | none => simp [hu] at h
  | some d =>
    simp only [hu] at h
    cases d <;> simp at h <;> subst h <;> simp [hu]

theorem run_sizeOf {t : TypeId} {n : Nat} {w : World} (h : szOf P t = some n) : (sizeOf t).run P w = .ok n w := by
  unfold szOf at h
  unfold sizeOf typeInfo
  cases hi : P.info? t with
  | none => simp [hi] at h
  | some i => simp [hi] at h; simp [hi, h]

theorem listMk {c : Cx} : ∀ (vs : List V) (g : Nat → Option Value), (∀ j v, vs[j]? = some v → ∃ u, g j = some u ∧ R c v u) →
    ∃ us : List Value, us.length = vs.length ∧ (∀ j u, us[j]? = some u → g j = some u) ∧ RL c vs us
  | [], g, h => ⟨[], rfl, fun j u e => by simp at e, rfl, fun j v u e => by simp at e⟩
  | v :: r, g, h => by
    obtain ⟨u, h0, hr⟩ := h 0 v rfl
    obtain ⟨us, h1, h2, h3, h4⟩ := listMk r (fun j => g (j + 1)) (fun j v hv => h (j + 1) v (by simpa using hv))
    refine ⟨u :: us, by simp [h1], ?_, by simp [h1], ?_⟩
    · intro j x e
      cases j with
      | zero => simp at e; rw [← e]; exact h0
      | succ j => exact h2 j x (by simpa using e)
    · intro j v' u' e1 e2
      cases j with
      | zero => simp at e1 e2; rw [← e1, ← e2]; exact hr
      | succ j => exact h4 j v' u' (by simpa using e1) (by simpa using e2)

/-- Loading from a row. -/
theorem run_loadRow {c : Cx} {a o off : Nat} {row : List V} {t : TypeId} {sz : Option Nat} {v : V} (h : Seen c a o row) (ht : ldSz P t = some sz) (hl : ldRow sz row off = some v) :
    ∃ u, (Instr.loadAt t (.pointer (some ⟨a, o + off, none⟩))).run P c.w = .ok u c.w ∧ R c v u := by
  unfold ldSz at ht
  cases ha : aggI P t with
  | none => simp [ha] at ht
  | some b =>
    cases hs : szOf P t with
    | none => cases b <;> simp [ha, hs] at ht
    | some n =>
      cases b with
      | false =>
        simp [ha, hs] at ht
        subst ht
        simp only [ldRow] at hl
        obtain ⟨u, hu, hr⟩ := h.cellAt hl
        exact ⟨u, by simp [Instr.loadAt, Instr.sureAddr, loadVar, run_isAgg ha, hu], hr⟩
      | true =>
        simp [ha, hs] at ht
        subst ht
        simp only [ldRow] at hl
        split at hl
        · rename_i hle
          cases hl
          obtain ⟨us, h1, h2, h3⟩ := listMk (c := c) ((row.drop off).take n) (fun j => c.w.cell? ((⟨a, o + off, none⟩ : Addr).add j)) (fun j v hv => by
            rw [List.getElem?_take] at hv
            split at hv
            · rw [List.getElem?_drop] at hv
              obtain ⟨u, hu, hr⟩ := h.cellAt hv
              exact ⟨u, by simp only [Addr.add_mk, Nat.add_assoc]; exact hu, hr⟩
            · cases hv)
          have hlen : us.length = n := by rw [h1, List.length_take, List.length_drop]; omega
          have hrun := run_loadCells_list (P := P) c.w (⟨a, o + off, none⟩ : Addr) us h2
          rw [hlen] at hrun
          refine ⟨.agg us.toArray, ?_, .agg _ us h3.1 h3.2⟩
          simp [Instr.loadAt, Instr.sureAddr, loadVar, run_isAgg ha, run_sizeOf hs, hrun]
        · cases hl

/-- One's own row is seen. -/
theorem RH.seen {c : Cx} {H : List Blk} (h : RH c H) {id k r : Nat} {rows : List (List V)} {row : List V} (hb : H[id]? = some (.row k rows)) (hr : rows[r]? = some row) :
    ∃ b sz, c.ρ id = some (b, sz) ∧ Seen c b (r * k) row ∧ row.length = k := by
  obtain ⟨b, sz, h1, _, cells, e, h2, h3, h4, h5, _, h6⟩ := h.live id _ hb (by simp)
  have hlt : r < rows.length := (List.getElem?_eq_some_iff.1 hr).1
  have hk : row.length = k := h4 row (List.mem_of_getElem? hr)
  refine ⟨b, sz, h1, ⟨cells, e, (0, 0), h2, ?_, ?_⟩, hk⟩
  · have : (r + 1) * k ≤ rows.length * k := Nat.mul_le_mul_right k hlt
    rw [Nat.add_mul] at this
    omega
  · intro j v u hv hu
    exact h6 r row j v u hr hv (by simpa using hu)

theorem R.fpt_seen {c : Cx} {row : List V} {off : Nat} {u : Value} (h : R c (.fpt row off) u) : ∃ a o, u = .pointer (some ⟨a, o + off, none⟩) ∧ Seen c a o row ∧ ¬ c.X a ∧ belL 0 row = true := by
  cases h with
  | fpt _ _ a o cells e fz h1 h2 h3 hp h4 => exact ⟨a, o, rfl, ⟨cells, e, fz, h1, h3, h4⟩, h2, hp⟩
theorem R.fpt_of {c : Cx} {row : List V} {off a o : Nat} (h : Seen c a o row) (hx : ¬ c.X a) (hp : belL 0 row = true) : R c (.fpt row off) (.pointer (some ⟨a, o + off, none⟩)) := by
  obtain ⟨cells, e, fz, h1, h3, h4⟩ := h
  exact .fpt row off a o cells e fz h1 hx h3 hp h4

/-! ### The world with one block turned, or one more -/

/-- The world with a block put at b. -/
def setB (w : World) (b : Nat) (o : Obj) : World := { w with heap := w.heap.setIfInBounds b o }

@[simp] theorem setB_size (w : World) (b : Nat) (o : Obj) : (setB w b o).heap.size = w.heap.size := by simp [setB]
theorem setB_same {w : World} {b : Nat} {o : Obj} (h : b < w.heap.size) : (setB w b o).heap[b]? = some o := by simp [setB, h]
theorem setB_other {w : World} {b b' : Nat} {o : Obj} (h : b' ≠ b) : (setB w b o).heap[b']? = w.heap[b']? := by
  simp only [setB]; rw [Array.getElem?_setIfInBounds_ne (Ne.symm h)]

/-- One's own block turned. -/
theorem RH.turned {c : Cx} {H : List Blk} (h : RH c H) {id : Nat} {b sz : Nat} {blk blk' : Blk} (hb : H[id]? = some blk) (hd : blk ≠ .dead) (hρ : c.ρ id = some (b, sz)) {o : Obj} (hd' : blk' ≠ .dead)
    (hnew : BlkAs { c with w := setB c.w b o } b sz blk') : RH { c with w := setB c.w b o } (H.set id blk') ∧ Stp c { c with w := setB c.w b o } := by
  have hstp : Stp c { c with w := setB c.w b o } := {
    os := rfl
    tape := rfl
    output := rfl
    drawn := Nat.le_refl _
    size := by simp
    keep := fun i hi hn => setB_other (fun e => hn id sz (by rw [e]; exact hρ))
    X := fun _ _ => ⟨fun h => h, fun _ h => h⟩
    N := Nat.le_refl _
    ρ := fun _ _ => .inl rfl
    own := fun id b sz e => .inr ⟨id, sz, e⟩ }
  have hsub := hstp.sub h
  have hid : id < H.length := (List.getElem?_eq_some_iff.1 hb).1
  refine ⟨{ N := by simpa using h.N, X := fun i hi => by simpa using h.X i hi, gone := ?_, live := ?_, inj := h.inj }, hstp⟩
  · intro i hi
    by_cases e : id = i
    · subst e
      simp [hid, hd'] at hi
    · simp [List.getElem?_set, e] at hi
      exact h.gone i (by simpa using hi)
  · intro i blk'' hi hdd
    by_cases e : id = i
    · subst e
      simp [hid] at hi
      subst hi
      exact ⟨b, sz, hρ, h.ownX hρ, hnew⟩
    · simp [List.getElem?_set, e] at hi
      obtain ⟨b', sz', h1, h2, h3⟩ := h.live i blk'' hi hdd
      have hne : b' ≠ b := fun eb => e (h.inj id i b sz sz' hρ (by rw [← eb]; exact h1))
      refine ⟨b', sz', h1, h2, ?_⟩
      exact h3.move (setB_other hne) hsub

/-- The context with one block more of one's own. -/
def more (c : Cx) (o : Obj) (sz : Nat) : Cx :=
  { w := c.w.alloc o, X := fun b => c.X b ∨ b = c.w.heap.size, ρ := fun id => if id = c.N then some (c.w.heap.size, sz) else c.ρ id, N := c.N + 1 }

theorem RH.lt {c : Cx} {H : List Blk} (h : RH c H) {id b sz : Nat} (e : c.ρ id = some (b, sz)) : b < c.w.heap.size := h.X b (h.ownX e)

theorem RH.stp_more {c : Cx} {H : List Blk} (h : RH c H) (o : Obj) (sz : Nat) : Stp c (more c o sz) where
  os := rfl
  tape := rfl
  output := rfl
  drawn := Nat.le_refl _
  size := by simp [more]
  keep := fun i hi _ => Below.heap_alloc _ _ _ hi
  X := fun i hi => ⟨fun e => by rcases e with e | e; exact e; omega, fun _ e => .inl e⟩
  N := by simp [more]
  ρ := fun id hi => by simp [more]; left; intro e; omega
  own := fun id b sz e => by
    simp only [more] at e
    split at e
    · cases e; exact .inl (Nat.le_refl _)
    · exact .inr ⟨id, sz, e⟩

theorem RH.alloc {c : Cx} {H : List Blk} (h : RH c H) {o : Obj} {sz : Nat} {blk : Blk} (hd : blk ≠ .dead) (hnew : BlkAs (more c o sz) c.w.heap.size sz blk) : RH (more c o sz) (H ++ [blk]) := by
  have hsub := (h.stp_more o sz).sub h
  have hN := h.N
  refine { N := by simp [more, hN], X := ?_, gone := ?_, live := ?_, inj := ?_ }
  · intro i hi
    simp only [more, World.size_alloc] at hi ⊢
    rcases hi with hi | hi
    · have := h.X i hi; omega
    · omega
  · intro i hi
    simp only [more]
    have hne : i ≠ c.N := by
      intro e; subst e; rw [hN] at hi; simp [hd] at hi
    rw [if_neg hne]
    by_cases hl : i < H.length
    · rw [List.getElem?_append_left hl] at hi; exact h.gone i hi
    · exact h.gone i (.inl (by simp; omega))
  · intro i blk' hi hdd
    by_cases hl : i < H.length
    · rw [List.getElem?_append_left hl] at hi
      obtain ⟨b', sz', h1, h2, h3⟩ := h.live i blk' hi hdd
      have hlt := h.lt h1
      refine ⟨b', sz', by simp only [more]; rw [if_neg (by omega)]; exact h1, .inl h2, ?_⟩
      have hh : (more c o sz).w.heap[b']? = c.w.heap[b']? := Below.heap_alloc _ _ _ hlt
      exact h3.move hh hsub
    · have he : i = H.length := by
        have := (List.getElem?_eq_some_iff.1 hi).1; simp at this; omega
      subst he
      simp at hi
      subst hi
      exact ⟨c.w.heap.size, sz, by simp [more, hN], .inr rfl, hnew⟩
  · intro i i' b s s' e e'
    simp only [more] at e e'
    split at e <;> split at e'
    · omega
    · cases e; have := h.lt e'; omega
    · cases e'; have := h.lt e; omega
    · exact h.inj i i' b s s' e e'

theorem alloc_new (w : World) (o : Obj) : (w.alloc o).heap[w.heap.size]? = some o := World.alloc_heap_new w o

/-- A new block of rows. -/
theorem RH.allocRow {c : Cx} {H : List Blk} (h : RH c H) {k : Nat} {rows : List (List V)} {cells : Array Value} {e : TypeId} (hk : ∀ row ∈ rows, row.length = k) (hs : rows.length * k ≤ cells.size)
    (h1 : ∀ row ∈ rows, ∀ v ∈ row, v.one = true) (hc : CellsAs c k rows cells 0) :
    RH (more c (.cells cells e) cells.size) (H ++ [.row k rows]) ∧ Stp c (more c (.cells cells e) cells.size) :=
  ⟨h.alloc (by simp) ⟨cells, e, alloc_new _ _, rfl, hk, hs, h1, hc.mono ((h.stp_more _ _).sub h)⟩, h.stp_more _ _⟩
end Go.Sh
end
section
namespace Go.Sh
open Go.RowKit
set_option linter.unusedVariables false
set_option linter.unusedSimpArgs false

variable {P : Program}

def putCells (cells : Array Value) (o : Nat) : List Value → Array Value
  | [] => cells
  | v :: r => putCells (cells.setIfInBounds o v) (o + 1) r

@[simp] theorem putCells_size (vs : List Value) : ∀ (cells : Array Value) (o : Nat), (putCells cells o vs).size = cells.size := by
  induction vs with
  | nil => intro cells o; rfl
  | cons v r ih => intro cells o; simp [putCells, ih]

theorem putCells_get (vs : List Value) : ∀ (cells : Array Value) (o j : Nat), o + vs.length ≤ cells.size →
    (putCells cells o vs)[j]? = if o ≤ j ∧ j < o + vs.length then vs[j - o]? else cells[j]? := by
  induction vs with
  | nil => intro cells o j _; simp [putCells]; intro h1 h2; omega
  | cons v r ih =>
    intro cells o j h
    simp only [List.length_cons] at h
    simp only [putCells]
    rw [ih _ _ _ (by simp; omega)]
    by_cases h1 : o + 1 ≤ j ∧ j < o + 1 + r.length
    · rw [if_pos h1, if_pos ⟨by omega, by simp; omega⟩, show j - o = (j - (o + 1)) + 1 by omega]
      rfl
    · rw [if_neg h1]
      by_cases h2 : j = o
      · subst h2
        rw [if_pos ⟨Nat.le_refl _, by simp⟩]
        simp [show j < cells.size by omega]
      · rw [if_neg (by simp; omega), Array.getElem?_setIfInBounds_ne (by omega)]

theorem setCell_setB {w : World} {b o : Nat} {cells : Array Value} {e : TypeId} {fz : Nat × Nat} {v : Value} (h : w.heap[b]? = some (.cells cells e fz)) :
    w.setCell ⟨b, o, none⟩ v = setB w b (.cells (cells.setIfInBounds o v) e fz) := by
  unfold World.setCell setB
  congr 1
  apply Array.ext_getElem?
  intro i
  rw [Array.getElem?_modify, Array.getElem?_setIfInBounds]
  obtain ⟨hb, hv⟩ := Array.getElem?_eq_some_iff.1 h
  by_cases e : b = i
  · subst e; simp [hb, hv]
  · simp [e]

theorem setB_setB (w : World) (b : Nat) (o o' : Obj) : setB (setB w b o) b o' = setB w b o' := by simp [setB]

theorem run_storeCells {b o : Nat} {e : TypeId} (vs : List Value) : ∀ (i : Nat) (w : World) (cells : Array Value), w.heap[b]? = some (.cells cells e (0, 0)) → o + i + vs.length ≤ cells.size → (∀ v ∈ vs, v.oneCell' = true) →
    (storeCells ⟨b, o, none⟩ vs i).run P w = .ok () (setB w b (.cells (putCells cells (o + i) vs) e (0, 0))) := by
  induction vs with
  | nil =>
    intro i w cells h _ _
    simp only [storeCells, putCells, Sem.run_pure]
    congr 1
    unfold setB
    have : w.heap.setIfInBounds b (.cells cells e (0, 0)) = w.heap := by
      apply Array.ext_getElem?
      intro j
      rw [Array.getElem?_setIfInBounds]
      obtain ⟨hb, hv⟩ := Array.getElem?_eq_some_iff.1 h
      by_cases e : b = j
      · subst e; simp [hb, hv]
      · simp [e]
    rw [this]
  | cons v r ih =>
    intro i w cells h hl h1
    simp only [List.length_cons] at hl
    have hc : w.cell? ⟨b, o + i, none⟩ = some cells[o + i] := by simp [World.cell?, h, show o + i < cells.size by omega]
    have hf : w.frozen? ⟨b, o + i, none⟩ = false := by simp [World.frozen?, h]
    have hs : (store ((⟨b, o, none⟩ : Addr).add i) v).run P w = .ok () (setB w b (.cells (cells.setIfInBounds (o + i) v) e (0, 0))) := by
      rw [Addr.add_mk, run_store P w _ v _ (h1 v (by simp)), hc]
      simp only [hf, Bool.false_eq_true, if_false]
      rw [setCell_setB h]
    simp only [storeCells, Sem.run_bind, hs, Result.andThen_ok]
    rw [ih (i + 1) _ _ (setB_same (lt_of_get h)) (by simp; omega) (fun v hv => h1 v (by simp [hv])), setB_setB]
    rfl

theorem R.cells_of {c : Cx} {v : V} {u : Value} (h : R c v u) (ho : v.cells.all V.one = true) : u.cells.size = v.cells.length ∧ ∀ (j : Nat) (x : V) (y : Value), v.cells[j]? = some x → u.cells.toList[j]? = some y → R c x y := by
  cases h with
  | agg cs us h1 h2 => exact ⟨by simp [V.cells, Value.cells, h1], fun j x y a b => h2 j x y a (by simpa [Value.cells] using b)⟩
  | tup => simp [V.cells, V.one] at ho
  | skp => simp [V.cells, V.one] at ho
  | junk => simp [V.cells, V.one] at ho
  | _ =>
    refine ⟨rfl, fun j x y a b => ?_⟩
    cases j with
    | zero =>
      simp [V.cells] at a
      simp [Value.cells] at b
      subst a b
      constructor <;> assumption
    | succ j => simp [V.cells] at a

theorem R.cells_one {c : Cx} {v : V} {u : Value} (h : R c v u) (ho : v.cells.all V.one = true) : ∀ y ∈ u.cells.toList, y.oneCell' = true := by
  intro y hy
  obtain ⟨h1, h2⟩ := h.cells_of ho
  obtain ⟨j, hj⟩ := List.getElem?_of_mem hy
  have hlt : j < v.cells.length := by rw [← h1]; simpa using (List.getElem?_eq_some_iff.1 hj).1
  have hx : v.cells[j]? = some v.cells[j] := by simp [hlt]
  refine (h2 j _ y hx hj).one ?_
  simp only [List.all_eq_true] at ho
  exact ho _ (List.getElem_mem hlt)

theorem setAt_length {l : List V} {off : Nat} {cs : List V} (h : off + cs.length ≤ l.length) : (setAt l off cs).length = l.length := by
  simp [setAt]; omega

theorem setAt_get {l : List V} {off : Nat} {cs : List V} (h : off + cs.length ≤ l.length) (j : Nat) : (setAt l off cs)[j]? = if off ≤ j ∧ j < off + cs.length then cs[j - off]? else l[j]? := by
  simp only [setAt, List.append_assoc]
  by_cases h1 : j < off
  · rw [List.getElem?_append_left (by simp; omega), if_neg (by omega), List.getElem?_take, if_pos h1]
  · rw [List.getElem?_append_right (by simp; omega)]
    simp only [List.length_take, Nat.min_eq_left (show off ≤ l.length by omega)]
    by_cases h2 : j < off + cs.length
    · rw [List.getElem?_append_left (by omega), if_pos ⟨by omega, h2⟩]
    · rw [List.getElem?_append_right (by omega), if_neg (by omega), List.getElem?_drop]
      congr 1
      omega

/-- Storing into one's own row. -/
theorem RH.store {c : Cx} {H : List Blk} (h : RH c H) {id k r off : Nat} {rows : List (List V)} {row : List V} (hb : H[id]? = some (.row k rows)) (hr : rows[r]? = some row)
    {t : TypeId} {v : V} {u : Value} {sz : Nat} (ht : szOf P t = some sz) (hv : R c v u) (hl : v.cells.length = sz) (hle : off + sz ≤ row.length) (h1 : v.cells.all V.one = true) {ad : Value} (ha : R c (.rpt id k r off) ad) :
    ∃ c', (Instr.storeAt t ad u).run P c.w = .ok () c'.w ∧ RH c' (H.set id (.row k (rows.set r (setAt row off v.cells)))) ∧ Stp c c' := by
  obtain ⟨b, sz', hρ, hX, cells, e, g1, g2, g3, g4, g5, g6⟩ := h.live id _ hb (by simp)
  have hlt : r < rows.length := (List.getElem?_eq_some_iff.1 hr).1
  have hk : row.length = k := g3 row (List.mem_of_getElem? hr)
  have hle2 : (r + 1) * k ≤ rows.length * k := Nat.mul_le_mul_right k hlt
  rw [Nat.add_mul] at hle2
  cases ha with
  | rpt _ _ _ _ a hid _ hp =>
    rw [hp b sz' hρ]
    obtain ⟨q1, q2⟩ := hv.cells_of h1
    have q3 := hv.cells_one h1
    have hlen : u.cells.toList.length = v.cells.length := by simpa using q1
    have hput := putCells_get u.cells.toList cells (r * k + off)
    have hrun : (Instr.storeAt t (.pointer (some ⟨b, r * k + off, none⟩)) u).run P c.w = .ok () (setB c.w b (.cells (putCells cells (r * k + off) u.cells.toList) e (0, 0))) := by
      simp only [Instr.storeAt, Instr.sureAddr, storeVar, Sem.run_bind, Sem.run_pure, Result.andThen_ok, run_sizeOf ht]
      rw [if_neg (by simp [q1, hl])]
      exact run_storeCells u.cells.toList 0 c.w cells g1 (by rw [hlen]; omega) q3
    refine ⟨{ c with w := setB c.w b (.cells (putCells cells (r * k + off) u.cells.toList) e (0, 0)) }, hrun, ?_⟩
    have hstp := (h.turned (o := .cells (putCells cells (r * k + off) u.cells.toList) e (0, 0)) (blk' := .row k (rows.set r (setAt row off v.cells))) hb (by simp) hρ (by simp))
    refine hstp ⟨_, e, setB_same (lt_of_get g1), by simpa using g2, ?_, by simpa using g4, ?_, ?_⟩
    · intro x hx
      rcases List.mem_or_eq_of_mem_set hx with hx | hx
      · exact g3 x hx
      · rw [hx, setAt_length (by omega)]; exact hk
    · intro x hx y hy
      rcases List.mem_or_eq_of_mem_set hx with hx | hx
      · exact g5 x hx y hy
      · subst hx
        simp only [setAt, List.mem_append] at hy
        rcases hy with (hy | hy) | hy
        · exact g5 row (List.mem_of_getElem? hr) y (List.mem_of_mem_take hy)
        · simp only [List.all_eq_true] at h1; exact h1 y hy
        · exact g5 row (List.mem_of_getElem? hr) y (List.mem_of_mem_drop hy)
    · have hsub : Sub c { c with w := setB c.w b (.cells (putCells cells (r * k + off) u.cells.toList) e (0, 0)) } :=
        ⟨fun i hi hx => ⟨setB_other (fun e => hx (e ▸ hX)), hx⟩, Nat.le_refl _, fun _ _ => .inl rfl⟩
      intro i x j y z hi hj hz
      rw [Nat.zero_add, putCells_get _ _ _ _ (by rw [hlen]; omega), hlen] at hz
      have hjk : j < k := by
        have := (List.getElem?_eq_some_iff.1 hj).1
        have hxl : x.length = k := by
          rcases List.mem_or_eq_of_mem_set (List.mem_of_getElem? hi) with hx | hx
          · exact g3 x hx
          · rw [hx, setAt_length (by omega)]; exact hk
        omega
      by_cases hir : i = r
      · subst hir
        rw [List.getElem?_set_self (by omega)] at hi
        cases hi
        rw [setAt_get (by omega)] at hj
        by_cases hin : off ≤ j ∧ j < off + v.cells.length
        · rw [if_pos hin] at hj
          rw [if_pos (by omega)] at hz
          rw [show i * k + j - (i * k + off) = j - off by omega] at hz
          exact (q2 _ y z hj hz).mono hsub
        · rw [if_neg hin] at hj
          rw [if_neg (by omega)] at hz
          exact (g6 i row j y z hr hj (by simpa using hz)).mono hsub
      · rw [List.getElem?_set_ne (by omega)] at hi
        have hno : ¬ (r * k + off ≤ i * k + j ∧ i * k + j < r * k + off + v.cells.length) := by
          rcases Nat.lt_or_gt_of_ne hir with hlt' | hgt'
          · have : (i + 1) * k ≤ r * k := Nat.mul_le_mul_right k hlt'
            rw [Nat.add_mul] at this
            omega
          · have : (r + 1) * k ≤ i * k := Nat.mul_le_mul_right k hgt'
            rw [Nat.add_mul] at this
            omega
        rw [if_neg hno] at hz
        exact (g6 i x j y z hi hj (by simpa using hz)).mono hsub

/-! ### Constants -/
theorem toV1_R {c : Cx} {u : Value} {v : V} (h : toV1 u = some v) : R c v u := by
  unfold toV1 at h
  split at h <;> first | (cases h; done) | (cases h; constructor; done) | skip
  · rename_i f a b
    split at h
    · rename_i hz
      cases h
      obtain rfl : a = #[] := Array.eq_empty_of_size_eq_zero hz.1
      obtain rfl : b = #[] := Array.eq_empty_of_size_eq_zero hz.2
      exact R.fn (c := c) f [] [] [] [] rfl rfl (fun j v u e => by simp at e) (fun j v u e => by simp at e)
    · cases h

theorem toVL_R {c : Cx} : ∀ {us : List Value} {vs : List V}, toVL us = some vs → RL c vs us
  | [], vs, h => by cases h; exact ⟨rfl, fun j v u e => by simp at e⟩
  | x :: r, vs, h => by
    simp only [toVL] at h
    split at h
    · rename_i v l h1 h2
      cases h
      obtain ⟨g1, g2⟩ := toVL_R h2
      refine ⟨by simp [g1], fun j v' u' e1 e2 => ?_⟩
      cases j with
      | zero => simp at e1 e2; subst e1 e2; exact toV1_R h1
      | succ j => exact g2 j v' u' (by simpa using e1) (by simpa using e2)
    · cases h

theorem toV_R {c : Cx} {u : Value} {v : V} (h : toV u = some v) : R c v u := by
  unfold toV at h
  split at h
  · rename_i cs
    simp only [Option.map_eq_some_iff] at h
    obtain ⟨l, hl, rfl⟩ := h
    obtain ⟨h1, h2⟩ := toVL_R (c := c) hl
    have := R.agg (c := c) l cs.toList h1 h2
    simpa using this
  · rename_i cs
    split at h
    · rename_i hz
      cases h
      obtain rfl : cs = #[] := Array.eq_empty_of_size_eq_zero hz
      exact R.tup (c := c) [] [] rfl (fun j v u e => by simp at e)
    · cases h
  · exact toV1_R h

theorem evA {c : Cx} {E : Env} {a : Act} (h : RE c E a.tmps) {x : Operand} {y : A} (hx : lowA x = some y) : R c (ev E y) (a.eval x) := by
  cases x with
  | tmp t =>
    simp only [lowA] at hx
    cases hx
    simp only [ev, Act.eval]
    cases hg : get E t with
    | none => exact .junk _
    | some v =>
      obtain ⟨u, h1, h2⟩ := h t v hg
      rw [Array.getD_eq_getD_getElem?, h1]
      exact h2
  | const v =>
    simp only [lowA, Option.map_eq_some_iff] at hx
    obtain ⟨v', hv, rfl⟩ := hx
    exact toV_R hv
  | global g => simp [lowA] at hx
  | func f =>
    simp only [lowA] at hx
    cases hx
    exact R.fn (c := c) (.func f) [] [] [] [] rfl rfl (fun j v u e => by simp at e) (fun j v u e => by simp at e)

theorem evAs {c : Cx} {E : Env} {a : Act} (h : RE c E a.tmps) : ∀ {xs : List Operand} {ys : List A}, lowAs xs = some ys → RL c (ys.map (ev E)) (xs.map a.eval)
  | [], ys, e => by cases e; exact ⟨rfl, fun j v u e => by simp at e⟩
  | x :: r, ys, e => by
    simp only [lowAs] at e
    split at e
    · rename_i v l h1 h2
      cases e
      obtain ⟨g1, g2⟩ := evAs h h2
      refine ⟨by simpa using g1, fun j v' u' e1 e2 => ?_⟩
      cases j with
      | zero => simp at e1 e2; subst e1 e2; exact evA h h1
      | succ j => exact g2 j v' u' (by simpa using e1) (by simpa using e2)
    · cases e

theorem zeroI_R {c : Cx} {t : TypeId} {z : List V} (h : zeroI P t = some z) (h1 : z.all V.one = true) : ∃ u : Value, (∀ w, (zeroValue t).run P w = .ok u w) ∧ u.cells.size = z.length ∧ RL c z u.cells.toList ∧ ∀ y ∈ u.cells.toList, y.oneCell' = true := by
  unfold zeroI at h
  cases hi : P.info? t with
  | none => simp [hi] at h
  | some i =>
    cases hz : i.zero with
    | none => simp [hi, hz] at h
    | some u =>
      simp only [hi, hz, Option.bind_some, Option.map_eq_some_iff] at h
      obtain ⟨v, hv, rfl⟩ := h
      have hr := toV_R (c := c) hv
      obtain ⟨g1, g2⟩ := hr.cells_of h1
      refine ⟨u, fun w => by simp [zeroValue, typeInfo, hi, hz], g1, ⟨by simpa using g1.symm, g2⟩, hr.cells_one h1⟩
end Go.Sh
end
section
namespace Go.Sh
open Go.RowKit
set_option linter.unusedVariables false
set_option linter.unusedSimpArgs false

variable {P : Program}

def fnc (rd : Option Nat) : Fence := match rd with | none => Fence.wide | some l => Fence.wide.inRound l
theorem fnc_fn (rd : Option Nat) (f : FuncId) : (fnc rd).fn f := by cases rd <;> exact trivial
theorem fnc_depth (rd : Option Nat) : (fnc rd).depth = none := by cases rd <;> rfl

section
variable {rd : Option Nat} {n : Nat} {o : Oper} {a : Act} {w w' : World} {nx : Act → World → Prop} {Q : Exit → Act → World → Prop}

theorem wpIn_run (hd : ∀ c, o.op ≠ .defer c) {r : Result Next} (h : (execOp a.eval o).run P w = r) (k : o.uponIn (fnc rd) n P a nx Q r) : o.wpIn (fnc rd) n P a w nx Q :=
  ⟨fun f _ => fnc_fn rd f, by rw [Oper.semAt_eq _ _ _ hd, h]; exact k⟩

theorem wpIn_value (hd : ∀ c, o.op ≠ .defer c) {u : Value} (h : (execOp a.eval o).run P w = .ok (.value u) w') (k : nx (a.put o.dst u) w') : o.wpIn (fnc rd) n P a w nx Q := wpIn_run hd h k
theorem wpIn_skipN (hd : ∀ c, o.op ≠ .defer c) (h : (execOp a.eval o).run P w = .ok .skip w') (k : nx (a.put o.dst undef) w') : o.wpIn (fnc rd) n P a w nx Q := wpIn_run hd h k
end

theorem run_underlying {t : TypeId} {d : TypeDesc} {w : World} (h : P.underlying t = some d) : (underlying t).run P w = .ok d w := by
  simp [underlying, h]

/-- What is asked of an operation. -/
def OpOK (P : Program) (o : Oper) (io : IOp) : Prop :=
  ∀ (rd : Option Nat) (n : Nat) (a : Act) (c : Cx) (E : Env) (H : List Blk) (K : V → List Blk → Prop) (nx : Act → World → Prop) (Q : Exit → Act → World → Prop),
    RE c E a.tmps → RH c H → stepI false P io E H K → (∀ v H' c' u, K v H' → RH c' H' → R c' v u → Stp c c' → nx (a.put o.dst u) c'.w) → o.wpIn (fnc rd) n P a c.w nx Q

theorem ok_same {o : Oper} {io : IOp} (hd : ∀ c, o.op ≠ .defer c)
    (h : ∀ (a : Act) (c : Cx) (E : Env) (H : List Blk) (K : V → List Blk → Prop), RE c E a.tmps → RH c H → stepI false P io E H K → ∃ v u, K v H ∧ R c v u ∧ (execOp a.eval o).run P c.w = .ok (.value u) c.w) : OpOK P o io :=
  fun rd n a c E H K nx Q hE hH hs hk => by
    obtain ⟨v, u, h1, h2, h3⟩ := h a c E H K hE hH hs
    exact wpIn_value hd h3 (hk v H c u h1 hH h2 (Stp.refl c))

/-! ### moves -/
theorem ok_mov {o : Oper} {x : Operand} {io : IOp} (hop : o.op = .move x ∨ o.op = .assign x) (hl : lowO P o.op = some io) : OpOK P o io := by
  refine ok_same (by rcases hop with h | h <;> simp [h]) fun a c E H K hE hH hs => ?_
  have h1 : ∃ y, lowA x = some y ∧ io = .mov y := by
    rcases hop with h | h <;> rw [h] at hl <;> simp only [lowO, Option.map_eq_some_iff] at hl <;> obtain ⟨y, h1, h2⟩ := hl <;> exact ⟨y, h1, h2.symm⟩
  obtain ⟨y, hy, rfl⟩ := h1
  refine ⟨_, _, hs, evA hE hy, ?_⟩
  rcases hop with h | h <;> simp [execOp, h]

theorem ok_pick {o : Oper} {c x y : Operand} {io : IOp} (hop : o.op = .pick c x y) (hl : lowO P o.op = some io) : OpOK P o io := by
  refine ok_same (by simp [hop]) fun a cx E H K hE hH hs => ?_
  rw [hop] at hl
  simp only [lowO] at hl
  split at hl
  · rename_i c' x' y' h1 h2 h3
    cases hl
    simp only [stepI] at hs
    split at hs
    · rename_i t ht
      have hc := evA hE h1
      rw [ht] at hc
      cases hcv : a.eval c <;> rw [hcv] at hc <;> cases hc
      cases t with
      | true => exact ⟨_, _, hs.1 rfl, evA hE h2, by simp [execOp, hop, hcv, asBool]⟩
      | false => exact ⟨_, _, hs.2 rfl, evA hE h3, by simp [execOp, hop, hcv, asBool]⟩
    · exact hs.elim
  · cases hl

theorem ok_mki {o : Oper} {t : TypeId} {x : Operand} {io : IOp} (hop : o.op = .makeInterface t x) (hl : lowO P o.op = some io) : OpOK P o io := by
  refine ok_same (by simp [hop]) fun a c E H K hE hH hs => ?_
  rw [hop] at hl
  simp only [lowO] at hl
  split at hl
  · rename_i hc
    simp only [Option.map_eq_some_iff] at hl
    obtain ⟨y, hy, rfl⟩ := hl
    refine ⟨_, _, hs, .ifc t _ _ (evA hE hy), ?_⟩
    simp [execOp, hop, run_makeInterface (P := P) (w := c.w) t (a.eval x) hc]
  · cases hl

theorem ok_mkf {o : Oper} {f : Fn} {first caps : Array Operand} {io : IOp} (hop : o.op = .makeFunc f first caps) (hl : lowO P o.op = some io) : OpOK P o io := by
  refine ok_same (by simp [hop]) fun a c E H K hE hH hs => ?_
  rw [hop] at hl
  simp only [lowO] at hl
  split at hl
  · split at hl
    · rename_i l1 l2 h1 h2
      cases hl
      obtain ⟨g1, g2⟩ := evAs hE h1
      obtain ⟨k1, k2⟩ := evAs hE h2
      refine ⟨_, _, hs, R.fn _ _ _ _ _ g1 k1 g2 k2, ?_⟩
      simp [execOp, hop, Instr.makeFunc, ← List.map_toArray]
    · cases hl
  · cases hl

/-! ### loads and stores -/
theorem ok_ld {o : Oper} {t : TypeId} {x : Operand} {io : IOp} (hop : o.op = .load t x) (hl : lowO P o.op = some io) : OpOK P o io := by
  refine ok_same (by simp [hop]) fun a c E H K hE hH hs => ?_
  rw [hop] at hl
  simp only [lowO] at hl
  split at hl
  · rename_i s y h1 h2
    cases hl
    have hx := evA hE h2
    simp only [stepI] at hs
    split at hs
    · rename_i id k r off he
      rw [he] at hx
      obtain ⟨rows, row, hb, hr, v, hv, hK⟩ := hs
      obtain ⟨b, sz, hρ, hseen, _⟩ := hH.seen hb hr
      have hu : a.eval x = .pointer (some ⟨b, r * k + off, none⟩) := by
        generalize a.eval x = u at hx
        cases hx with
        | rpt _ _ _ _ ad hi _ hp => rw [hp b sz hρ]
      obtain ⟨u, hrun, hR⟩ := run_loadRow hseen h1 hv
      exact ⟨v, u, hK, hR, by simp [execOp, hop, hu, hrun]⟩
    · rename_i row off he
      rw [he] at hx
      obtain ⟨v, hv, hK⟩ := hs
      obtain ⟨ad, o', hu, hseen, _⟩ := hx.fpt_seen
      obtain ⟨u, hrun, hR⟩ := run_loadRow hseen h1 hv
      exact ⟨v, u, hK, hR, by simp [execOp, hop, hu, hrun]⟩
    · exact hs.elim
  · cases hl

theorem ok_st {o : Oper} {t : TypeId} {x y : Operand} {io : IOp} (hop : o.op = .store t x y) (hl : lowO P o.op = some io) : OpOK P o io := by
  intro rd n a c E H K nx Q hE hH hs hk
  rw [hop] at hl
  simp only [lowO] at hl
  split at hl
  · rename_i s x' y' h1 h2 h3
    cases hl
    have hx := evA hE h2
    simp only [stepI] at hs
    split at hs
    · rename_i id k r off he
      rw [he] at hx
      obtain ⟨rows, row, hb, hr, hlen, hle, h1', hK⟩ := hs
      obtain ⟨c', hrun, hH', hst⟩ := hH.store hb hr h1 (evA hE h3) hlen hle h1' hx
      refine wpIn_skipN (by simp [hop]) (w' := c'.w) (by simp [execOp, hop, hrun]) (hk _ _ c' undef hK hH' (R.tup [] [] rfl (fun j v u e => by simp at e)) hst)
    · exact hs.elim
  · cases hl

theorem ok_nilc {o : Oper} {x : Operand} {io : IOp} (hop : o.op = .nilCheck x) (hl : lowO P o.op = some io) : OpOK P o io := by
  refine ok_same (by simp [hop]) fun a c E H K hE hH hs => ?_
  rw [hop] at hl
  simp only [lowO, Option.map_eq_some_iff] at hl
  obtain ⟨y, hy, rfl⟩ := hl
  have hx := evA hE hy
  simp only [stepI] at hs
  refine ⟨ev E y, a.eval x, ?_, hx, ?_⟩
  · split at hs <;> first | exact hs | exact hs.elim
  · generalize hu : a.eval x = u at hx
    split at hs <;> rename_i he <;> first | exact hs.elim | skip
    all_goals (rw [he] at hx; cases hx <;> simp [execOp, hop, hu])

theorem ok_fad {o : Oper} {t : TypeId} {x : Operand} {f : Nat} {io : IOp} (hop : o.op = .fieldAddr t x f) (hl : lowO P o.op = some io) : OpOK P o io := by
  refine ok_same (by simp [hop]) fun a c E H K hE hH hs => ?_
  rw [hop] at hl
  simp only [lowO] at hl
  split at hl
  · rename_i fs hu
    split at hl
    · rename_i fd y hf hy
      split at hl
      · rename_i m hsz
        cases hl
        have hx := evA hE hy
        have hrun : ∀ ad : Addr, ad.spot = none → (Instr.fieldAt t (.pointer (some ad)) f).run P c.w = .ok (.pointer (some ⟨ad.block, ad.off + fd.offset, none⟩)) c.w := fun ad hs => by
          obtain ⟨b, o', sp⟩ := ad
          cases hs
          simp [Instr.fieldAt, run_underlying hu, hf, Instr.sureAddr, fieldPlace, run_sizeOf hsz, Addr.add_mk]
        simp only [stepI] at hs
        split at hs
        · rename_i id k r off he
          rw [he] at hx
          generalize hu' : a.eval x = u at hx
          cases hx with
          | rpt _ _ _ _ ad hi hsp hp =>
            refine ⟨_, .pointer (some ⟨ad.block, ad.off + fd.offset, none⟩), hs, ?_, by simp [execOp, hop, hu', hrun ad hsp]⟩
            refine .rpt _ _ _ _ _ hi rfl fun b sz hρ => ?_
            have := hp b sz hρ
            subst this
            simp [Nat.add_assoc]
        · rename_i row off he
          rw [he] at hx
          obtain ⟨ad, o', hu', hse, hX, hpu⟩ := hx.fpt_seen
          refine ⟨_, .pointer (some ⟨ad, o' + (off + fd.offset), none⟩), hs, .fpt_of hse hX hpu, ?_⟩
          simp [execOp, hop, hu', hrun, Nat.add_assoc]
        · exact hs.elim
      · cases hl
    · cases hl
  · cases hl
end Go.Sh
end
section
namespace Go.Sh
open Go.RowKit
set_option linter.unusedVariables false
set_option linter.unusedSimpArgs false

variable {P : Program}

theorem R_new {c : Cx} {H : List Blk} (h : RH c H) {o : Obj} {sz k : Nat} : R (more c o sz) (.rpt H.length k 0 0) (.pointer (some ⟨c.w.heap.size, 0, none⟩)) := by
  refine .rpt _ _ _ _ _ (by simp [more, h.N]) rfl fun b s e => ?_
  simp [more, h.N] at e
  simp [e.1]

theorem R_newSl {c : Cx} {H : List Blk} (h : RH c H) {o : Obj} {sz k len cap q : Nat} {ex : Bool} (hl : len ≤ q) (hc : cap ≤ q) (hx : ex = true → q = cap) (hs : q * k ≤ sz) :
    R (more c o sz) (.rsl H.length k 0 len cap ex) (.slice (some ⟨c.w.heap.size, 0, none⟩) len q) := by
  refine .rsl _ _ _ _ _ _ _ _ (by simp [more, h.N]) rfl hl hc hx fun b s e => ?_
  simp [more, h.N] at e
  simp [e.1]; omega

theorem CellsAs.of_RL {c : Cx} {row : List V} {cells : Array Value} (h : RL c row cells.toList) : CellsAs c row.length [row] cells 0 := by
  intro i r j v u h1 h2 h3
  cases i with
  | zero =>
    simp at h1
    subst h1
    exact h.2 j v u h2 (by simpa using h3)
  | succ i => simp at h1

theorem ok_alloc {o : Oper} {t : TypeId} {io : IOp} (hop : o.op = .alloc t) (hl : lowO P o.op = some io) : OpOK P o io := by
  intro rd n a c E H K nx Q hE hH hs hk
  rw [hop] at hl
  simp only [lowO, Option.map_eq_some_iff] at hl
  obtain ⟨z, hz, rfl⟩ := hl
  obtain ⟨h1, hK⟩ := hs
  obtain ⟨u, hrun, hsz, hRL, hone⟩ := zeroI_R (c := c) hz h1
  obtain ⟨g1, g2⟩ := hH.allocRow (k := z.length) (rows := [z]) (cells := u.cells) (e := t) (by simp) (by simp [hsz]) (by simpa using h1) (.of_RL hRL)
  refine wpIn_value (by simp [hop]) (u := .pointer (some ⟨c.w.heap.size, 0, none⟩)) (w' := c.w.alloc (.cells u.cells t)) ?_ (hk _ _ _ _ hK g1 (R_new hH) g2)
  simp [execOp, hop, Instr.alloc, hrun, newVar, newRow]

theorem ok_box {o : Oper} {t : TypeId} {x : Operand} {io : IOp} (hop : o.op = .box t x) (hl : lowO P o.op = some io) : OpOK P o io := by
  intro rd n a c E H K nx Q hE hH hs hk
  rw [hop] at hl
  simp only [lowO, Option.map_eq_some_iff] at hl
  obtain ⟨y, hy, rfl⟩ := hl
  obtain ⟨h1, hK⟩ := hs
  have hx := evA hE hy
  obtain ⟨q1, q2⟩ := hx.cells_of h1
  obtain ⟨g1, g2⟩ := hH.allocRow (k := (ev E y).cells.length) (rows := [(ev E y).cells]) (cells := (a.eval x).cells) (e := t) (by simp) (by simp [q1]) (by simpa using h1) (.of_RL ⟨by simpa using q1.symm, q2⟩)
  refine wpIn_value (by simp [hop]) (u := .pointer (some ⟨c.w.heap.size, 0, none⟩)) (w' := c.w.alloc (.cells (a.eval x).cells t)) ?_ (hk _ _ _ _ hK g1 (R_new hH) g2)
  simp [execOp, hop, Instr.box, newVar, newRow]

/-! ### composite values -/
theorem foldl_put (l : List Value) : ∀ (cs : Array Value) (off s : Nat), ((l.zipIdx s).foldl (fun cs (x : Value × Nat) => cs.setIfInBounds (off + x.2) x.1) cs) = putCells cs (off + s) l := by
  induction l with
  | nil => intro cs off s; rfl
  | cons v r ih => intro cs off s; simp only [List.zipIdx_cons, List.foldl_cons, putCells, ih]; rfl

theorem fill_step (cells : Array Value) (off : Nat) (v : Value) : v.cells.zipIdx.foldl (fun cs (x : Value × Nat) => cs.setIfInBounds (off + x.2) x.1) cells = putCells cells off v.cells.toList := by
  rw [← Array.foldl_toList, Array.toList_zipIdx]
  exact foldl_put v.cells.toList cells off 0

theorem RL.put {c : Cx} {z : List V} {cells : Array Value} (h : RL c z cells.toList) {v : V} {u : Value} (hv : R c v u) (h1 : v.cells.all V.one = true) {off : Nat} (hle : off + v.cells.length ≤ z.length) :
    RL c (setAt z off v.cells) (putCells cells off u.cells.toList).toList := by
  obtain ⟨q1, q2⟩ := hv.cells_of h1
  have hlen : u.cells.toList.length = v.cells.length := by simpa using q1
  have hsz : cells.size = z.length := by simpa using h.1.symm
  refine ⟨by rw [setAt_length hle]; simp [hsz], fun j x y e1 e2 => ?_⟩
  rw [setAt_get hle] at e1
  rw [Array.getElem?_toList, putCells_get _ _ _ _ (by rw [hlen]; omega), hlen] at e2
  by_cases hj : off ≤ j ∧ j < off + v.cells.length
  · rw [if_pos hj] at e1 e2
    exact q2 _ x y e1 e2
  · rw [if_neg hj] at e1 e2
    exact h.2 j x y e1 (by simpa using e2)

theorem fill_R {c : Cx} {E : Env} {a : Act} (hE : RE c E a.tmps) (place : Nat → Option (Nat × Nat)) : ∀ (parts : List (Nat × Operand)) (ip : List (Nat × Nat × A)) (z cs : List V) (cells : Array Value),
    lowPart place parts = some ip → fillI E z ip = some cs → RL c z cells.toList →
    ∃ cells', Instr.fill place cells (parts.map fun p => (p.1, a.eval p.2)) = some cells' ∧ RL c cs cells'.toList
  | [], ip, z, cs, cells, h1, h2, h3 => by
    cases h1
    simp [fillI] at h2
    subst h2
    exact ⟨cells, rfl, h3⟩
  | (j, x) :: r, ip, z, cs, cells, h1, h2, h3 => by
    simp only [lowPart] at h1
    split at h1
    · rename_i p y l e1 e2 e3
      cases h1
      simp only [fillI] at h2
      split at h2
      · rename_i hc
        obtain ⟨c1, c2, c3⟩ := hc
        have hx := evA hE e2
        obtain ⟨q1, q2⟩ := hx.cells_of c3
        obtain ⟨cells', f1, f2⟩ := fill_R hE place r l _ cs _ e3 h2 (h3.put hx c3 (by omega))
        refine ⟨cells', ?_, f2⟩
        have hsz : cells.size = z.length := by simpa using h3.1.symm
        simp only [List.map_cons, Instr.fill, e1]
        rw [if_neg (by simp [q1, c1]; omega), fill_step]
        exact f1
      · cases h2
    · cases h1

theorem ok_bld {o : Oper} {t : TypeId} {parts : Array (Nat × Operand)} {io : IOp} (hop : o.op = .build t parts) (hl : lowO P o.op = some io) : OpOK P o io := by
  refine ok_same (by simp [hop]) fun a c E H K hE hH hs => ?_
  rw [hop] at hl
  have key : ∀ (place : Nat → Option (Nat × Nat)) (ip : List (Nat × Nat × A)) (z : List V), zeroI P t = some z → lowPart place parts.toList = some ip → io = .bld z ip →
      (∀ cells i zz, P.info? t = some i → i.zero = some zz → Instr.fill place zz.cells (parts.toList.map fun p => (p.1, a.eval p.2)) = some cells → P.built t (parts.map fun (i, x) => (i, a.eval x)).toList = some cells) →
      ∃ v u, K v H ∧ R c v u ∧ (execOp a.eval o).run P c.w = .ok (.value u) c.w := by
    intro place ip z hz hp hio hb
    subst hio
    obtain ⟨h1, cs, hf, hK⟩ := hs
    unfold zeroI at hz
    cases hi : P.info? t with
    | none => simp [hi] at hz
    | some i =>
      cases hzz : i.zero with
      | none => simp [hi, hzz] at hz
      | some zz =>
        simp only [hi, hzz, Option.bind_some, Option.map_eq_some_iff] at hz
        obtain ⟨zv, hzv, rfl⟩ := hz
        have hr := toV_R (c := c) hzv
        obtain ⟨g1, g2⟩ := hr.cells_of h1
        obtain ⟨cells', f1, f2⟩ := fill_R hE place parts.toList ip _ cs zz.cells hp hf ⟨by simpa using g1.symm, g2⟩
        refine ⟨_, _, hK, R.agg (c := c) cs cells'.toList f2.1 f2.2, ?_⟩
        have := run_build (P := P) c.w t (parts.map fun (i, x) => (i, a.eval x)) cells' (hb cells' i zz hi hzz f1)
        simp [execOp, hop, this]
  simp only [lowO] at hl
  split at hl
  · rename_i fs z hu hz
    split at hl
    · rename_i l hpl
      simp only [Option.map_eq_some_iff] at hl
      obtain ⟨ip, hip, rfl⟩ := hl
      refine key _ ip z hz hip rfl fun cells i zz hi hzz hf => ?_
      unfold Program.built
      unfold placesI at hpl
      simp only [hi, hu, hzz, hpl]
      simpa using hf
    · cases hl
  · rename_i e z hu hz
    split at hl
    · rename_i m hm
      simp only [Option.map_eq_some_iff] at hl
      obtain ⟨ip, hip, rfl⟩ := hl
      refine key _ ip z hz hip rfl fun cells i zz hi hzz hf => ?_
      unfold Program.built
      unfold szOf at hm
      cases hie : P.info? e with
      | none => simp [hie] at hm
      | some ie =>
        simp [hie] at hm
        subst hm
        simp only [hi, hu, hzz, hie]
        simpa using hf
    · cases hl
  · cases hl
end Go.Sh
end
section
namespace Go.Sh
open Go.RowKit
set_option linter.unusedVariables false
set_option linter.unusedSimpArgs false

variable {P : Program}

theorem R.int_inv {c : Cx} {k : IntKind} {n : Int} {u : Value} (h : R c (.i k n) u) : u = .int k n := by cases h; rfl
theorem R.bool_inv {c : Cx} {t : Bool} {u : Value} (h : R c (.b t) u) : u = .bool t := by cases h; rfl
theorem R.str_inv {c : Cx} {t : ByteArray} {u : Value} (h : R c (.s t) u) : u = .string t := by cases h; rfl
theorem R.skp_inv {c : Cx} {u : Value} (h : R c .skp u) : u = undef := by cases h; rfl
theorem R.agg_inv {c : Cx} {cs : List V} {u : Value} (h : R c (.agg cs) u) : ∃ us : List Value, u = .agg us.toArray ∧ RL c cs us := by
  cases h with | agg _ us h1 h2 => exact ⟨us, rfl, h1, h2⟩
theorem R.tup_inv {c : Cx} {cs : List V} {u : Value} (h : R c (.tup cs) u) : ∃ us : List Value, u = .tuple us.toArray ∧ RL c cs us := by
  cases h with | tup _ us h1 h2 => exact ⟨us, rfl, h1, h2⟩
theorem RL.get {c : Cx} {vs : List V} {us : List Value} (h : RL c vs us) {j : Nat} {v : V} (hv : vs[j]? = some v) : ∃ u, us[j]? = some u ∧ R c v u := by
  have hj : j < us.length := by rw [← h.1]; exact (List.getElem?_eq_some_iff.1 hv).1
  exact ⟨us[j], by simp [hj], h.2 j v _ hv (by simp [hj])⟩

theorem run_part {c : Cx} {cs : List V} {us : List Value} (h : RL c cs us) {t : TypeId} {sz : Option Nat} {off : Nat} {v : V} (ht : ldSz P t = some sz) (hl : ldRow sz cs off = some v) :
    ∃ u, (part t us.toArray off).run P c.w = .ok u c.w ∧ R c v u := by
  unfold ldSz at ht
  cases ha : aggI P t with
  | none => simp [ha] at ht
  | some b =>
    cases hs : szOf P t with
    | none => cases b <;> simp [ha, hs] at ht
    | some n =>
      cases b with
      | false =>
        simp [ha, hs] at ht
        subst ht
        obtain ⟨u, hu, hr⟩ := h.get hl
        exact ⟨u, by simp [part, run_isAgg ha, hu], hr⟩
      | true =>
        simp [ha, hs] at ht
        subst ht
        simp only [ldRow] at hl
        split at hl
        · rename_i hle
          cases hl
          have hlen := h.1
          refine ⟨.agg ((us.drop off).take n).toArray, ?_, .agg _ _ ?_ ?_⟩
          · simp [part, run_isAgg ha, run_sizeOf hs]
          · simp [hlen]
          · intro j x y e1 e2
            rw [List.getElem?_take] at e1 e2
            split at e1
            · rw [if_pos (by assumption)] at e2
              rw [List.getElem?_drop] at e1 e2
              exact h.2 _ x y e1 e2
            · cases e1
        · cases hl

theorem ok_fld {o : Oper} {t : TypeId} {x : Operand} {f : Nat} {io : IOp} (hop : o.op = .field t x f) (hl : lowO P o.op = some io) : OpOK P o io := by
  refine ok_same (by simp [hop]) fun a c E H K hE hH hs => ?_
  rw [hop] at hl
  simp only [lowO] at hl
  split at hl
  · rename_i fs hu
    split at hl
    · rename_i fd y hf hy
      simp only [Option.map_eq_some_iff] at hl
      obtain ⟨s, hsz, rfl⟩ := hl
      have hx := evA hE hy
      simp only [stepI] at hs
      split at hs
      · rename_i cs he
        rw [he] at hx
        obtain ⟨us, hu', hRL⟩ := hx.agg_inv
        obtain ⟨v, hv, hK⟩ := hs
        obtain ⟨u, hrun, hR⟩ := run_part hRL hsz hv
        exact ⟨v, u, hK, hR, by simp [execOp, hop, hu', Instr.field, run_underlying hu, hf, asAgg, hrun]⟩
      · exact hs.elim
    · cases hl
  · cases hl

theorem ok_ext {o : Oper} {x : Operand} {m : Nat} {io : IOp} (hop : o.op = .extract x m) (hl : lowO P o.op = some io) : OpOK P o io := by
  refine ok_same (by simp [hop]) fun a c E H K hE hH hs => ?_
  rw [hop] at hl
  simp only [lowO, Option.map_eq_some_iff] at hl
  obtain ⟨y, hy, rfl⟩ := hl
  have hx := evA hE hy
  simp only [stepI] at hs
  split at hs
  · rename_i vs he
    rw [he] at hx
    obtain ⟨us, hu', hRL⟩ := hx.tup_inv
    obtain ⟨v, hv, hK⟩ := hs
    obtain ⟨u, hu, hR⟩ := hRL.get hv
    exact ⟨v, u, hK, hR, by simp [execOp, hop, hu', Instr.extract, hu]⟩
  · exact hs.elim

theorem ok_un {o : Oper} {op : UnOp} {t : TypeId} {x : Operand} {io : IOp} (hop : o.op = .unOp op t x) (hl : lowO P o.op = some io) : OpOK P o io := by
  refine ok_same (by simp [hop]) fun a c E H K hE hH hs => ?_
  rw [hop] at hl
  simp only [lowO, Option.map_eq_some_iff] at hl
  obtain ⟨y, hy, rfl⟩ := hl
  have hx := evA hE hy
  obtain ⟨v, hv, hK⟩ := hs
  simp only [unI] at hv
  split at hv
  · rename_i k m he
    rw [he] at hx
    cases hv
    exact ⟨_, .int k (k.wrap (0 - m)), hK, .i _ _, by simp [execOp, hop, hx.int_inv, Op.unary, Op.intArith]⟩
  · rename_i k m he
    rw [he] at hx
    simp only [bitI] at hv
    cases hv
    exact ⟨_, _, hK, .i _ _, by simp [execOp, hop, hx.int_inv, Op.unary, Op.intBits]⟩
  · rename_i t he
    rw [he] at hx
    cases hv
    exact ⟨_, .bool (!t), hK, .b _, by simp [execOp, hop, hx.bool_inv, Op.unary]⟩
  · cases hv

theorem ok_cvi {o : Oper} {s d : TypeId} {x : Operand} {io : IOp} (hop : o.op = .convert s d x) (hl : lowO P o.op = some io) : OpOK P o io := by
  refine ok_same (by simp [hop]) fun a c E H K hE hH hs => ?_
  rw [hop] at hl
  simp only [lowO] at hl
  split at hl
  · rename_i k1 k y h1 h2 hy
    cases hl
    have hx := evA hE hy
    simp only [stepI] at hs
    split at hs
    · rename_i k' m he
      rw [he] at hx
      exact ⟨_, .int k (k.wrap m), hs, .i _ _, by simp [execOp, hop, hx.int_inv, convert, run_underlying h1, run_underlying h2, Conv.intToInt]⟩
    · exact hs.elim
  · cases hl

theorem run_intI {op : BinOp} {k : IntKind} {x y : Int} {v : V} (h : intI op k x y = some v) (w : World) (t : TypeId) : ∃ u, (binOp op t (.int k x) (.int k y)).run P w = .ok u w ∧ ∀ c, R c v u := by
  cases op <;> simp only [intI, cmpI, bitI] at h <;> first
    | (cases h; exact ⟨_, by simp [binOp, Op.intArith, Op.intBits, Op.intCmp]; rfl, fun c => by constructor⟩)
    | (cases h; exact ⟨_, by simp only [binOp, ne_eq, not_true_eq_false, if_false, Op.intBits]; rfl, fun c => .i _ _⟩)
    | (split at h
       · cases h
       · rename_i hy; cases h; exact ⟨_, by simp [binOp, Op.intDiv, hy]; rfl, fun c => by constructor⟩)
    | cases h

theorem run_strI {op : BinOp} {x y : ByteArray} {v : V} (h : strI op x y = some v) (w : World) (t : TypeId) : ∃ u, (binOp op t (.string x) (.string y)).run P w = .ok u w ∧ ∀ c, R c v u := by
  cases op <;> simp only [strI] at h <;> first
    | (cases h; exact ⟨_, by simp [binOp, Op.stringOp]; rfl, fun c => by constructor⟩)
    | (cases h; exact ⟨_, by simp only [binOp, Op.stringOp]; rfl, fun c => .b _⟩)
    | (split at h
       · cases h
       · rename_i hy; cases h; exact ⟨.string (x ++ y), by simp only [binOp, Op.stringOp]; rw [if_neg hy]; rfl, fun c => .s _⟩)
    | cases h

theorem run_guard1 (op : BinOp) (t : TypeId) (x y : Operand) (u v : Value) (w : World) (h : ∀ cs, u ≠ .agg cs) (h' : u ≠ .nilIface) : (eqGuard op t x y u v).run P w = .ok () w := by
  unfold eqGuard
  cases op <;> simp <;> (split <;> simp_all)

theorem ok_bin {o : Oper} {op : BinOp} {t t' : TypeId} {x y : Operand} {x' y' : A} (hop : o.op = .binOp op t x y t') (hx' : lowA x = some x') (hy' : lowA y = some y') : OpOK P o (.bin op x' y') := by
  refine ok_same (by simp [hop]) fun a c E H K hE hH hs => ?_
  have hx := evA hE hx'
  have hy := evA hE hy'
  obtain ⟨v, hv, hK⟩ := hs
  simp only [binI] at hv
  split at hv
  · rename_i k a1 k' b1 e1 e2
    rw [e1] at hx
    rw [e2] at hy
    have hg := run_guard1 (P := P) op t x y (.int k a1) (.int k' b1) c.w (by simp) (by simp)
    split at hv
    · split at hv
      · cases hv
      · rename_i hb
        cases hv
        exact ⟨_, _, hK, .i _ _, by simp [execOp, hop, hx.int_inv, hy.int_inv, hg, binOp, Op.shift, hb]⟩
    · split at hv
      · cases hv
      · rename_i hb
        cases hv
        exact ⟨_, _, hK, .i _ _, by simp [execOp, hop, hx.int_inv, hy.int_inv, hg, binOp, Op.shift, hb]⟩
    · split at hv
      · rename_i hk
        subst hk
        obtain ⟨u, hrun, hR⟩ := run_intI (P := P) hv c.w t
        exact ⟨v, u, hK, hR c, by simp [execOp, hop, hx.int_inv, hy.int_inv, hg, hrun]⟩
      · cases hv
  · rename_i a1 b1 e1 e2
    rw [e1] at hx
    rw [e2] at hy
    have hg := run_guard1 (P := P) op t x y (.string a1) (.string b1) c.w (by simp) (by simp)
    obtain ⟨u, hrun, hR⟩ := run_strI (P := P) hv c.w t
    exact ⟨v, u, hK, hR c, by simp [execOp, hop, hx.str_inv, hy.str_inv, hg, hrun]⟩
  · cases hv
end Go.Sh
end
section
namespace Go.Sh
open Go.RowKit
set_option linter.unusedVariables false
set_option linter.unusedSimpArgs false

variable {P : Program}

theorem slN_inv {c : Cx} {v : V} {u : Value} {b : Bool} (h : R c v u) (hn : slN v = some b) : (b = true → u = .slice none 0 0) ∧ (b = false → ∃ a l q, u = .slice (some a) l q) := by
  cases v with
  | nsl => cases h; simp [slN] at hn; subst hn; simp
  | fsl rows =>
    cases rows with
    | nil => simp [slN] at hn
    | cons r rs =>
      simp [slN] at hn; subst hn
      cases h; simp
  | rsl => simp [slN] at hn; subst hn; cases h; simp
  | _ => simp [slN] at hn
theorem ptN_inv {c : Cx} {v : V} {u : Value} {b : Bool} (h : R c v u) (hn : ptN v = some b) : (b = true → u = .pointer none) ∧ (b = false → ∃ a, u = .pointer (some a)) := by
  cases h <;> simp [ptN] at hn <;> subst hn <;> simp
theorem mpN_inv {c : Cx} {v : V} {u : Value} {b : Bool} (h : R c v u) (hn : mpN v = some b) : (b = true → u = .map none) ∧ (b = false → ∃ a, u = .map (some a)) := by
  cases h <;> simp [mpN] at hn <;> subst hn <;> simp

section
variable (d : Nat) {t : TypeId} {w : World}
theorem eqIn_sl1 {e : TypeId} (hu : P.underlying t = some (.slice e)) (b : Option Addr) (l q : Nat) : (Op.equalIn (d + 1) t (.slice none 0 0) (.slice b l q)).run P w = .ok b.isNone w := by
  simp only [Op.equalIn, Sem.run_bind, run_underlying hu, Result.andThen_ok, Sem.run_pure]
theorem eqIn_sl2 {e : TypeId} (hu : P.underlying t = some (.slice e)) (a : Addr) (l q : Nat) : (Op.equalIn (d + 1) t (.slice (some a) l q) (.slice none 0 0)).run P w = .ok false w := by
  simp only [Op.equalIn, Sem.run_bind, run_underlying hu, Result.andThen_ok, Sem.run_pure]
theorem eqIn_pt1 {e : TypeId} (hu : P.underlying t = some (.pointer e)) (b : Option Addr) : (Op.equalIn (d + 1) t (.pointer none) (.pointer b)).run P w = .ok b.isNone w := by
  simp only [Op.equalIn, Sem.run_bind, run_underlying hu, Result.andThen_ok, Sem.run_pure]
theorem eqIn_pt2 {e : TypeId} (hu : P.underlying t = some (.pointer e)) (a : Addr) : (Op.equalIn (d + 1) t (.pointer (some a)) (.pointer none)).run P w = .ok false w := by
  simp only [Op.equalIn, Sem.run_bind, run_underlying hu, Result.andThen_ok, Sem.run_pure]
theorem eqIn_mp1 {k e : TypeId} (hu : P.underlying t = some (.map k e)) (b : Option Nat) : (Op.equalIn (d + 1) t (.map none) (.map b)).run P w = .ok b.isNone w := by
  simp only [Op.equalIn, Sem.run_bind, run_underlying hu, Result.andThen_ok, Sem.run_pure]
theorem eqIn_mp2 {k e : TypeId} (hu : P.underlying t = some (.map k e)) (a : Nat) : (Op.equalIn (d + 1) t (.map (some a)) (.map none)).run P w = .ok false w := by
  simp only [Op.equalIn, Sem.run_bind, run_underlying hu, Result.andThen_ok, Sem.run_pure]
end

/-- A comparison by the general equality. -/
theorem run_cmp {op : BinOp} (ho : op = .eql ∨ op = .neq) {t : TypeId} {u v : Value} {w : World} {r : Bool} (hn : (∃ b, u = .bool b) ∨ (∃ a l q, u = .slice a l q) ∨ (∃ a, u = .pointer a) ∨ (∃ a, u = .map a))
    (h : (Op.equalIn 10000 t u v).run P w = .ok r w) : (binOp op t u v).run P w = .ok (.bool (if op = .neq then !r else r)) w := by
  have h' : (Op.equal t u v).run P w = .ok r w := h
  rcases hn with ⟨b, rfl⟩ | ⟨a, l, q, rfl⟩ | ⟨a, rfl⟩ | ⟨a, rfl⟩ <;> rcases ho with rfl | rfl <;> simp only [binOp, Sem.run_bind, h', Result.andThen_ok, Sem.run_pure, if_true] <;> simp

theorem run_eqB {c : Cx} {tg : Nat} {x y : V} {u v : Value} {r : Bool} {t : TypeId} (hx : R c x u) (hy : R c y v) (h : eqB tg x y = some r)
    (ht : (tg = 0 ∧ P.underlying t = some .bool) ∨ (tg = 1 ∧ ∃ e, P.underlying t = some (.slice e)) ∨ (tg = 2 ∧ ∃ e, P.underlying t = some (.pointer e)) ∨ (tg = 3 ∧ ∃ k e, P.underlying t = some (.map k e))) (w : World)
    {op : BinOp} (ho : op = .eql ∨ op = .neq) :
    (∀ cs, u ≠ .agg cs) ∧ u ≠ .nilIface ∧ (binOp op t u v).run P w = .ok (.bool (if op = .neq then !r else r)) w := by
  rcases ht with ⟨rfl, hu⟩ | ⟨rfl, e, hu⟩ | ⟨rfl, e, hu⟩ | ⟨rfl, k, e, hu⟩
  · simp only [eqB] at h
    split at h
    · cases h
      rw [hx.bool_inv, hy.bool_inv]
      exact ⟨by simp, by simp, run_cmp ho (.inl ⟨_, rfl⟩) (run_equalIn_bool w 9999 t _ _ hu)⟩
    · cases h
  · simp only [eqB, nilEq] at h
    split at h
    · rename_i b h1 h2
      cases h
      obtain rfl := (slN_inv hx h1).1 rfl
      refine ⟨by simp, by simp, run_cmp ho (.inr (.inl ⟨_, _, _, rfl⟩)) ?_⟩
      cases r with
      | true => obtain rfl := (slN_inv hy h2).1 rfl; exact eqIn_sl1 9999 hu _ _ _
      | false => obtain ⟨a, l, q, rfl⟩ := (slN_inv hy h2).2 rfl; exact eqIn_sl1 9999 hu _ _ _
    · rename_i h1 h2
      cases h
      obtain ⟨a, l, q, rfl⟩ := (slN_inv hx h1).2 rfl
      obtain rfl := (slN_inv hy h2).1 rfl
      exact ⟨by simp, by simp, run_cmp ho (.inr (.inl ⟨_, _, _, rfl⟩)) (eqIn_sl2 9999 hu _ _ _)⟩
    · cases h
  · simp only [eqB, nilEq] at h
    split at h
    · rename_i b h1 h2
      cases h
      obtain rfl := (ptN_inv hx h1).1 rfl
      refine ⟨by simp, by simp, run_cmp ho (.inr (.inr (.inl ⟨_, rfl⟩))) ?_⟩
      cases r with
      | true => obtain rfl := (ptN_inv hy h2).1 rfl; exact eqIn_pt1 9999 hu _
      | false => obtain ⟨a, rfl⟩ := (ptN_inv hy h2).2 rfl; exact eqIn_pt1 9999 hu _
    · rename_i h1 h2
      cases h
      obtain ⟨a, rfl⟩ := (ptN_inv hx h1).2 rfl
      obtain rfl := (ptN_inv hy h2).1 rfl
      exact ⟨by simp, by simp, run_cmp ho (.inr (.inr (.inl ⟨_, rfl⟩))) (eqIn_pt2 9999 hu _)⟩
    · cases h
  · simp only [eqB, nilEq] at h
    split at h
    · rename_i b h1 h2
      cases h
      obtain rfl := (mpN_inv hx h1).1 rfl
      refine ⟨by simp, by simp, run_cmp ho (.inr (.inr (.inr ⟨_, rfl⟩))) ?_⟩
      cases r with
      | true => obtain rfl := (mpN_inv hy h2).1 rfl; exact eqIn_mp1 9999 hu _
      | false => obtain ⟨a, rfl⟩ := (mpN_inv hy h2).2 rfl; exact eqIn_mp1 9999 hu _
    · rename_i h1 h2
      cases h
      obtain ⟨a, rfl⟩ := (mpN_inv hx h1).2 rfl
      obtain rfl := (mpN_inv hy h2).1 rfl
      exact ⟨by simp, by simp, run_cmp ho (.inr (.inr (.inr ⟨_, rfl⟩))) (eqIn_mp2 9999 hu _)⟩
    · cases h

theorem ok_eqb {o : Oper} {op : BinOp} {t t' : TypeId} {x y : Operand} {x' y' : A} {tg : Nat} (hop : o.op = .binOp op t x y t') (ho : op = .eql ∨ op = .neq) (hx' : lowA x = some x') (hy' : lowA y = some y')
    (ht : (tg = 0 ∧ P.underlying t = some .bool) ∨ (tg = 1 ∧ ∃ e, P.underlying t = some (.slice e)) ∨ (tg = 2 ∧ ∃ e, P.underlying t = some (.pointer e)) ∨ (tg = 3 ∧ ∃ k e, P.underlying t = some (.map k e))) :
    OpOK P o (.eqb tg (op = .neq) x' y') := by
  refine ok_same (by simp [hop]) fun a c E H K hE hH hs => ?_
  have hx := evA hE hx'
  have hy := evA hE hy'
  simp only [stepI, eqbI] at hs
  split at hs
  · rename_i r hr
    obtain ⟨h2, h3, h4⟩ := run_eqB (P := P) hx hy hr ht c.w ho
    refine ⟨_, _, hs, .b _, ?_⟩
    simp only [execOp, hop, Sem.run_bind, run_guard1 op t x y _ _ _ h2 h3, Result.andThen_ok, h4, Sem.run_pure, decide_eq_true_eq]
  · obtain ⟨_, htg, hu, hK⟩ := hs
    subst htg
    obtain ⟨e, hsl⟩ : ∃ e, P.underlying t = some (.slice e) := by
      rcases ht with ⟨h, _⟩ | ⟨_, h⟩ | ⟨h, _⟩ | ⟨h, _⟩ <;> first | cases h; done | exact h
    have hxy : ev E x' = .fsl [] ∧ ev E y' = .nsl := by
      revert hu
      cases ev E x' with
      | fsl l => cases l <;> cases ev E y' <;> simp [unkN]
      | _ => simp [unkN]
    rw [hxy.1] at hx
    rw [hxy.2] at hy
    have hyu : a.eval y = .slice none 0 0 := by
      generalize a.eval y = u at hy
      cases hy; rfl
    obtain ⟨b, q, hxu, hbq⟩ : ∃ b q, a.eval x = .slice b 0 q ∧ (b = none → q = 0) := by
      generalize a.eval x = u at hx
      cases hx with
      | fsl0 b q h => exact ⟨_, _, rfl, h⟩
      | fsl _ b o k q _ _ _ _ _ _ _ _ _ _ => exact ⟨_, _, rfl, fun h => by cases h⟩
    have hcmp : (binOp op t (a.eval x) (a.eval y)).run P c.w = .ok (.bool (if op = .neq then !b.isNone else b.isNone)) c.w := by
      refine run_cmp ho (.inr (.inl ⟨b, 0, q, hxu⟩)) ?_
      rw [hxu, hyu]
      cases b with
      | none => rw [hbq rfl]; exact eqIn_sl1 9999 hsl none 0 0
      | some b => exact eqIn_sl2 9999 hsl b 0 q
    refine ⟨_, _, hK (if op = .neq then !b.isNone else b.isNone), .b _, ?_⟩
    simp only [execOp, hop, Sem.run_bind, run_guard1 op t x y (a.eval x) (a.eval y) c.w (by rw [hxu]; simp) (by rw [hxu]; simp), Result.andThen_ok, hcmp, Sem.run_pure]

/-! ### structs of plain data -/
theorem eq1_run {c : Cx} (d tg : Nat) {t : TypeId} {x y : V} {u v : Value} {r : Bool} (hx : R c x u) (hy : R c y v) (h : eq1 tg x y = some r)
    (ht : (tg = 0 ∧ ∃ k, P.underlying t = some (.int k)) ∨ (tg = 1 ∧ P.underlying t = some .bool) ∨ (tg = 2 ∧ P.underlying t = some .string)) (w : World) :
    (Op.equalIn (d + 1) t u v).run P w = .ok r w := by
  rcases ht with ⟨rfl, k, hk⟩ | ⟨rfl, hk⟩ | ⟨rfl, hk⟩ <;> simp only [eq1] at h <;> split at h
  · split at h
    · rename_i he
      subst he
      cases h
      rw [hx.int_inv, hy.int_inv]
      exact run_equalIn_int w d t _ _ _ _ hk
    · cases h
  · cases h
  · cases h
    rw [hx.bool_inv, hy.bool_inv]
    exact run_equalIn_bool w d t _ _ hk
  · cases h
  · cases h
    rw [hx.str_inv, hy.str_inv]
    exact run_equalIn_string w d t _ _ hk
  · cases h

theorem eqS_append {xs ys : List V} : ∀ (a b : List (Nat × Nat)) {r : Bool}, eqS xs ys (a ++ b) = some r → ∃ p q, eqS xs ys a = some p ∧ eqS xs ys b = some q ∧ r = (p && q)
  | [], b, r, h => ⟨true, r, rfl, h, by simp⟩
  | (o, tg) :: a, b, r, h => by
    simp only [List.cons_append, eqS] at h ⊢
    split at h
    · rename_i x y h1 h2
      split at h
      · rename_i p q h3 h4
        cases h
        obtain ⟨p', q', g1, g2, rfl⟩ := eqS_append a b h4
        exact ⟨p && p', q', by simp [h1, h2, h3, g1], g2, by simp [Bool.and_assoc]⟩
      · cases h
    · cases h

theorem eqS_part {xs ys : List V} {off n : Nat} : ∀ (l : List (Nat × Nat)) {r : Bool}, (∀ x ∈ l, x.1 < n) → eqS xs ys (addOffs off l) = some r → eqS ((xs.drop off).take n) ((ys.drop off).take n) l = some r
  | [], r, _, h => h
  | (o, tg) :: l, r, hn, h => by
    have ho : o < n := hn (o, tg) (by simp)
    simp only [addOffs, List.map_cons, eqS] at h ⊢
    rw [List.getElem?_take, List.getElem?_take, if_pos ho, if_pos ho, List.getElem?_drop, List.getElem?_drop]
    split at h
    · rename_i x y h1 h2
      split at h
      · rename_i p q h3 h4
        cases h
        have := eqS_part (off := off) l (fun x hx => hn x (by simp [hx])) h4
        simp [h1, h2, h3, this]
      · cases h
    · cases h

theorem RL.part {c : Cx} {xs : List V} {us : List Value} (h : RL c xs us) (off n : Nat) : RL c ((xs.drop off).take n) ((us.drop off).take n) := by
  refine ⟨by simp [h.1], fun j x y e1 e2 => ?_⟩
  rw [List.getElem?_take] at e1 e2
  split at e1
  · rw [if_pos (by assumption)] at e2
    rw [List.getElem?_drop] at e1 e2
    exact h.2 _ x y e1 e2
  · cases e1

theorem flat_cases {d : Nat} {t : TypeId} {l : List (Nat × Nat)} (h : flatOffs P d t = some l) :
    (aggI P t = some false ∧ ∃ tg, l = [(0, tg)]) ∨ (aggI P t = some true ∧ ∃ m, szOf P t = some m ∧ ∀ x ∈ l, x.1 < m) := by
  cases d with
  | zero => simp [flatOffs] at h
  | succ d =>
    simp only [flatOffs] at h
    split at h
    · rename_i k hu; cases h; exact .inl ⟨by simp [aggI, hu], 0, rfl⟩
    · rename_i hu; cases h; exact .inl ⟨by simp [aggI, hu], 1, rfl⟩
    · rename_i hu; cases h; exact .inl ⟨by simp [aggI, hu], 2, rfl⟩
    · rename_i fs hu
      split at h
      · cases h
      · split at h
        · rename_i m l3 hm _
          split at h
          · rename_i hal
            cases h
            exact .inr ⟨by simp [aggI, hu], m, hm, by simpa using hal⟩
          · cases h
        · cases h
    · cases h

theorem equalIn_flat {c : Cx} (w : World) : ∀ (d D : Nat) (t : TypeId) (l : List (Nat × Nat)), d ≤ D → flatOffs P d t = some l →
    (∀ tg x y u v r, R c x u → R c y v → l = [(0, tg)] → aggI P t = some false → eq1 tg x y = some r → (Op.equalIn D t u v).run P w = .ok r w) ∧
    (∀ xs ys us vs r, RL c xs us → RL c ys vs → aggI P t = some true → eqS xs ys l = some r → (Op.equalIn D t (.agg us.toArray) (.agg vs.toArray)).run P w = .ok r w)
  | 0, D, t, l, _, h => by simp [flatOffs] at h
  | d + 1, 0, t, l, hd, h => by omega
  | d + 1, D + 1, t, l, hd, h => by
    simp only [flatOffs] at h
    split at h
    · rename_i k hu
      cases h
      refine ⟨fun tg x y u v r hx hy hl _ he => ?_, fun xs ys us vs r _ _ ha => by simp [aggI, hu] at ha⟩
      simp at hl; subst hl
      exact eq1_run D 0 hx hy he (.inl ⟨rfl, k, hu⟩) w
    · rename_i hu
      cases h
      refine ⟨fun tg x y u v r hx hy hl _ he => ?_, fun xs ys us vs r _ _ ha => by simp [aggI, hu] at ha⟩
      simp at hl; subst hl
      exact eq1_run D 1 hx hy he (.inr (.inl ⟨rfl, hu⟩)) w
    · rename_i hu
      cases h
      refine ⟨fun tg x y u v r hx hy hl _ he => ?_, fun xs ys us vs r _ _ ha => by simp [aggI, hu] at ha⟩
      simp at hl; subst hl
      exact eq1_run D 2 hx hy he (.inr (.inr ⟨rfl, hu⟩)) w
    · rename_i fs hu
      split at h
      · cases h
      · rename_i hst
        split at h
        · rename_i n l' hn hl'
          split at h
          · rename_i hall
            cases h
            refine ⟨fun tg x y u v r _ _ _ ha => by simp [aggI, hu] at ha, fun xs ys us vs r hx hy _ he => ?_⟩
            have hf : P.fieldsOf t = fs := by simp [Program.fieldsOf, hu]
            rw [run_equalIn_struct w D t _ _ (by rw [hf]; exact hu) (by simpa using hst), hf]
            have key : ∀ (fl : List Field) (l : List (Nat × Nat)) (r : Bool), flatFs (flatOffs P d) fl = some l → eqS xs ys l = some r → (Op.eqFields D us.toArray vs.toArray fl).run P w = .ok r w := by
              intro fl
              induction fl with
              | nil =>
                intro l r hl he
                cases hl
                cases he
                simp [Op.eqFields]
              | cons f fl ih =>
                intro l r hl he
                simp only [flatFs] at hl
                split at hl
                · rename_i l1 l2 g1 g2
                  split at hl
                  · cases hl
                  · rename_i hname
                    cases hl
                    obtain ⟨p, q, e1, e2, rfl⟩ := eqS_append _ _ he
                    have IH := equalIn_flat (c := c) w d D f.type l1 (by omega) g1
                    have hrest := ih l2 q g2 e2
                    have hone : ∃ a b, (part f.type us.toArray f.offset).run P w = .ok a w ∧ (part f.type vs.toArray f.offset).run P w = .ok b w ∧ (Op.equalIn D f.type a b).run P w = .ok p w := by
                      rcases flat_cases g1 with ⟨ha, tg, rfl⟩ | ⟨ha, m, hm, hlt⟩
                      · simp only [addOffs, List.map_cons, List.map_nil, eqS, Nat.add_zero] at e1
                        split at e1
                        · rename_i x y h1 h2
                          split at e1
                          · rename_i p' q' h3 h4
                            cases h4
                            cases e1
                            obtain ⟨u, k1, k2⟩ := hx.get h1
                            obtain ⟨v, k3, k4⟩ := hy.get h2
                            exact ⟨u, v, by simp [part, run_isAgg ha, k1], by simp [part, run_isAgg ha, k3], by simpa using IH.1 tg x y u v p' k2 k4 rfl ha h3⟩
                          · cases e1
                        · cases e1
                      · refine ⟨.agg ((us.drop f.offset).take m).toArray, .agg ((vs.drop f.offset).take m).toArray, ?_, ?_, IH.2 _ _ _ _ p (hx.part _ _) (hy.part _ _) ha (eqS_part l1 hlt e1)⟩
                        · simp [part, run_isAgg ha, run_sizeOf hm]
                        · simp [part, run_isAgg ha, run_sizeOf hm]
                    obtain ⟨a, b, k1, k2, k3⟩ := hone
                    simp only [Op.eqFields, ne_eq, hname, not_false_eq_true, if_true, Sem.run_bind, k1, k2, k3, Result.andThen_ok]
                    cases p with
                    | false => simp
                    | true => simp [hrest]
                · cases hl
            exact key fs.toList l r hl' he
          · cases h
        · cases h
    · cases h

theorem ok_eqs {o : Oper} {op : BinOp} {t t' : TypeId} {x y : Operand} {x' y' : A} {fs : Array Field} {l : List (Nat × Nat)} (hop : o.op = .binOp op t x y t') (ho : op = .eql ∨ op = .neq) (hx' : lowA x = some x') (hy' : lowA y = some y')
    (hu : P.underlying t = some (.struct fs)) (hg : P.eqGuardType P.depth t = false) (hl : flatOffs P 8 t = some l) :
    OpOK P o (.eqs (op = .neq) l x' y') := by
  refine ok_same (by simp [hop]) fun a c E H K hE hH hs => ?_
  have hx := evA hE hx'
  have hy := evA hE hy'
  simp only [stepI] at hs
  split at hs
  · rename_i xs ys e1 e2
    rw [e1] at hx
    rw [e2] at hy
    obtain ⟨us, hu1, hR1⟩ := hx.agg_inv
    obtain ⟨vs, hv1, hR2⟩ := hy.agg_inv
    obtain ⟨r, hr, hK⟩ := hs
    have hrun := (equalIn_flat (P := P) (c := c) c.w 8 10000 t l (by omega) hl).2 xs ys us vs r hR1 hR2 (by simp [aggI, hu]) hr
    refine ⟨_, .bool (if op = .neq then !r else r), hK, by simpa using R.b _, ?_⟩
    simp only [execOp, hop, Sem.run_bind, hu1, hv1, run_eqGuard_agg c.w op t x y us.toArray vs.toArray hg, Result.andThen_ok]
    rcases ho with rfl | rfl
    · simp [run_eql_struct, hrun]
    · simp [run_neq_struct, hrun]
  · exact hs.elim
end Go.Sh
end
section
namespace Go.Sh
open Go.RowKit
set_option linter.unusedVariables false
set_option linter.unusedSimpArgs false

variable {P : Program}

theorem rowAt_inv {rows : List (List V)} {n : Int} {row : List V} (h : rowAt rows n = some row) : 0 ≤ n ∧ rows[n.toNat]? = some row ∧ n < rows.length := by
  unfold rowAt at h
  split at h
  · rename_i h0
    have := (List.getElem?_eq_some_iff.1 h).1
    exact ⟨h0, h, by omega⟩
  · cases h

theorem run_ixSlice {t e : TypeId} {k : Nat} (hu : P.underlying t = some (.slice e)) (hs : szOf P e = some k) {ik : IntKind} {n : Int} {ad : Addr} {len q : Nat} (h0 : 0 ≤ n) (h1 : n < len) (w : World) :
    (Instr.indexAt t (.slice (some ad) len q) (.int ik n)).run P w = .ok (.pointer (some (ad.add (n.toNat * k)))) w := by
  simp [Instr.indexAt, asIntOf, run_underlying hu, run_sizeOf hs, h0, h1]

theorem run_ixArr {t e : TypeId} {k m : Nat} (hu : P.underlying t = some (.array m e)) (hs : szOf P e = some k) {ik : IntKind} {n : Int} {ad : Addr} (h0 : 0 ≤ n) (h1 : n < m) (w : World) :
    (Instr.indexAt t (.pointer (some ad)) (.int ik n)).run P w = .ok (.pointer (some (ad.add (n.toNat * k)))) w := by
  simp [Instr.indexAt, asIntOf, run_underlying hu, run_sizeOf hs, h0, h1, Instr.sureAddr]

theorem ok_ixs {o : Oper} {t : TypeId} {x i : Operand} {io : IOp} (hop : o.op = .indexAddr t x i) (hl : lowO P o.op = some io) : OpOK P o io := by
  refine ok_same (by simp [hop]) fun a c E H K hE hH hs => ?_
  rw [hop] at hl
  simp only [lowO] at hl
  split at hl
  · rename_i e hu
    split at hl
    · rename_i k x' i' hk hx' hi'
      cases hl
      have hx := evA hE hx'
      have hi := evA hE hi'
      simp only [stepI] at hs
      split at hs
      · rename_i rows ik n e1 e2
        rw [e1] at hx
        rw [e2] at hi
        obtain ⟨row, hr, hrl, hK⟩ := hs
        obtain ⟨h0, hget, hlt⟩ := rowAt_inv hr
        generalize hxu : a.eval x = u at hx
        cases hx with
        | fsl0 => simp at hlt; omega
        | fsl _ ad o' k' q cells el fz g1 g2 g3 g4 g5 gp g6 =>
          have hk' : k' = k := by rw [← g3 row (List.mem_of_getElem? hget), hrl]
          subst hk'
          refine ⟨_, _, hK, R.fpt_of (a := ad) (o := o' + n.toNat * k') (off := 0) ⟨cells, el, fz, g1, ?_, ?_⟩ g2 (gp row (List.mem_of_getElem? hget)), ?_⟩
          · have hn := (List.getElem?_eq_some_iff.1 hget).1
            have : (n.toNat + 1) * k' ≤ rows.length * k' := Nat.mul_le_mul_right _ hn
            rw [Nat.add_mul] at this
            omega
          · intro j v u hv hu'
            exact g6 n.toNat row j v u hget hv hu'
          · simp [execOp, hop, hxu, hi.int_inv, run_ixSlice hu hk h0 hlt, Addr.add_mk]
      · rename_i id k' off len cap ex ik n e1 e2
        rw [e1] at hx
        rw [e2] at hi
        obtain ⟨rfl, h0, hlt, hK⟩ := hs
        generalize hxu : a.eval x = u at hx
        cases hx with
        | rsl _ _ _ _ _ _ ad q hid hsp hlq hcq hex hp =>
          refine ⟨_, .pointer (some (ad.add (n.toNat * k'))), hK, ?_, ?_⟩
          · refine .rpt _ _ _ _ _ hid ?_ fun b sz hρ => ?_
            · unfold Addr.add; split <;> simp [hsp]
            · obtain ⟨h1, _⟩ := hp b sz hρ
              rw [h1 (by omega), Addr.add_mk, Nat.add_mul]
              rfl
          · simp [execOp, hop, hxu, hi.int_inv, run_ixSlice hu hk h0 hlt]
      · exact hs.elim
    · cases hl
  · rename_i m e hu
    split at hl
    · rename_i k x' i' hk hx' hi'
      cases hl
      have hx := evA hE hx'
      have hi := evA hE hi'
      simp only [stepI] at hs
      split at hs
      · rename_i id k' r off ik n e1 e2
        rw [e1] at hx
        rw [e2] at hi
        obtain ⟨h0, hlt, hK⟩ := hs
        generalize hxu : a.eval x = u at hx
        cases hx with
        | rpt _ _ _ _ ad hid hsp hp =>
          refine ⟨_, .pointer (some (ad.add (n.toNat * k))), hK, ?_, by simp [execOp, hop, hxu, hi.int_inv, run_ixArr hu hk h0 hlt]⟩
          refine .rpt _ _ _ _ _ hid (by unfold Addr.add; split <;> simp [hsp]) fun b sz hρ => ?_
          rw [hp b sz hρ, Addr.add_mk, Nat.add_assoc]
      · rename_i row off ik n e1 e2
        rw [e1] at hx
        rw [e2] at hi
        obtain ⟨h0, hlt, hK⟩ := hs
        obtain ⟨ad, o', hxu, hse, hX, hpu⟩ := hx.fpt_seen
        refine ⟨_, _, hK, R.fpt_of hse hX hpu, by simp [execOp, hop, hxu, hi.int_inv, run_ixArr hu hk h0 hlt, Addr.add_mk, Nat.add_assoc]⟩
      · exact hs.elim
    · cases hl
  · cases hl

theorem ok_ix {o : Oper} {t : TypeId} {x i : Operand} {io : IOp} (hop : o.op = .index t x i) (hl : lowO P o.op = some io) : OpOK P o io := by
  refine ok_same (by simp [hop]) fun a c E H K hE hH hs => ?_
  rw [hop] at hl
  simp only [lowO] at hl
  split at hl
  · rename_i m e hu
    split at hl
    · rename_i k s x' i' hk hsz hx' hi'
      cases hl
      have hx := evA hE hx'
      have hi := evA hE hi'
      simp only [stepI] at hs
      split at hs
      · rename_i cs ik n e1 e2
        rw [e1] at hx
        rw [e2] at hi
        obtain ⟨us, hu', hRL⟩ := hx.agg_inv
        obtain ⟨h0, hlt, v, hv, hK⟩ := hs
        obtain ⟨u, hrun, hR⟩ := run_part hRL hsz hv
        refine ⟨v, u, hK, hR, ?_⟩
        simp [execOp, hop, hu', hi.int_inv, Instr.index, asIntOf, run_underlying hu, h0, hlt, run_sizeOf hk, hrun]
      · exact hs.elim
    · cases hl
  · rename_i hu
    split at hl
    · rename_i x' i' hx' hi'
      cases hl
      have hx := evA hE hx'
      have hi := evA hE hi'
      simp only [stepI] at hs
      split at hs
      · rename_i s ik n e1 e2
        rw [e1] at hx
        rw [e2] at hi
        obtain ⟨b, hb, hK⟩ := hs
        refine ⟨_, .int .u8 b.toNat, hK, .i _ _, ?_⟩
        simp [execOp, hop, hx.str_inv, hi.int_inv, Instr.index, asIntOf, run_underlying hu, hb]
      · exact hs.elim
    · cases hl
  · cases hl

theorem run_builtin1 {o : Oper} {ca : Call} {x : Operand} {t : TypeId} {b : Builtin} {a : Act} {w : World} (hop : o.op = .call ca) (hc : ca.callee = .builtin b) (ha : ca.args = #[x]) (ht : ca.argTypes = #[t]) :
    ∃ cs, execOp a.eval o = builtin b #[t] o.type cs #[a.eval x] := by
  exact ⟨_, by simp [execOp, hop, resolve, hc, ha, ht, invoke]; rfl⟩

theorem ok_len {o : Oper} {ca : Call} {x : Operand} {t : TypeId} {x' : A} (hop : o.op = .call ca) (hc : ca.callee = .builtin .len) (ha : ca.args = #[x]) (ht : ca.argTypes = #[t]) (hx' : lowA x = some x')
    {str : Bool} (hu : (str = false ∧ ∃ e, P.underlying t = some (.slice e)) ∨ (str = true ∧ P.underlying t = some .string)) : OpOK P o (.len str x') := by
  refine ok_same (by simp [hop]) fun a c E H K hE hH hs => ?_
  have hx := evA hE hx'
  obtain ⟨cs, hex⟩ := run_builtin1 (a := a) (w := c.w) hop hc ha ht
  rw [hex]
  rcases hu with ⟨rfl, e, hu⟩ | ⟨rfl, hu⟩ <;> simp only [stepI] at hs <;> split at hs <;> first | exact hs.elim | skip
  all_goals
    rename_i e1
    rw [e1] at hx
    generalize a.eval x = u at hx
    cases hx <;> exact ⟨_, _, hs, .i _ _, by simp [builtin, Builtin.len_, run_underlying hu, goInt]⟩
end Go.Sh
end
section
namespace Go.Sh
open Go.RowKit
set_option linter.unusedVariables false
set_option linter.unusedSimpArgs false

variable {P : Program}

/-- A bound: absent, or a number. -/
theorem bnd_R {c : Cx} {E : Env} {a : Act} (hE : RE c E a.tmps) {x : Option Operand} {y : Option A} (hx : lowOA x = some y) {d : Nat} {n : Int} (h : bnd E y d = some n) :
    (x = none ∧ y = none ∧ n = d) ∨ ∃ z z' k, x = some z ∧ y = some z' ∧ a.eval z = .int k n := by
  cases x with
  | none =>
    cases hx
    simp [bnd] at h
    exact .inl ⟨rfl, rfl, h.symm⟩
  | some z =>
    simp only [lowOA, Option.map_eq_some_iff] at hx
    obtain ⟨z', hz, rfl⟩ := hx
    simp only [bnd, idx] at h
    have hr := evA hE hz
    split at h
    · rename_i k m he
      cases h
      rw [he] at hr
      exact .inr ⟨z, z', k, rfl, rfl, hr.int_inv⟩
    · cases h

theorem run_sb {k : IntKind} {i : Int} {y : Nat} {code : BoundsCode} (h0 : 0 ≤ i) (h1 : i ≤ y) (w : World) : (Instr.sliceBound (.int k i) y code).run P w = .ok i.toNat w := by
  simp [Instr.sliceBound, asIntOf, h0, h1]

/-- The bounds of a slicing. -/
theorem run_bounds {c : Cx} {E : Env} {a : Act} (hE : RE c E a.tmps) {lo hi mx : Option Operand} {lo' hi' mx' : Option A} (hlo : lowOA lo = some lo') (hhi : lowOA hi = some hi') (hmx : lowOA mx = some mx')
    (hok : ¬ (mx'.isSome = true ∧ hi'.isNone = true)) {len cap : Nat} {l h m : Int} (el : bnd E lo' 0 = some l) (eh : bnd E hi' len = some h) (em : bnd E mx' cap = some m) {is : Bool} (h0 : 0 ≤ l) (h1 : l ≤ h) (h2 : h ≤ m) (h3 : m ≤ cap) :
    ∀ w, (Instr.sliceBounds is len cap (lo.map a.eval) (hi.map a.eval) (mx.map a.eval)).run P w = .ok (l.toNat, h.toNat, m.toNat) w := by
  intro w
  unfold Instr.sliceBounds
  have em' : (m.toNat : Int) = m := by omega
  have eh' : (h.toNat : Int) = h := by omega
  rcases bnd_R hE hmx em with ⟨rfl, rfl, rfl⟩ | ⟨zm, zm', km, rfl, rfl, hm⟩
  · rcases bnd_R hE hhi eh with ⟨rfl, rfl, rfl⟩ | ⟨zh, zh', kh, rfl, rfl, hh⟩ <;> rcases bnd_R hE hlo el with ⟨rfl, rfl, rfl⟩ | ⟨zl, zl', kl, rfl, rfl, hl⟩
    · simp
    · simp [hl, run_sb h0 h1]
    · simp [hh, run_sb (show 0 ≤ h by omega) h2]
    · simp [hh, hl, run_sb (show 0 ≤ h by omega) h2, run_sb (y := h.toNat) h0 (by omega)]
  · rcases bnd_R hE hhi eh with ⟨rfl, rfl, rfl⟩ | ⟨zh, zh', kh, rfl, rfl, hh⟩
    · simp at hok
    · rcases bnd_R hE hlo el with ⟨rfl, rfl, rfl⟩ | ⟨zl, zl', kl, rfl, rfl, hl⟩
      · simp [hm, hh, run_sb (show 0 ≤ m by omega) h3, run_sb (y := m.toNat) (show 0 ≤ h by omega) (by omega)]
      · simp [hm, hh, hl, run_sb (show 0 ≤ m by omega) h3, run_sb (y := m.toNat) (show 0 ≤ h by omega) (by omega), run_sb (y := h.toNat) h0 (by omega)]

theorem run_slc {t e : TypeId} {k : Nat} (hu : P.underlying t = some (.slice e)) (hs : szOf P e = some k) {ad : Option Addr} {len cap l h m : Nat} {lo hi mx : Option Value} {w : World}
    (hb : (Instr.sliceBounds true len cap lo hi mx).run P w = .ok (l, h, m) w) :
    (Instr.sliceAt t (.slice ad len cap) lo hi mx).run P w = .ok (.slice (if m = l then ad else ad.map (·.add (l * k))) (h - l) (m - l)) w := by
  simp [Instr.sliceAt, Instr.slice, run_underlying hu, hb, run_sizeOf hs]

theorem ok_slc {o : Oper} {t : TypeId} {x : Operand} {lo hi mx : Option Operand} {io : IOp} (hop : o.op = .slice t x lo hi mx) (hl : lowO P o.op = some io) : OpOK P o io := by
  refine ok_same (by simp [hop]) fun a c E H K hE hH hs => ?_
  rw [hop] at hl
  simp only [lowO] at hl
  split at hl
  · rename_i e hu
    split at hl
    · rename_i k x' lo' hi' mx' hk hx' hlo hhi hmx
      split at hl
      · cases hl
      · rename_i hok
        cases hl
        have hx := evA hE hx'
        have hok' : ¬ (mx'.isSome = true ∧ hi'.isNone = true) := by simpa using hok
        have hex : ∀ (v : Value) (w : World), (Instr.sliceAt t (a.eval x) (lo.map a.eval) (hi.map a.eval) (mx.map a.eval)).run P w = .ok v w → (execOp a.eval o).run P w = .ok (.value v) w := by
          intro v w h
          simp [execOp, hop, h]
        simp only [stepI, sliceI] at hs
        generalize hxu : a.eval x = u at hx
        split at hs
        · rename_i rows he
          rw [he] at hx
          obtain ⟨hrl, hs⟩ := hs
          split at hs
          · split at hs
            · rename_i l h el eh
              obtain ⟨h0, h1, h2, hK⟩ := hs
              cases hx with
              | fsl0 ad q h00 =>
                obtain rfl : l = 0 := by simp at h2; omega
                obtain rfl : h = 0 := by simp at h2; omega
                have hb := run_bounds (P := P) hE hlo hhi hmx hok' (len := 0) (cap := q) (is := true) el (by simpa using eh) (m := q) (by simp [bnd]) (by omega) (by omega) (by omega) (by omega) c.w
                refine ⟨_, _, hK, ?_, hex _ _ (by rw [hxu]; exact run_slc hu hk hb)⟩
                have : (if (q : Int).toNat = (0 : Int).toNat then ad else ad.map (·.add ((0 : Int).toNat * k))) = ad := by
                  cases ad <;> simp [Addr.add]
                rw [this]
                exact R.fsl0 ad _ (fun h => by simp [h00 h])
              | fsl _ ad o' k' q cells el' fz g1 g2 g3 g4 g5 gp g6 =>
                have hb := run_bounds (P := P) hE hlo hhi hmx hok' (len := rows.length) (cap := q) (is := true) el eh (m := q) (by simp [bnd]) (by omega) (by omega) (by omega) (by omega) c.w
                have hrun := hex _ _ (by rw [hxu]; exact run_slc hu hk hb)
                by_cases hlh : l = h
                · subst hlh
                  have he0 : (rows.take l.toNat).drop l.toNat = [] := by simp
                  rw [he0] at hK
                  refine ⟨_, _, hK, ?_, hrun⟩
                  simp only [Nat.sub_self]
                  split
                  · exact R.fsl0 _ _ (by simp)
                  · exact R.fsl0 _ _ (by simp)
                · have hkk : k' = k := by
                    have hpos : 0 < rows.length := by omega
                    have h3 := g3 rows[0] (List.getElem_mem hpos)
                    have h4 := hrl rows[0] (List.getElem_mem hpos)
                    omega
                  subst hkk
                  have hne : ¬ (q : Int).toNat = l.toNat := by omega
                  rw [if_neg hne] at hrun
                  simp only [Option.map_some, Addr.add_mk] at hrun
                  have hlen : h.toNat - l.toNat = ((rows.take h.toNat).drop l.toNat).length := by simp; omega
                  rw [hlen] at hrun
                  refine ⟨_, _, hK, ?_, hrun⟩
                  refine .fsl _ ad (o' + l.toNat * k') k' _ cells el' fz g1 g2 ?_ ?_ ?_ (fun row hr => gp row (List.mem_of_mem_take (List.mem_of_mem_drop hr))) ?_
                  · intro row hr
                    exact g3 row (List.mem_of_mem_take (List.mem_of_mem_drop hr))
                  · rw [← hlen]
                    have : (l.toNat + (h.toNat - l.toNat)) * k' ≤ rows.length * k' := Nat.mul_le_mul_right _ (by omega)
                    rw [Nat.add_mul] at this
                    omega
                  · rw [← hlen]; omega
                  · intro i row j v u hi' hj hu'
                    rw [List.getElem?_drop, List.getElem?_take] at hi'
                    split at hi'
                    · refine g6 (l.toNat + i) row j v u hi' hj ?_
                      rw [Nat.add_mul]
                      rw [show o' + (l.toNat * k' + i * k') + j = o' + l.toNat * k' + i * k' + j by omega]
                      exact hu'
                    · cases hi'
            · exact hs.elim
          · rename_i m
            split at hs
            · rename_i l h m' el eh em
              obtain ⟨h0, rfl, rfl, h2, hK⟩ := hs
              have hb0 : ∀ (cap : Nat), rows.length ≤ cap → ∀ ad : Option Addr, a.eval x = .slice ad rows.length cap → ∃ u, R c .fs0 u ∧ (execOp a.eval o).run P c.w = .ok (.value u) c.w := by
                intro cap hcap ad hxa
                have hb := run_bounds (P := P) hE hlo hhi hmx hok' (len := rows.length) (cap := cap) (is := true) el eh (m := l) (by simpa [bnd] using em) (by omega) (by omega) (by omega) (by omega) c.w
                refine ⟨_, ?_, hex _ _ (by rw [hxa]; exact run_slc hu hk hb)⟩
                simp only [Nat.sub_self, if_true]
                exact R.fs0 ad
              cases hx with
              | fsl0 ad q _ => obtain ⟨u, hu1, hu2⟩ := hb0 q (by simp) ad (by simpa using hxu); exact ⟨_, u, hK, hu1, hu2⟩
              | fsl _ ad o' k' q cells el' fz g1 g2 g3 g4 g5 gp g6 => obtain ⟨u, hu1, hu2⟩ := hb0 q g5 _ hxu; exact ⟨_, u, hK, hu1, hu2⟩
            · exact hs.elim
        · rename_i he
          rw [he] at hx
          split at hs
          · rename_i l h m el eh em
            obtain ⟨rfl, rfl, rfl, hK⟩ := hs
            cases hx
            have hb := run_bounds (P := P) hE hlo hhi hmx hok' (len := 0) (cap := 0) (is := true) el (by simpa using eh) (by simpa using em) (by omega) (by omega) (by omega) (by omega) c.w
            exact ⟨_, _, hK, by simpa using R.nsl, hex _ _ (by rw [hxu]; exact run_slc hu hk hb)⟩
          · exact hs.elim
        · rename_i he
          rw [he] at hx
          split at hs
          · rename_i l h m el eh em
            obtain ⟨rfl, rfl, rfl, hK⟩ := hs
            cases hx with
            | fs0 ad =>
              have hb := run_bounds (P := P) hE hlo hhi hmx hok' (len := 0) (cap := 0) (is := true) el (by simpa using eh) (by simpa using em) (by omega) (by omega) (by omega) (by omega) c.w
              exact ⟨_, _, hK, by simpa using R.fs0 ad, hex _ _ (by rw [hxu]; exact run_slc hu hk hb)⟩
          · exact hs.elim
        · rename_i id k' off len cap ex he
          rw [he] at hx
          obtain ⟨rfl, hs⟩ := hs
          cases hx with
          | rsl _ _ _ _ _ _ ad q hid hsp hlq hcq hex' hp =>
            have fin : ∀ (l h m : Int) (cap' : Nat) (ex2 : Bool), bnd E lo' 0 = some l → bnd E hi' len = some h → bnd E mx' q = some m → 0 ≤ l → l ≤ h → h ≤ m → m ≤ q → cap' ≤ m.toNat - l.toNat → (ex2 = true → m.toNat - l.toNat = cap') →
                ∃ u, R c (.rsl id k' (off + l.toNat) (h.toNat - l.toNat) cap' ex2) u ∧ (execOp a.eval o).run P c.w = .ok (.value u) c.w := by
              intro l h m cap' ex2 el eh em h0 h1 h2 h3 h4 h5
              have hb := run_bounds (P := P) hE hlo hhi hmx hok' (len := len) (cap := q) (is := true) el eh em h0 h1 h2 h3 c.w
              have hrun := hex _ _ (by rw [hxu]; exact run_slc hu hk hb)
              refine ⟨.slice (some (if m.toNat = l.toNat then ad else ad.add (l.toNat * k'))) (h.toNat - l.toNat) (m.toNat - l.toNat), ?_, ?_⟩
              · refine .rsl _ _ _ _ _ _ _ _ hid ?_ (by omega) h4 h5 fun b sz hρ => ?_
                · split
                  · exact hsp
                  · unfold Addr.add; split <;> simp [hsp]
                · obtain ⟨g1, g2⟩ := hp b sz hρ
                  refine ⟨fun hpos => ?_, ?_⟩
                  · rw [if_neg (by omega), g1 (by omega), Addr.add_mk, Nat.add_mul]
                  · have : (off + l.toNat + (m.toNat - l.toNat)) * k' ≤ (off + q) * k' := Nat.mul_le_mul_right _ (by omega)
                    omega
              · rw [hrun]
                congr 2
                split <;> simp
            split at hs
            · split at hs
              · rename_i l h el eh
                obtain ⟨h0, h1, h2, hK⟩ := hs
                obtain ⟨u, hu1, hu2⟩ := fin l h q (max len cap - l.toNat) ex el eh (by simp [bnd]) h0 h1 (by omega) (by omega) (by omega) (fun e => by have := hex' e; omega)
                exact ⟨_, u, hK, hu1, hu2⟩
              · exact hs.elim
            · rename_i m
              split at hs
              · rename_i l h m' el eh em
                obtain ⟨h0, h1, h2, h3, hK⟩ := hs
                obtain ⟨u, hu1, hu2⟩ := fin l h m' (m'.toNat - l.toNat) true el eh (by simpa [bnd] using em) h0 h1 (by omega) (by omega) (by omega) (fun _ => rfl)
                exact ⟨_, u, hK, hu1, hu2⟩
              · exact hs.elim
        · exact hs.elim
    · cases hl
  · rename_i hu
    split at hl
    · rename_i x' lo' hi' hx' hlo hhi
      cases hl
      have hx := evA hE hx'
      simp only [stepI] at hs
      split at hs
      · rename_i s he
        rw [he] at hx
        split at hs
        · rename_i l h el eh
          obtain ⟨h0, h1, h2, hK⟩ := hs
          have hb := run_bounds (P := P) (mx := none) (mx' := none) hE hlo hhi rfl (by simp) (len := s.size) (cap := s.size) (is := false) el eh (m := s.size) (by simp [bnd]) h0 h1 h2 (by omega) c.w
          refine ⟨_, .string (s.extract l.toNat h.toNat), hK, .s _, ?_⟩
          simp only [Option.map_none] at hb
          simp [execOp, hop, hx.str_inv, Instr.sliceAt, Instr.slice, run_underlying hu, hb]
        · exact hs.elim
      · exact hs.elim
    · cases hl
  · cases hl

/-! ### the greater and the smaller -/
theorem run_builtin2 {o : Oper} {ca : Call} {x y : Operand} {b : Builtin} {a : Act} (hop : o.op = .call ca) (hc : ca.callee = .builtin b) (ha : ca.args = #[x, y]) :
    ∃ cs, execOp a.eval o = builtin b ca.argTypes o.type cs #[a.eval x, a.eval y] := by
  exact ⟨_, by simp [execOp, hop, resolve, hc, ha, invoke]; rfl⟩

theorem ok_mm {o : Oper} {ca : Call} {x y : Operand} {x' y' : A} {mx : Bool} (hop : o.op = .call ca) (hc : ca.callee = .builtin (if mx then .max else .min)) (ha : ca.args = #[x, y]) (hx' : lowA x = some x') (hy' : lowA y = some y') :
    OpOK P o (.mm mx x' y') := by
  refine ok_same (by simp [hop]) fun a c E H K hE hH hs => ?_
  have hx := evA hE hx'
  have hy := evA hE hy'
  obtain ⟨cs, hex⟩ := run_builtin2 (a := a) hop hc ha
  rw [hex]
  simp only [stepI] at hs
  split at hs
  · rename_i k p k' q e1 e2
    rw [e1] at hx
    rw [e2] at hy
    obtain ⟨rfl, hK⟩ := hs
    rw [hx.int_inv, hy.int_inv]
    cases mx with
    | true =>
      refine ⟨_, _, hK, .i _ _, ?_⟩
      simp only [if_true, builtin, Sem.run_bind, run_max_int2, Result.andThen_ok, Sem.run_pure]
      congr 3
      rw [Int.max_def]; split <;> split <;> omega
    | false =>
      refine ⟨_, _, hK, .i _ _, ?_⟩
      simp only [Bool.false_eq_true, if_false, builtin, Sem.run_bind, run_min_int2, Result.andThen_ok, Sem.run_pure]
      congr 3
      rw [Int.min_def]; split <;> split <;> omega
  · exact hs.elim

/-! ### literals of slices, and make -/
theorem cells_rep {c : Cx} {z : List V} {u : Value} {k n : Nat} (hz : RL c z u.cells.toList) (hk : z.length = k) (h0 : 0 < k) : CellsAs c k (List.replicate n z) ((Array.range (n * k)).map (u.cells[· % u.cells.size]!)) 0 := by
  intro i row j v x hi hj hx
  have hrow : row = z := by
    have := List.mem_of_getElem? hi
    exact (List.mem_replicate.1 this).2
  subst hrow
  have hil : i < n := by simpa using (List.getElem?_eq_some_iff.1 hi).1
  have hjl : j < k := by rw [← hk]; exact (List.getElem?_eq_some_iff.1 hj).1
  have hsz : u.cells.size = k := by rw [← hk]; simpa using hz.1.symm
  have hlt : i * k + j < n * k := by
    have : (i + 1) * k ≤ n * k := Nat.mul_le_mul_right _ hil
    rw [Nat.add_mul] at this
    omega
  have hmod : (i * k + j) % u.cells.size = j := by
    rw [hsz, Nat.mul_comm, Nat.mul_add_mod]; exact Nat.mod_eq_of_lt hjl
  simp [hlt, hmod] at hx
  rw [getElem!_pos u.cells j (by omega)] at hx
  refine hz.2 j v x hj ?_
  simp [show j < u.cells.size by omega, hx]

theorem rows_put {c : Cx} {k : Nat} {rows : List (List V)} {cells : Array Value} (hk : ∀ row ∈ rows, row.length = k) (h : CellsAs c k rows cells 0) (hs : rows.length * k ≤ cells.size) {v : V} {u : Value} (hv : R c v u)
    (h1 : v.cells.all V.one = true) (hl : v.cells.length = k) {r : Nat} (hr : r < rows.length) : CellsAs c k (rows.set r v.cells) (putCells cells (r * k) u.cells.toList) 0 := by
  obtain ⟨q1, q2⟩ := hv.cells_of h1
  have hlen : u.cells.toList.length = k := by rw [← hl]; simpa using q1
  have hle2 : (r + 1) * k ≤ rows.length * k := Nat.mul_le_mul_right k hr
  rw [Nat.add_mul] at hle2
  intro i x j y z hi hj hz
  rw [Nat.zero_add, putCells_get _ _ _ _ (by rw [hlen]; omega), hlen] at hz
  have hxl : x.length = k := by
    rcases List.mem_or_eq_of_mem_set (List.mem_of_getElem? hi) with hx | hx
    · exact hk x hx
    · rw [hx, hl]
  have hjk : j < k := by rw [← hxl]; exact (List.getElem?_eq_some_iff.1 hj).1
  by_cases hir : i = r
  · subst hir
    rw [List.getElem?_set_self hr] at hi
    cases hi
    rw [if_pos (by omega), show i * k + j - i * k = j by omega] at hz
    exact q2 j y z hj hz
  · rw [List.getElem?_set_ne (by omega)] at hi
    have hno : ¬ (r * k ≤ i * k + j ∧ i * k + j < r * k + k) := by
      rcases Nat.lt_or_gt_of_ne hir with hlt' | hgt'
      · have : (i + 1) * k ≤ r * k := Nat.mul_le_mul_right k hlt'
        rw [Nat.add_mul] at this
        omega
      · have : (r + 1) * k ≤ i * k := Nat.mul_le_mul_right k hgt'
        rw [Nat.add_mul] at this
        omega
    rw [if_neg hno] at hz
    exact h i x j y z hi hj (by simpa using hz)

theorem fillR_R {c : Cx} {E : Env} {a : Act} (hE : RE c E a.tmps) {k : Nat} : ∀ (parts : List (Nat × Operand)) (ip : List (Nat × A)) (z rows : List (List V)) (cells : Array Value),
    lowPartR parts = some ip → fillR E k z ip = some rows → (∀ row ∈ z, row.length = k) → (∀ row ∈ z, ∀ v ∈ row, v.one = true) → CellsAs c k z cells 0 → z.length * k ≤ cells.size →
    ∃ cells', Instr.fill (fun i => some (i * k, k)) cells (parts.map fun p => (p.1, a.eval p.2)) = some cells' ∧ CellsAs c k rows cells' 0 ∧ cells'.size = cells.size ∧ (∀ row ∈ rows, row.length = k) ∧
      (∀ row ∈ rows, ∀ v ∈ row, v.one = true) ∧ rows.length = z.length
  | [], ip, z, rows, cells, h1, h2, h3, h4, h5, h6 => by
    cases h1
    simp [fillR] at h2
    subst h2
    exact ⟨cells, rfl, h5, rfl, h3, h4, rfl⟩
  | (j, x) :: r, ip, z, rows, cells, h1, h2, h3, h4, h5, h6 => by
    simp only [lowPartR] at h1
    split at h1
    · rename_i y l e1 e2
      cases h1
      simp only [fillR] at h2
      split at h2
      · rename_i hc
        obtain ⟨c1, c2, c3⟩ := hc
        have hx := evA hE e1
        obtain ⟨q1, q2⟩ := hx.cells_of c2
        have hle2 : (j + 1) * k ≤ z.length * k := Nat.mul_le_mul_right k c3
        rw [Nat.add_mul] at hle2
        obtain ⟨cells', f1, f2, f3, f4, f5, f6⟩ := fillR_R hE r l _ rows (putCells cells (j * k) (a.eval x).cells.toList) e2 h2 (by
            intro row hrow
            rcases List.mem_or_eq_of_mem_set hrow with hx | hx
            · exact h3 row hx
            · rw [hx, c1]) (by
            intro row hrow
            rcases List.mem_or_eq_of_mem_set hrow with hx | hx
            · exact h4 row hx
            · rw [hx]; simpa using c2) (rows_put h3 h5 h6 hx c2 c1 c3) (by simpa using h6)
        refine ⟨cells', ?_, f2, by simpa using f3, f4, f5, by simpa using f6⟩
        simp only [List.map_cons, Instr.fill]
        rw [if_neg (by simp [q1, c1]; omega), fill_step]
        exact f1
      · cases h2
    · cases h1

theorem map_range0 (f : Nat → Value) : Array.map f (Array.range 0) = #[] := by apply Array.eq_empty_of_size_eq_zero; simp

theorem zero_info {t : TypeId} {z : List V} (h : zeroI P t = some z) : ∃ i zz, P.info? t = some i ∧ i.zero = some zz ∧ ∃ v, toV zz = some v ∧ v.cells = z := by
  unfold zeroI at h
  cases hi : P.info? t with
  | none => simp [hi] at h
  | some i =>
    cases hz : i.zero with
    | none => simp [hi, hz] at h
    | some zz =>
      simp only [hi, hz, Option.bind_some, Option.map_eq_some_iff] at h
      obtain ⟨v, hv, hc⟩ := h
      exact ⟨i, zz, rfl, hz, v, hv, hc⟩

/-- Memory that is nobody's. -/
theorem RH.grow {c : Cx} {H : List Blk} (h : RH c H) (o : Obj) : RH { c with w := c.w.alloc o } H ∧ Stp c { c with w := c.w.alloc o } := by
  have hst : Stp c { c with w := c.w.alloc o } := ⟨rfl, rfl, rfl, by simp, fun b hb _ => Below.heap_alloc _ _ _ hb, fun b hb => ⟨fun h => h, fun _ h => h⟩, Nat.le_refl _, fun _ _ => .inl rfl, fun id b sz e => .inr ⟨id, sz, e⟩, Nat.le_refl _⟩
  have hsub := hst.sub h
  refine ⟨⟨h.N, fun b hb => by have := h.X b hb; simp; omega, h.gone, fun id blk hb hd => ?_, h.inj⟩, hst⟩
  obtain ⟨b, sz, h1, h2, h3⟩ := h.live id blk hb hd
  exact ⟨b, sz, h1, h2, h3.move (Below.heap_alloc _ _ _ (h.lt h1)) hsub⟩

/-- A literal's places, with nobody to write them: it is its caller's, or it is a list. -/
def unfz : IOp → IOp
  | .bsl _ k n z ps => .bsl false k n z ps
  | o => o

theorem ok_bsl {o : Oper} {t : TypeId} {m : Nat} {parts : Array (Nat × Operand)} {io : IOp} (hop : o.op = .buildSlice t m parts) (hl : lowO P o.op = some (unfz io)) : OpOK P o io := by
  intro rd n a c E H K nx Q hE hH hs hk
  rw [hop] at hl
  simp only [lowO] at hl
  split at hl
  · rename_i e hu
    split at hl
    · rename_i k z hsz hz
      split at hl
      · rename_i hpos
        simp only [Option.map_eq_some_iff] at hl
        obtain ⟨ip, hip, hio⟩ := hl
        obtain ⟨fz, rfl⟩ : ∃ fz, io = .bsl fz k m z ip := by
          cases io <;> simp only [unfz] at hio <;> first | (cases hio; done) | (injection hio with e1 e2 e3 e4 e5; subst e2 e3 e4 e5; exact ⟨_, rfl⟩)
        have hs' : m * k ≤ 1000000 ∧ z.length = k ∧ z.all V.one = true ∧ ∃ rows, fillR E k (List.replicate m z) ip = some rows ∧ (if fz then (∀ r ∈ rows, belL 0 r = true) ∧ K (if m = 0 then .fs0 else .fsl rows) H else K (.rsl H.length k 0 m m true) (H ++ [.row k rows])) := by
          cases fz <;> simp only [stepI] at hs <;> simpa using hs
        obtain ⟨hsmall, hzl, hz1, rows, hf, hK⟩ := hs'
        obtain ⟨i, zz, hi, hzz, v, hv, rfl⟩ := zero_info hz
        have hr := toV_R (c := c) hv
        obtain ⟨g1, g2⟩ := hr.cells_of hz1
        have hsi : i.size = k := by unfold szOf at hsz; simp [hi] at hsz; exact hsz
        obtain ⟨cells', f1, f2, f3, f4, f5, f6⟩ := fillR_R hE parts.toList ip _ rows ((Array.range (m * k)).map (zz.cells[· % zz.cells.size]!)) hip hf
          (by intro row hrow; rw [(List.mem_replicate.1 hrow).2, hzl]) (by intro row hrow w hw; rw [(List.mem_replicate.1 hrow).2] at hw; simp only [List.all_eq_true] at hz1; exact hz1 w hw)
          (cells_rep ⟨by simpa using g1.symm, g2⟩ hzl hpos) (by simp)
        have hsz' : cells'.size = m * k := by rw [f3]; simp
        have hlen : rows.length = m := by rw [f6]; simp
        refine wpIn_value (by simp [hop]) (u := .slice (some ⟨c.w.heap.size, 0, none⟩) m m) (w' := c.w.alloc (.cells cells' e)) ?_ (by
          cases fz with
          | false =>
            obtain ⟨k1, k2⟩ := hH.allocRow (k := k) (rows := rows) (cells := cells') (e := e) f4 (by rw [hlen, hsz']; exact Nat.le_refl _) f5 f2
            exact hk _ _ _ _ hK k1 (R_newSl hH (Nat.le_refl _) (Nat.le_refl _) (fun _ => rfl) (by rw [hsz']; exact Nat.le_refl _)) k2
          | true =>
            obtain ⟨k1, k2⟩ := hH.grow (.cells cells' e)
            obtain ⟨hbel, hK⟩ : (∀ r ∈ rows, belL 0 r = true) ∧ K (if m = 0 then .fs0 else .fsl rows) H := by simpa using hK
            have hsub := k2.sub hH
            refine hk _ _ _ _ hK k1 ?_ k2
            split
            · rename_i hm0; subst hm0; exact .fs0 _
            · have key : R { c with w := c.w.alloc (.cells cells' e) } (.fsl rows) (.slice (some ⟨c.w.heap.size, 0, none⟩) rows.length m) :=
                .fsl rows c.w.heap.size 0 k m cells' e (0, 0) (alloc_new _ _) (fun hx => by have := hH.X _ hx; omega) f4 (by rw [hlen, hsz']; omega) (by omega) hbel (fun i row j v u e1 e2 e3 => (f2 i row j v u e1 e2 e3).mono hsub)
              rw [hlen] at key
              exact key)
        by_cases hm0 : m = 0
        · subst hm0
          have : cells' = #[] := by apply Array.eq_empty_of_size_eq_zero; rw [hsz']; simp
          subst this
          have hf0 : parts.toList = [] := by
            cases hp : parts.toList with
            | nil => rfl
            | cons p r =>
              rw [hp] at hip
              obtain ⟨j, x⟩ := p
              simp only [lowPartR] at hip
              split at hip
              · cases hip
                simp only [fillR] at hf
                split at hf
                · rename_i hc; simp at hc
                · cases hf
              · cases hip
          have hp0 : parts = #[] := by apply Array.toList_inj.1; simpa using hf0
          simp [execOp, hop, Instr.buildSlice, run_underlying hu, sizeOf, typeInfo, zeroValue, hi, hzz, hsi, newRow, hp0, Instr.fill, map_range0]
        · have hpos2 : ¬ m * k = 0 := fun h => by rcases Nat.mul_eq_zero.1 h with h | h <;> omega
          have hsm2 : ¬ m * k > 2 ^ 24 := by omega
          simp [execOp, hop, Instr.buildSlice, run_underlying hu, sizeOf, typeInfo, zeroValue, hi, hzz, hsi, hpos2, hsm2, f1, newRow, hm0, show ¬ k = 0 by omega]
      · cases hl
    · cases hl
  · cases hl

theorem run_asInt {k : IntKind} {n : Int} {w : World} : (asInt (.int k n)).run P w = .ok n w := by simp [asInt, asIntOf]

theorem wrap_small {n : Int} (h0 : 0 ≤ n) (h1 : n ≤ 1000000) : IntKind.i64.wrap n = n := by
  unfold IntKind.wrap
  simp [IntKind.bits, IntKind.signed]
  omega

theorem ok_mks {o : Oper} {t : TypeId} {l q : Operand} {io : IOp} (hop : o.op = .makeSlice t l q) (hl : lowO P o.op = some io) : OpOK P o io := by
  intro rd n a c E H K nx Q hE hH hs hk
  rw [hop] at hl
  simp only [lowO] at hl
  split at hl
  · rename_i e hu
    split at hl
    · rename_i k by' z l' q' hsz hby hz hl' hq'
      split at hl
      · rename_i hpos
        cases hl
        have hx := evA hE hl'
        have hy := evA hE hq'
        simp only [stepI] at hs
        split at hs
        · rename_i ln qn e1 e2
          rw [e1] at hx
          rw [e2] at hy
          obtain ⟨h0, h1, h2, h3, hzl, hz1, hK⟩ := hs
          obtain ⟨i, zz, hi, hzz, v, hv, rfl⟩ := zero_info hz
          have hr := toV_R (c := c) hv
          obtain ⟨g1, g2⟩ := hr.cells_of hz1
          have hsi : i.size = k := by unfold szOf at hsz; simp [hi] at hsz; exact hsz
          have hbi : i.bytes = by' := by unfold bytesI at hby; simp [hi] at hby; exact hby
          have hcr := cells_rep (n := qn.toNat) (c := c) (u := zz) ⟨by simpa using g1.symm, g2⟩ hzl hpos
          obtain ⟨k1, k2⟩ := hH.allocRow (k := k) (rows := List.replicate qn.toNat v.cells) (cells := (Array.range (qn.toNat * k)).map (zz.cells[· % zz.cells.size]!)) (e := e)
            (by intro row hrow; rw [(List.mem_replicate.1 hrow).2, hzl]) (by simp) (by intro row hrow w hw; rw [(List.mem_replicate.1 hrow).2] at hw; simp only [List.all_eq_true] at hz1; exact hz1 w hw) hcr
          refine wpIn_value (by simp [hop]) (u := .slice (some ⟨c.w.heap.size, 0, none⟩) ln.toNat qn.toNat) (w' := c.w.alloc (.cells ((Array.range (qn.toNat * k)).map (zz.cells[· % zz.cells.size]!)) e)) ?_
            (hk _ _ _ _ hK k1 (R_newSl hH (by omega) (Nat.le_refl _) (fun _ => rfl) (by simp)) k2)
          have hw1 := wrap_small h0 (show ln ≤ 1000000 by omega)
          have hw2 := wrap_small (show 0 ≤ qn by omega) h2
          have hbq : (by' : Int) * qn ≤ 1000000 * 1000000 := Int.mul_le_mul (by omega) h2 (by omega) (by omega)
          have hcond : (decide (qn < 0) || decide ((by' : Int) * qn > 2 ^ 48) || decide (ln < 0) || decide (ln > qn)) = false := by
            simp; omega
          have hrun : (Instr.makeSlice t (.int .i64 ln) (.int .i64 qn)).run P c.w = .ok (.slice (some ⟨c.w.heap.size, 0, none⟩) ln.toNat qn.toNat) (c.w.alloc (.cells ((Array.range (qn.toNat * k)).map (zz.cells[· % zz.cells.size]!)) e)) := by
            simp only [Instr.makeSlice, Sem.run_bind, run_underlying hu, Result.andThen_ok, run_asInt, typeInfo, run_program, hi, Sem.run_pure, hw1, hw2, hbi]
            rw [if_neg (by simp; omega)]
            simp only [Sem.run_bind, Sem.run_pure, Result.andThen_ok, run_askRoom, sizeOf, typeInfo, run_program, hi, hsi]
            by_cases hq0 : qn.toNat * k = 0
            · simp [hq0, newRow, run_newObj, map_range0]
            · simp [hq0, zeroValue, typeInfo, hi, hzz, newRow, run_newObj]
          simp [execOp, hop, hx.int_inv, hy.int_inv, hrun]
        · exact hs.elim
      · cases hl
    · cases hl
  · cases hl
end Go.Sh
end
section
namespace Go.Sh
open Go.RowKit
set_option linter.unusedVariables false
set_option linter.unusedSimpArgs false

variable {P : Program}

/-- A list of cells holds these rows. -/
def RowsAs (c : Cx) (k : Nat) (rows : List (List V)) (l : List Value) : Prop :=
  ∀ (i : Nat) (row : List V) (j : Nat) (v : V) (u : Value), rows[i]? = some row → row[j]? = some v → l[i * k + j]? = some u → R c v u

theorem RowsAs.append {c : Cx} {k : Nat} {a b : List (List V)} {l m : List Value} (h : RowsAs c k a l) (g : RowsAs c k b m) (ha : ∀ r ∈ a, r.length = k) (hl : l.length = a.length * k) : RowsAs c k (a ++ b) (l ++ m) := by
  intro i row j v u h1 h2 h3
  by_cases hi : i < a.length
  · rw [List.getElem?_append_left hi] at h1
    have hj : j < k := by rw [← ha row (List.mem_of_getElem? h1)]; exact (List.getElem?_eq_some_iff.1 h2).1
    have : (i + 1) * k ≤ a.length * k := Nat.mul_le_mul_right _ hi
    rw [Nat.add_mul] at this
    rw [List.getElem?_append_left (by omega)] at h3
    exact h i row j v u h1 h2 h3
  · rw [List.getElem?_append_right (by omega)] at h1
    have : a.length * k ≤ i * k := Nat.mul_le_mul_right _ (by omega)
    rw [List.getElem?_append_right (by omega)] at h3
    refine g (i - a.length) row j v u h1 h2 ?_
    rw [Nat.sub_mul]
    rw [show i * k - a.length * k + j = i * k + j - l.length by omega]
    exact h3

theorem RowsAs.mono {c c' : Cx} {k : Nat} {rows : List (List V)} {l : List Value} (s : Sub c c') (h : RowsAs c k rows l) : RowsAs c' k rows l :=
  fun i row j v u h1 h2 h3 => (h i row j v u h1 h2 h3).mono s

theorem RowsAs.one {c : Cx} {k : Nat} {rows : List (List V)} {l : List Value} (h : RowsAs c k rows l) (hk : ∀ r ∈ rows, r.length = k ∧ r.all V.one = true) (h0 : 0 < k) (hl : l.length = rows.length * k) : ∀ u ∈ l, u.oneCell' = true := by
  intro u hu
  obtain ⟨p, hp⟩ := List.getElem?_of_mem hu
  have hlt := (List.getElem?_eq_some_iff.1 hp).1
  rw [hl] at hlt
  have hi : p / k < rows.length := Nat.div_lt_of_lt_mul (by rw [Nat.mul_comm]; exact hlt)
  have hj : p % k < k := Nat.mod_lt _ h0
  obtain ⟨hlen, hone⟩ := hk rows[p / k] (List.getElem_mem hi)
  have hv : rows[p / k][p % k]? = some (rows[p / k][p % k]'(by omega)) := by simp [hlen, hj]
  refine (h (p / k) rows[p / k] (p % k) _ u (by simp [hi]) hv ?_).one ?_
  · rw [Nat.div_add_mod']; exact hp
  · simp only [List.all_eq_true] at hone
    exact hone _ (List.getElem_mem _)

theorem listMkN {w : World} (g : Nat → Option Value) : ∀ (n : Nat), (∀ j, j < n → ∃ u, g j = some u) → ∃ us : List Value, us.length = n ∧ ∀ j u, us[j]? = some u → g j = some u := by
  intro n h
  refine ⟨(List.range n).map (fun j => (g j).getD undef), by simp, fun j u e => ?_⟩
  simp only [List.getElem?_map, Option.map_eq_some_iff] at e
  obtain ⟨j', hj', hu⟩ := e
  have hlt : j < n := by have := (List.getElem?_eq_some_iff.1 hj').1; simpa using this
  have : j' = j := by simp [hlt] at hj'; exact hj'.symm
  subst this
  obtain ⟨x, hx⟩ := h j' hlt
  rw [hx] at hu ⊢
  simpa using hu

/-- What a slice shows, loaded. -/
theorem shown_R {c : Cx} {H : List Blk} (hH : RH c H) {v : V} {u : Value} (hv : R c v u) {ys : List (List V)} {k : Nat} (hs : shown H v = some ys) (hk : ∀ r ∈ ys, r.length = k) :
    ∃ ad q news, u = .slice ad ys.length q ∧ (Builtin.firstCells k ys.length u).run P c.w = .ok (List.toArray news) c.w ∧ news.length = ys.length * k ∧ RowsAs c k ys news := by
  have nil : ∀ ad q, ys = [] → u = .slice ad 0 q → ∃ ad q news, u = .slice ad ys.length q ∧ (Builtin.firstCells k ys.length u).run P c.w = .ok (List.toArray news) c.w ∧ news.length = ys.length * k ∧ RowsAs c k ys news := by
    intro ad q hy hu
    subst hy hu
    refine ⟨ad, q, [], rfl, ?_, by simp, fun i row j v u h => by simp at h⟩
    cases ad with
    | none => simp [Builtin.firstCells]
    | some a => simp [Builtin.firstCells, loadCells, loadCellsFrom]
  have full : ∀ (a o q : Nat) (cells : Array Value) (e : TypeId) (fz : Nat × Nat), c.w.heap[a]? = some (.cells cells e fz) → o + ys.length * k ≤ cells.size →
      (∀ (i : Nat) (row : List V) (j : Nat) (v : V) (u : Value), ys[i]? = some row → row[j]? = some v → cells[o + i * k + j]? = some u → R c v u) → u = .slice (some ⟨a, o, none⟩) ys.length q →
      ∃ ad q news, u = .slice ad ys.length q ∧ (Builtin.firstCells k ys.length u).run P c.w = .ok (List.toArray news) c.w ∧ news.length = ys.length * k ∧ RowsAs c k ys news := by
    intro a o q cells e fz hb hle hR hu
    subst hu
    obtain ⟨us, h1, h2⟩ := listMkN (w := c.w) (fun j => cells[o + j]?) (ys.length * k) (fun j hj => ⟨cells[o + j]'(by omega), Array.getElem?_eq_getElem _⟩)
    have hrun := run_loadCells_list (P := P) c.w (⟨a, o, none⟩ : Addr) us (fun j v hv => by
      rw [Addr.add_mk]
      simp [World.cell?, hb, h2 j v hv])
    rw [h1] at hrun
    exact ⟨_, q, us, rfl, by simpa [Builtin.firstCells] using hrun, h1, fun i row j v u e1 e2 e3 => hR i row j v u e1 e2 (by rw [Nat.add_assoc]; exact h2 _ u e3)⟩
  cases v with
  | nsl => simp [shown] at hs; cases hv; exact nil none 0 hs rfl
  | fs0 => simp [shown] at hs; cases hv; exact nil _ 0 hs rfl
  | fsl rows =>
    simp [shown] at hs
    subst hs
    cases hv with
    | fsl0 a cap _ => exact nil _ _ rfl rfl
    | fsl _ a o k' cap cells e fz g1 g2 g3 g4 g5 gp g6 =>
      by_cases hr : rows = []
      · exact nil _ _ hr (by subst hr; rfl)
      · obtain ⟨r, hrm⟩ := List.exists_mem_of_ne_nil _ hr
        have hkk : k' = k := by rw [← g3 r hrm, hk r hrm]
        subst hkk
        exact full a o cap cells e fz g1 g4 g6 rfl
  | rsl id k' off len cap ex =>
    simp only [shown] at hs
    split at hs
    · rename_i k2 rows hb
      split at hs
      · rename_i hc
        obtain ⟨rfl, hle⟩ := hc
        cases hs
        have hlen : ((rows.drop off).take len).length = len := by simp; omega
        cases hv with
        | rsl _ _ _ _ _ _ a q hid hsp hlq hcq hex hp =>
          by_cases h0 : len = 0
          · subst h0
            exact nil (some a) q (by simp) (by simp)
          · obtain ⟨b, sz, hρ, _, cells, e, g1, g2, g3, g4, _, g6⟩ := hH.live id _ hb (by simp)
            obtain ⟨p1, p2⟩ := hp b sz hρ
            have hkk : k' = k := by
              have hm : ((rows.drop off).take len)[0]'(by omega) ∈ (rows.drop off).take len := List.getElem_mem _
              have h1 := hk _ hm
              have h2 := g3 _ (List.mem_of_mem_drop (List.mem_of_mem_take hm))
              omega
            subst hkk
            have ha := p1 (by omega)
            subst ha
            refine full b (off * k') q cells e (0, 0) g1 ?_ ?_ (by rw [hlen])
            · rw [hlen]
              have : (off + len) * k' ≤ rows.length * k' := Nat.mul_le_mul_right _ hle
              rw [Nat.add_mul] at this
              omega
            · intro i row j v u h1 h2 h3
              rw [List.getElem?_take] at h1
              split at h1
              · rw [List.getElem?_drop] at h1
                refine g6 (off + i) row j v u h1 h2 ?_
                rw [Nat.add_mul, Nat.zero_add]
                exact h3
              · cases h1
      · cases hs
    · cases hs
  | _ => simp [shown] at hs

theorem run_app_in {t t' e e' : TypeId} {ty : TypeId} {k : Nat} (hu : P.underlying t = some (.slice e)) (hu' : P.underlying t' = some (.slice e')) (hs : szOf P e = some k) {base : Option Addr} {sLen sCap n q : Nat} {ad : Option Addr} {new : Array Value}
    {w w' : World} (hle : sLen + n ≤ sCap) (hf : (Builtin.firstCells k n (.slice ad n q)).run P w = .ok new w) (hst : ∀ a, base = some a → (storeCells (a.add (sLen * k)) new.toList).run P w = .ok () w') (hn : base = none → w' = w) :
    (Builtin.append_ #[t, t'] ty #[.slice base sLen sCap, .slice ad n q]).run P w = .ok (.slice base (sLen + n) sCap) w' := by
  cases base with
  | none =>
    obtain rfl := hn rfl
    simp [Builtin.append_, run_underlying hu, run_underlying hu', run_sizeOf hs, Builtin.lenOf, hle, hf]
  | some a =>
    simp [Builtin.append_, run_underlying hu, run_underlying hu', run_sizeOf hs, Builtin.lenOf, hle, hf, hst a rfl]

theorem run_app_grow {t t' e e' : TypeId} {ty : TypeId} {k by' : Nat} (hu : P.underlying t = some (.slice e)) (hu' : P.underlying t' = some (.slice e')) (hs : szOf P e = some k) (hby : bytesI P e = some by') {z : List V} (hz : zeroI P e = some z)
    {base : Option Addr} {sLen sCap n q : Nat} {ad : Option Addr} {old new : Array Value} {w : World} (hle : sCap < sLen + n) (hsm : sLen + n ≤ 1000000) (hb1 : by' ≤ 1000000)
    (hfo : (Builtin.firstCells k sLen (.slice base sLen sCap)).run P w.drew = .ok old w.drew) (hf : (Builtin.firstCells k n (.slice ad n q)).run P w.drew = .ok new w.drew) :
    ∃ cap' rest, sLen + n ≤ cap' ∧ rest.size = (cap' - (sLen + n)) * (z.length) ∧
    (Builtin.append_ #[t, t'] ty #[.slice base sLen sCap, .slice ad n q]).run P w = .ok (.slice (some ⟨w.heap.size, 0, none⟩) (sLen + n) cap') (w.drew.alloc (.cells (old ++ (new ++ rest)) e)) := by
  obtain ⟨i, zz, hi, hzz, v, hv, rfl⟩ := zero_info hz
  have hbi : i.bytes = by' := by unfold bytesI at hby; simp [hi] at hby; exact hby
  have hbb : (sLen + n) * by' ≤ 140737488355328 := by
    have : (sLen + n) * by' ≤ 1000000 * 1000000 := Nat.mul_le_mul hsm hb1
    omega
  have hfit := growslice_fits (need := sLen + n) (old := sCap) (bytes := by') hle hbb
  have hr := toV_R (c := ⟨w, fun _ => True, fun _ => none, 0⟩) hv
  have hzs : zz.cells.size = v.cells.length := by
    unfold toV at hv
    split at hv
    · rename_i cs
      simp only [Option.map_eq_some_iff] at hv
      obtain ⟨l, hl, rfl⟩ := hv
      have := (toVL_R (c := ⟨w, fun _ => True, fun _ => none, 0⟩) hl).1
      simp [V.cells, Value.cells, this]
    · split at hv
      · cases hv; rfl
      · cases hv
    · have h1 := hr
      unfold toV1 at hv
      split at hv <;> first | (cases hv; done) | (cases hv; rfl) | skip
      split at hv
      · cases hv; rfl
      · cases hv
  refine ⟨(Question.appendCap (sLen + n) sCap e).cut (w.tape w.drawn (.appendCap (sLen + n) sCap e)), Builtin.zeroCells zz.cells ((Question.appendCap (sLen + n) sCap e).cut (w.tape w.drawn (.appendCap (sLen + n) sCap e)) - (sLen + n)), ?_, ?_, ?_⟩
  · simp [Question.cut]
  · simp [Builtin.zeroCells, hzs]
  · have hno : ¬ sLen + n ≤ sCap := by omega
    have hno2 : ¬ ((sLen + n : Nat) : Int) > IntKind.i64.max := by simp [IntKind.max, IntKind.signed, IntKind.bits]; omega
    have hno3 : ¬ Builtin.nextslicecap (sLen + n) sCap * by' > 2 ^ 48 := by
      have : (2 : Nat) ^ 48 = 281474976710656 := by decide
      omega
    simp only [Builtin.append_, Sem.run_bind, run_underlying hu, run_underlying hu', Result.andThen_ok, run_sizeOf hs, Builtin.lenOf, Sem.run_pure, List.getElem?_toArray, List.getElem?_cons_zero, List.getElem?_cons_succ]
    have hne : ¬ (Builtin.nextslicecap (sLen + n) sCap * i.bytes > 2 ^ 48) := by rw [hbi]; exact hno3
    have hc : ¬ (9223372036854775807 < (sLen : Int) + n ∧ i.bytes = 0) := by omega
    have hff : (Question.appendCap (sLen + n) sCap e).forced = false := rfl
    simp [hno, hno2, hi, typeInfo, hne, hc, hff, hfo, hf, zeroValue, hzz, newRow]

theorem RH.drew {c : Cx} {H : List Blk} (h : RH c H) : RH { c with w := c.w.drew } H ∧ Stp c { c with w := c.w.drew } := by
  have hst : Stp c { c with w := c.w.drew } := ⟨rfl, rfl, rfl, Nat.le_refl _, fun _ _ _ => rfl, fun _ _ => ⟨fun h => h, fun _ h => h⟩, Nat.le_refl _, fun _ _ => .inl rfl, fun id b sz e => .inr ⟨id, sz, e⟩, Nat.le_succ _⟩
  have hsub := hst.sub h
  refine ⟨⟨h.N, h.X, h.gone, fun id blk hb hd => ?_, h.inj⟩, hst⟩
  obtain ⟨b, sz, h1, h2, h3⟩ := h.live id blk hb hd
  refine ⟨b, sz, h1, h2, ?_⟩
  exact h3.move rfl hsub

/-- One's own block is gone (its memory is somebody else's now, or nobody's). -/
def without (c : Cx) (id : Nat) : Cx := { c with ρ := fun i => if i = id then none else c.ρ i }

theorem Sub.without {c : Cx} (id : Nat) : Sub c (without c id) := ⟨fun b hb hx => ⟨rfl, hx⟩, Nat.le_refl _, fun i _ => by simp only [Sh.without]; split <;> simp⟩

theorem Stp.without {c : Cx} (id : Nat) : Stp c (without c id) :=
  ⟨rfl, rfl, rfl, Nat.le_refl _, fun _ _ _ => rfl, fun _ _ => ⟨fun h => h, fun _ h => h⟩, Nat.le_refl _, fun i _ => by simp only [Sh.without]; split <;> simp, fun i b sz e => by
    simp only [Sh.without] at e; split at e
    · cases e
    · exact .inr ⟨i, sz, e⟩, Nat.le_refl _⟩

theorem RH.without {c : Cx} {H : List Blk} (h : RH c H) (id : Nat) : RH (without c id) (H.set id .dead) := by
  have hsub := Sub.without (c := c) id
  refine ⟨by simpa [Sh.without] using h.N, h.X, ?_, ?_, ?_⟩
  · intro i hi
    simp only [Sh.without]
    split
    · rfl
    · rename_i hne
      rw [List.getElem?_set_ne (by omega)] at hi
      exact h.gone i hi
  · intro i blk hi hd
    by_cases hne : id = i
    · subst hne
      rw [List.getElem?_set] at hi
      simp at hi
      exact absurd hi.2.symm hd
    · rw [List.getElem?_set_ne hne] at hi
      obtain ⟨b, sz, h1, h2, h3⟩ := h.live i blk hi hd
      refine ⟨b, sz, by simp only [Sh.without]; rw [if_neg (by omega)]; exact h1, h2, ?_⟩
      exact h3.move rfl hsub
  · intro i i' b s s' e e'
    simp only [Sh.without] at e e'
    split at e
    · cases e
    · split at e'
      · cases e'
      · exact h.inj i i' b s s' e e'

/-- A block that was one's own under another name. -/
def adopt (c : Cx) (b sz : Nat) (o : Obj) : Cx := { w := setB c.w b o, X := c.X, ρ := fun i => if i = c.N then some (b, sz) else c.ρ i, N := c.N + 1 }

theorem Sub.adopt {c : Cx} {b sz : Nat} {o : Obj} (hX : c.X b) : Sub c (adopt c b sz o) :=
  ⟨fun i hi hx => ⟨setB_other (fun e => hx (e ▸ hX)), hx⟩, by simp [Sh.adopt], fun i hi => by simp only [Sh.adopt]; left; rw [if_neg (by omega)]⟩

theorem RH.adopt {c : Cx} {H : List Blk} (h : RH c H) {b sz : Nat} {o : Obj} {blk : Blk} (hX : c.X b) (hfree : ∀ i s, c.ρ i ≠ some (b, s)) (hd : blk ≠ .dead) (hnew : BlkAs (adopt c b sz o) b sz blk) : RH (adopt c b sz o) (H ++ [blk]) := by
  have hsub := Sub.adopt (sz := sz) (o := o) hX
  have hN := h.N
  refine ⟨by simp [Sh.adopt, hN], fun i hi => by simpa [Sh.adopt] using h.X i hi, ?_, ?_, ?_⟩
  · intro i hi
    simp only [Sh.adopt]
    have hne : i ≠ c.N := by
      intro e; subst e; rw [hN] at hi; simp [hd] at hi
    rw [if_neg hne]
    by_cases hl : i < H.length
    · rw [List.getElem?_append_left hl] at hi; exact h.gone i hi
    · exact h.gone i (.inl (by simp; omega))
  · intro i blk' hi hdd
    by_cases hl : i < H.length
    · rw [List.getElem?_append_left hl] at hi
      obtain ⟨b', sz', h1, h2, h3⟩ := h.live i blk' hi hdd
      have hne : b' ≠ b := fun e => hfree i sz' (by rw [← e]; exact h1)
      refine ⟨b', sz', by simp only [Sh.adopt]; rw [if_neg (by omega)]; exact h1, h2, ?_⟩
      have hh : (Sh.adopt c b sz o).w.heap[b']? = c.w.heap[b']? := setB_other hne
      exact h3.move hh hsub
    · have he : i = H.length := by
        have := (List.getElem?_eq_some_iff.1 hi).1; simp at this; omega
      subst he
      simp at hi
      subst hi
      exact ⟨b, sz, by simp [Sh.adopt, hN], hX, hnew⟩
  · intro i i' b0 s s' e e'
    simp only [Sh.adopt] at e e'
    split at e <;> split at e'
    · omega
    · cases e; exact absurd e' (hfree i' s')
    · cases e'; exact absurd e (hfree i s)
    · exact h.inj i i' b0 s s' e e'

/-- A block of one's own is turned and gets a new name. -/
theorem Stp.regrown {c : Cx} {H : List Blk} (h : RH c H) {id b sz : Nat} (hρ : c.ρ id = some (b, sz)) (o : Obj) : Stp c (Sh.adopt (Sh.without c id) b sz o) where
  os := rfl
  tape := rfl
  output := rfl
  drawn := Nat.le_refl _
  size := by simp [Sh.adopt, Sh.without]
  keep := fun i hi hn => setB_other (fun e => hn id sz (by rw [e]; exact hρ))
  X := fun _ _ => ⟨fun h => h, fun _ h => h⟩
  N := by simp [Sh.adopt, Sh.without]
  ρ := fun i hi => by
    have h1 : ¬ i = c.N := by omega
    by_cases h2 : i = id
    · right; simp [Sh.adopt, Sh.without, h2]; intro h3; omega
    · left; simp [Sh.adopt, Sh.without, h1, h2]
  own := fun i b' s e => by
    by_cases h1 : i = c.N
    · simp [Sh.adopt, Sh.without, h1] at e
      exact .inr ⟨id, sz, by rw [hρ, e.1]⟩
    · by_cases h2 : i = id
      · exfalso
        subst h2
        simp [Sh.adopt, Sh.without, h1] at e
      · simp [Sh.adopt, Sh.without, h1, h2] at e
        exact .inr ⟨i, s, e⟩

theorem take_len {α : Type} {l : List α} {off len : Nat} (h : off + len ≤ l.length) : ((l.drop off).take len).length = len := by simp; omega


theorem ok_app {o : Oper} {ca : Call} {x y : Operand} {x' y' : A} {t t' e e' : TypeId} {k by' : Nat} {z : List V} (hop : o.op = .call ca) (hc : ca.callee = .builtin .append) (ha : ca.args = #[x, y]) (ht : ca.argTypes = #[t, t']) (hx' : lowA x = some x')
    (hy' : lowA y = some y') (hu : P.underlying t = some (.slice e)) (hu' : P.underlying t' = some (.slice e')) (hsz : szOf P e = some k) (hby : bytesI P e = some by') (hz : zeroI P e = some z) (hzk : z.length = k) :
    OpOK P o (.app k by' x' y') := by
  intro rd n a c E H K nx Q hE hH hs hk
  have hx := evA hE hx'
  have hy := evA hE hy'
  simp only [stepI, appI] at hs
  obtain ⟨h0, hb1, ys, hsh, hys, hs⟩ := hs
  have hyk : ∀ r ∈ ys, r.length = k := fun r hr => (hys r hr).1
  obtain ⟨ad, q, news, hyu, hfc, hnl, hRA⟩ := shown_R (P := P) hH hy hsh hyk
  obtain ⟨hHd, hSd⟩ := hH.drew
  have hsubd := hSd.sub hH
  obtain ⟨ad2, q2, news2, hyu2, hfc2, hnl2, hRA2⟩ := shown_R (P := P) hHd (hy.mono hsubd) hsh hyk
  rw [hyu] at hyu2
  simp only [Value.slice.injEq, true_and] at hyu2
  obtain ⟨rfl, rfl⟩ := hyu2
  obtain ⟨cs, hex⟩ := run_builtin2 (a := a) hop hc ha
  have hrun : ∀ (v : Value) (w' : World), (Builtin.append_ #[t, t'] o.type #[a.eval x, a.eval y]).run P c.w = .ok v w' → (execOp a.eval o).run P c.w = .ok (.value v) w' := by
    intro v w' h
    rw [hex, ht]
    simp [builtin, h]
  have hone := hRA.one hys h0 hnl
  have noop : ∀ v, R c v (a.eval x) → (∃ base sLen sCap, a.eval x = .slice base sLen sCap ∧ sLen ≤ sCap) → ys = [] → K v H → o.wpIn (fnc rd) n P a c.w nx Q := by
    rintro v hv ⟨base, sLen, sCap, hxe, hle⟩ hy0 hK
    subst hy0
    have hnil : news = [] := by apply List.eq_nil_of_length_eq_zero; simpa using hnl
    subst hnil
    refine wpIn_value (by simp [hop]) (hrun _ _ (by rw [hxe, hyu]; exact run_app_in (w' := c.w) hu hu' hsz (by simpa using hle) (by rw [← hyu]; exact hfc) (fun a _ => by simp [storeCells]) (fun _ => rfl))) ?_
    refine hk v H c _ hK hH ?_ (Stp.refl c)
    rw [hxe] at hv
    simpa using hv
  have grown : ∀ (base : Option Addr) (sLen sCap : Nat) (rows0 : List (List V)) (old : List Value), a.eval x = .slice base sLen sCap → sCap < sLen + ys.length → sLen + ys.length ≤ 1000000 → rows0.length = sLen →
      (∀ r ∈ rows0, r.length = k ∧ r.all V.one = true) → old.length = sLen * k → RowsAs { c with w := c.w.drew } k rows0 old → (Builtin.firstCells k sLen (.slice base sLen sCap)).run P c.w.drew = .ok old.toArray c.w.drew →
      ∃ cap' cells, sLen + ys.length ≤ cap' ∧ (execOp a.eval o).run P c.w = .ok (.value (.slice (some ⟨c.w.heap.size, 0, none⟩) (sLen + ys.length) cap')) (c.w.drew.alloc (.cells cells e)) ∧ cells.size = cap' * k ∧
        CellsAs { c with w := c.w.drew } k (rows0 ++ ys) cells 0 := by
    intro base sLen sCap rows0 old hxe hlt hsm hr0 hrk hol hRO hfo
    obtain ⟨cap', rest, hcap, hrest, hr⟩ := run_app_grow (P := P) (t := t) (t' := t') (ty := o.type) (ad := ad) (q := q) (n := ys.length) (old := old.toArray) (new := news2.toArray) (base := base) (sLen := sLen) (sCap := sCap) (w := c.w) hu hu' hsz hby hz hlt hsm hb1 hfo
      (by rw [← hyu]; exact hfc2)
    refine ⟨cap', old.toArray ++ (news2.toArray ++ rest), hcap, hrun _ _ (by rw [hxe, hyu]; exact hr), ?_, ?_⟩
    · simp only [Array.size_append, List.size_toArray, hol, hnl2, hrest, hzk]
      rw [← Nat.add_mul, ← Nat.add_mul]
      congr 1
      omega
    · have happ := hRO.append hRA2 (fun r hr => (hrk r hr).1) (by rw [hol, hr0])
      intro i row j v u h1 h2 h3
      refine happ i row j v u h1 h2 ?_
      have hil := (List.getElem?_eq_some_iff.1 h1).1
      have hjk : j < k := by
        have hm := List.mem_of_getElem? h1
        have hrl : row.length = k := by
          rcases List.mem_append.1 hm with h | h
          · exact (hrk _ h).1
          · exact hyk _ h
        rw [← hrl]
        exact (List.getElem?_eq_some_iff.1 h2).1
      have : (i + 1) * k ≤ (rows0 ++ ys).length * k := Nat.mul_le_mul_right _ hil
      rw [Nat.add_mul] at this
      simp only [List.length_append, Nat.add_mul] at this
      have hlt2 : i * k + j < (old ++ news2).length := by simp only [List.length_append, hol, hnl2, ← hr0]; omega
      have e3 : old.toArray ++ (news2.toArray ++ rest) = (old ++ news2).toArray ++ rest := by
        apply Array.toList_inj.1; simp only [Array.toList_append, List.append_assoc]
      rw [Nat.zero_add, e3, Array.getElem?_append_left (by rw [List.size_toArray]; exact hlt2)] at h3
      simpa using h3
  -- the four ways
  split at hs
  · rename_i he
    rw [he] at hx
    have hxe : a.eval x = .slice none 0 0 := by
      generalize a.eval x = u at hx
      cases hx; rfl
    by_cases hy0 : ys = []
    · exact noop .nsl (by rw [hxe]; exact .nsl) ⟨none, 0, 0, hxe, Nat.le_refl _⟩ hy0 (hs.1 hy0)
    · obtain ⟨hsm, hK⟩ := hs.2 hy0
      have hpos : 0 < ys.length := List.length_pos_iff.2 hy0
      obtain ⟨cap', cells, h1, h2, h3, h4⟩ := grown none 0 0 [] [] hxe (by omega) (by omega) rfl (by simp) (by simp) (fun i row j v u h => by simp at h) (by simp [Builtin.firstCells])
      rw [List.nil_append] at h4
      rw [Nat.zero_add] at h1 h2
      obtain ⟨k1, k2⟩ := hHd.allocRow (k := k) (rows := ys) (cells := cells) (e := e) hyk (by rw [h3]; exact Nat.mul_le_mul_right _ h1) (fun r hr => by have := (hys r hr).2; simpa using this) h4
      exact wpIn_value (by simp [hop]) h2 (hk _ _ _ _ hK k1 (R_newSl hHd h1 h1 (by simp) (by rw [h3]; exact Nat.le_refl _)) (hSd.trans k2))
  · rename_i id k' off len cap ex he
    rw [he] at hx
    obtain ⟨rfl, hsm, rows, hb, hol, hs⟩ := hs
    obtain ⟨b, sz, hρ, hX, cells, el, g1, g2, g3, g4, g5, g6⟩ := hH.live id _ hb (by simp)
    generalize hxe : a.eval x = u at hx
    cases hx with
    | rsl _ _ _ _ _ _ ad0 qx hid hsp hlq hcq hexq hp =>
      obtain ⟨p1, p2⟩ := hp b sz hρ
      have hold : ∃ old : List Value, old.length = len * k' ∧ RowsAs { c with w := c.w.drew } k' ((rows.drop off).take len) old ∧ (Builtin.firstCells k' len (.slice (some ad0) len qx)).run P c.w.drew = .ok old.toArray c.w.drew := by
        have hR0 : R { c with w := c.w.drew } (.rsl id k' off len cap ex) (.slice (some ad0) len qx) := (R.rsl (c := c) id k' off len cap ex ad0 qx hid hsp hlq hcq hexq hp).mono hsubd
        obtain ⟨ad', q', news', e1, e2, e3, e4⟩ := shown_R (P := P) hHd hR0 (ys := (rows.drop off).take len) (k := k') (by simp [shown, hb, hol]) (fun r hr => g3 r (List.mem_of_mem_drop (List.mem_of_mem_take hr)))
        rw [take_len hol] at e1 e2 e3
        exact ⟨news', e3, e4, e2⟩
      obtain ⟨old, ho1, ho2, ho3⟩ := hold
      have inplace : len + ys.length ≤ qx → 0 < ys.length → ∃ w', (execOp a.eval o).run P c.w = .ok (.value (.slice (some ad0) (len + ys.length) qx)) w' ∧ w' = setB c.w b (.cells (putCells cells ((off + len) * k') news) el (0, 0)) := by
        intro hle hpos
        refine ⟨_, hrun _ _ ?_, rfl⟩
        rw [hxe, hyu]
        refine run_app_in hu hu' hsz hle (by rw [← hyu]; exact hfc) (fun a ha => ?_) (fun h => by cases h)
        cases ha
        rw [p1 (by omega), Addr.add_mk, ← Nat.add_mul]
        have hle2 : (off + len + ys.length) * k' ≤ (off + qx) * k' := Nat.mul_le_mul_right _ (by omega)
        rw [Nat.add_mul (off + len)] at hle2
        exact run_storeCells news 0 c.w cells g1 (by rw [hnl]; omega) hone
      rcases hs with ⟨c1, c2, hK⟩ | ⟨rfl, c2, hK⟩ | ⟨rfl, rfl, hK⟩
      · -- in place, over cells that are there
        by_cases hy0 : ys = []
        · subst hy0
          have hsame : H.set id (.row k' (rows.take (off + len) ++ [] ++ rows.drop (off + len + 0))) = H := by
            simp
            apply List.ext_getElem?
            intro i
            rw [List.getElem?_set]
            split
            · rename_i h; subst h
              split
              · exact hb.symm
              · rename_i h; rw [List.getElem?_eq_none (by omega)]
            · rfl
          simp only [List.length_nil, Nat.add_zero] at hK hsame
          rw [hsame] at hK
          exact noop _ (by rw [hxe]; exact .rsl _ _ _ _ _ _ _ _ hid hsp hlq hcq hexq hp) ⟨_, _, _, hxe, hlq⟩ rfl hK
        · have hpos : 0 < ys.length := List.length_pos_iff.2 hy0
          obtain ⟨w', hr, rfl⟩ := inplace (by omega) hpos
          have hle2 : (off + len + ys.length) * k' ≤ rows.length * k' := Nat.mul_le_mul_right _ c2
          rw [Nat.add_mul (off + len)] at hle2
          have hturn := hH.turned (o := .cells (putCells cells ((off + len) * k') news) el (0, 0)) (blk' := .row k' (rows.take (off + len) ++ ys ++ rows.drop (off + len + ys.length))) hb (by simp) hρ (by simp)
          have hsub : Sub c { c with w := setB c.w b (.cells (putCells cells ((off + len) * k') news) el (0, 0)) } :=
            ⟨fun i hi hx => ⟨setB_other (fun e => hx (e ▸ hX)), hx⟩, Nat.le_refl _, fun _ _ => .inl rfl⟩
          have hmem : ∀ r ∈ rows.take (off + len) ++ ys ++ rows.drop (off + len + ys.length), r ∈ rows ∨ r ∈ ys := by
            intro r hr
            simp only [List.mem_append] at hr
            rcases hr with (hr | hr) | hr
            · exact .inl (List.mem_of_mem_take hr)
            · exact .inr hr
            · exact .inl (List.mem_of_mem_drop hr)
          obtain ⟨t1, t2⟩ := hturn ⟨_, el, setB_same (lt_of_get g1), by simpa using g2, (fun r hr => by
              rcases hmem r hr with h | h
              · exact g3 r h
              · exact hyk r h), (by
              have : (rows.take (off + len) ++ ys ++ rows.drop (off + len + ys.length)).length = rows.length := by simp; omega
              rw [this]; exact g4), (fun r hr => by
              rcases hmem r hr with h | h
              · exact g5 r h
              · have := (hys r h).2; simpa using this), (by
              intro i row j v u h1 h2 h3
              have hjk : j < k' := by
                have hm := hmem row (List.mem_of_getElem? h1)
                have hrl : row.length = k' := by
                  rcases hm with h | h
                  · exact g3 row h
                  · exact hyk row h
                rw [← hrl]; exact (List.getElem?_eq_some_iff.1 h2).1
              rw [Nat.zero_add, putCells_get _ _ _ _ (by rw [hnl]; omega), hnl] at h3
              rcases Nat.lt_or_ge i (off + len) with hi | hi
              · have hm1 : (i + 1) * k' ≤ (off + len) * k' := Nat.mul_le_mul_right _ hi
                rw [Nat.add_mul] at hm1
                rw [if_neg (by omega)] at h3
                rw [List.append_assoc, List.getElem?_append_left (by simp; omega), List.getElem?_take, if_pos hi] at h1
                exact (g6 i row j v u h1 h2 (by simpa using h3)).mono hsub
              · rcases Nat.lt_or_ge i (off + len + ys.length) with hi2 | hi2
                · have hm1 : (off + len) * k' ≤ i * k' := Nat.mul_le_mul_right _ hi
                  have hm2 : (i + 1) * k' ≤ (off + len + ys.length) * k' := Nat.mul_le_mul_right _ hi2
                  rw [Nat.add_mul, Nat.add_mul (off + len)] at hm2
                  rw [if_pos (by omega)] at h3
                  rw [List.append_assoc, List.getElem?_append_right (by simp; omega)] at h1
                  simp only [List.length_take, Nat.min_eq_left (show off + len ≤ rows.length by omega)] at h1
                  rw [List.getElem?_append_left (by omega)] at h1
                  refine (hRA (i - (off + len)) row j v u h1 h2 ?_).mono hsub
                  rw [Nat.sub_mul, show i * k' - (off + len) * k' + j = i * k' + j - (off + len) * k' by omega]
                  exact h3
                · have hm1 : (off + len + ys.length) * k' ≤ i * k' := Nat.mul_le_mul_right _ hi2
                  rw [Nat.add_mul (off + len)] at hm1
                  rw [if_neg (by omega)] at h3
                  rw [List.append_assoc, List.getElem?_append_right (by simp; omega)] at h1
                  simp only [List.length_take, Nat.min_eq_left (show off + len ≤ rows.length by omega)] at h1
                  rw [List.getElem?_append_right (by omega), List.getElem?_drop] at h1
                  rw [show off + len + ys.length + (i - (off + len) - ys.length) = i by omega] at h1
                  exact (g6 i row j v u h1 h2 (by simpa using h3)).mono hsub)⟩
          refine wpIn_value (by simp [hop]) hr (hk _ _ _ _ hK t1 ?_ t2)
          exact .rsl _ _ _ _ _ _ _ _ hid hsp (by omega) hcq hexq hp
      · -- anew, for sure
        have hq := hexq rfl
        obtain ⟨cap', cells', h1, h2, h3, h4⟩ := grown (some ad0) len qx ((rows.drop off).take len) old hxe (by omega) hsm (take_len hol) (fun r hr => by
          have hm := List.mem_of_mem_drop (List.mem_of_mem_take hr)
          exact ⟨g3 r hm, by simpa using g5 r hm⟩) ho1 ho2 ho3
        obtain ⟨k1, k2⟩ := hHd.allocRow (k := k') (rows := (rows.drop off).take len ++ ys) (cells := cells') (e := e) (fun r hr => by
          rcases List.mem_append.1 hr with h | h
          · exact g3 r (List.mem_of_mem_drop (List.mem_of_mem_take h))
          · exact hyk r h) (by rw [h3]; apply Nat.mul_le_mul_right; simp only [List.length_append, take_len hol]; exact h1) (fun r hr => by
          rcases List.mem_append.1 hr with h | h
          · exact g5 r (List.mem_of_mem_drop (List.mem_of_mem_take h))
          · have := (hys r h).2; simpa using this) h4
        exact wpIn_value (by simp [hop]) h2 (hk _ _ _ _ hK k1 (R_newSl hHd h1 h1 (by simp) (by rw [h3]; exact Nat.le_refl _)) (hSd.trans k2))
      · -- at the end of the row: in place, or anew
        have hrows : (rows.drop 0).take rows.length = rows := by simp
        rw [hrows] at ho2
        have hfree : ∀ i s, (Sh.without c id).ρ i ≠ some (b, s) := by
          intro i s e
          simp only [Sh.without] at e
          split at e
          · cases e
          · rename_i hne
            exact hne (hH.inj i id b s sz e hρ)
        by_cases hin : rows.length + ys.length ≤ qx
        · have hle2 : (rows.length + ys.length) * k' ≤ (0 + qx) * k' := Nat.mul_le_mul_right _ (by omega)
          have hle3 : (rows.length + ys.length) * k' = rows.length * k' + ys.length * k' := Nat.add_mul _ _ _
          have hr : (execOp a.eval o).run P c.w = .ok (.value (.slice (some ad0) (rows.length + ys.length) qx)) (setB c.w b (.cells (putCells cells (rows.length * k') news) el (0, 0))) := by
            by_cases hy0 : ys = []
            · subst hy0
              have hnil : news = [] := by apply List.eq_nil_of_length_eq_zero; simpa using hnl
              subst hnil
              have hid' : setB c.w b (.cells (putCells cells (rows.length * k') []) el (0, 0)) = c.w := by
                have := run_storeCells (P := P) (b := b) (o := rows.length * k') (e := el) [] 0 c.w cells g1 (by simp; omega) (by simp)
                simp only [storeCells, Sem.run_pure, Nat.add_zero, Result.ok.injEq, true_and] at this
                exact this.symm
              rw [hid']
              refine hrun _ _ ?_
              rw [hxe, hyu]
              exact run_app_in (w' := c.w) hu hu' hsz hin (by rw [← hyu]; exact hfc) (fun a _ => by simp [storeCells]) (fun _ => rfl)
            · have hpos : 0 < ys.length := List.length_pos_iff.2 hy0
              obtain ⟨w', hr, rfl⟩ := inplace hin hpos
              rw [Nat.zero_add] at hr
              exact hr
          have hRH := (hH.without id).adopt (sz := sz) (o := .cells (putCells cells (rows.length * k') news) el (0, 0)) (blk := .row k' (rows ++ ys)) hX hfree (by simp)
          have hst := Stp.regrown hH hρ (.cells (putCells cells (rows.length * k') news) el (0, 0))
          have hsub := hst.sub hH
          have hRH' := hRH ⟨_, el, setB_same (lt_of_get g1), by simpa using g2, (fun r hr => by
              rcases List.mem_append.1 hr with h | h
              · exact g3 r h
              · exact hyk r h), (by rw [List.length_append]; omega), (fun r hr => by
              rcases List.mem_append.1 hr with h | h
              · exact g5 r h
              · have := (hys r h).2; simpa using this), (by
              intro i row j v u h1 h2 h3
              have hjk : j < k' := by
                have hrl : row.length = k' := by
                  rcases List.mem_append.1 (List.mem_of_getElem? h1) with h | h
                  · exact g3 row h
                  · exact hyk row h
                rw [← hrl]; exact (List.getElem?_eq_some_iff.1 h2).1
              rw [Nat.zero_add, putCells_get _ _ _ _ (by rw [hnl]; omega), hnl] at h3
              rcases Nat.lt_or_ge i rows.length with hi | hi
              · have hm1 : (i + 1) * k' ≤ rows.length * k' := Nat.mul_le_mul_right _ hi
                rw [Nat.add_mul] at hm1
                rw [if_neg (by omega)] at h3
                rw [List.getElem?_append_left hi] at h1
                exact (g6 i row j v u h1 h2 (by simpa using h3)).mono hsub
              · have hil := (List.getElem?_eq_some_iff.1 h1).1
                rw [List.length_append] at hil
                have hm1 : rows.length * k' ≤ i * k' := Nat.mul_le_mul_right _ hi
                have hm2 : (i + 1) * k' ≤ (rows.length + ys.length) * k' := Nat.mul_le_mul_right _ hil
                rw [Nat.add_mul] at hm2
                rw [if_pos (by omega)] at h3
                rw [List.getElem?_append_right hi] at h1
                refine (hRA (i - rows.length) row j v u h1 h2 ?_).mono hsub
                rw [Nat.sub_mul, show i * k' - rows.length * k' + j = i * k' + j - rows.length * k' by omega]
                exact h3)⟩
          refine wpIn_value (by simp [hop]) hr (hk _ _ _ _ hK hRH' ?_ hst)
          refine .rsl _ _ _ _ _ _ _ _ (by simp [Sh.adopt, Sh.without, hH.N]) hsp hin hin (by simp) fun b' sz' hρ' => ?_
          simp [Sh.adopt, Sh.without, hH.N] at hρ'
          rw [← hρ'.1, ← hρ'.2]
          exact ⟨p1, p2⟩
        · obtain ⟨cap', cells', h1, h2, h3, h4⟩ := grown (some ad0) rows.length qx rows old hxe (by omega) hsm rfl (fun r hr => ⟨g3 r hr, by simpa using g5 r hr⟩) ho1 ho2 ho3
          have hHw := hHd.without id
          obtain ⟨k1, k2⟩ := hHw.allocRow (k := k') (rows := rows ++ ys) (cells := cells') (e := e) (fun r hr => by
            rcases List.mem_append.1 hr with h | h
            · exact g3 r h
            · exact hyk r h) (by rw [h3]; apply Nat.mul_le_mul_right; simp only [List.length_append]; exact h1) (fun r hr => by
            rcases List.mem_append.1 hr with h | h
            · exact g5 r h
            · have := (hys r h).2; simpa using this) (h4.mono (Sub.without id))
          have hlen : (H.set id .dead).length = H.length := by simp
          have hnew := R_newSl (k := k') hHw (o := .cells cells' e) (sz := cells'.size) (len := rows.length + ys.length) (cap := rows.length + ys.length) (q := cap') (ex := false) h1 h1 (by simp) (by rw [h3]; exact Nat.le_refl _)
          rw [hlen] at hnew
          exact wpIn_value (by simp [hop]) h2 (hk _ _ _ _ hK k1 hnew ((hSd.trans (Stp.without id)).trans k2))
  · rename_i he
    rw [he] at hx
    generalize hxe : a.eval x = u at hx
    cases hx with
    | fs0 ad0 =>
      by_cases hy0 : ys = []
      · exact noop .fs0 (by rw [hxe]; exact .fs0 _) ⟨_, 0, 0, hxe, Nat.le_refl _⟩ hy0 (hs.1 hy0)
      · obtain ⟨hsm, hK⟩ := hs.2 hy0
        have hpos : 0 < ys.length := List.length_pos_iff.2 hy0
        obtain ⟨cap', cells, h1, h2, h3, h4⟩ := grown ad0 0 0 [] [] hxe (by omega) (by omega) rfl (by simp) (by simp) (fun i row j v u h => by simp at h) (by cases ad0 <;> simp [Builtin.firstCells, loadCells, loadCellsFrom])
        rw [List.nil_append] at h4
        rw [Nat.zero_add] at h1 h2
        obtain ⟨k1, k2⟩ := hHd.allocRow (k := k) (rows := ys) (cells := cells) (e := e) hyk (by rw [h3]; exact Nat.mul_le_mul_right _ h1) (fun r hr => by have := (hys r hr).2; simpa using this) h4
        exact wpIn_value (by simp [hop]) h2 (hk _ _ _ _ hK k1 (R_newSl hHd h1 h1 (by simp) (by rw [h3]; exact Nat.le_refl _)) (hSd.trans k2))
  · rename_i rows he
    rw [he] at hx
    obtain ⟨hy0, hK⟩ := hs
    refine noop _ hx ?_ hy0 hK
    generalize a.eval x = u at hx
    cases hx with
    | fsl0 a q _ => exact ⟨_, _, _, rfl, by simp⟩
    | fsl _ a o k cap cells e fz g1 g2 g3 g4 g5 gp g6 => exact ⟨_, _, _, rfl, g5⟩
  · exact hs.elim
end Go.Sh
end
section
namespace Go.Sh
open Go.RowKit
set_option linter.unusedVariables false
set_option linter.unusedSimpArgs false

variable {P : Program}

theorem sclTag_cases {t : TypeId} {tg : Nat} (h : sclTag P t = some tg) : (tg = 0 ∧ ∃ k, P.underlying t = some (.int k)) ∨ (tg = 1 ∧ P.underlying t = some .bool) ∨ (tg = 2 ∧ P.underlying t = some .string) := by
  unfold sclTag at h
  split at h
  · rename_i k hu; cases h; exact .inl ⟨rfl, k, hu⟩
  · rename_i hu; cases h; exact .inr (.inl ⟨rfl, hu⟩)
  · rename_i hu; cases h; exact .inr (.inr ⟨rfl, hu⟩)
  · cases h

theorem sclTag_agg {t : TypeId} {tg : Nat} (h : sclTag P t = some tg) : aggI P t = some false := by
  rcases sclTag_cases h with ⟨_, k, hu⟩ | ⟨_, hu⟩ | ⟨_, hu⟩ <;> simp [aggI, hu]

theorem part_scl {t : TypeId} {us : List Value} {j : Nat} {u : Value} {w : World} (ha : aggI P t = some false) (h : us[j]? = some u) : (part t us.toArray j).run P w = .ok u w := by
  simp [part, run_isAgg ha, h]

/-- A scalar is a key that may be; and it stays. -/
theorem eq1_scl {c : Cx} {tg : Nat} {x y : V} {u : Value} {r : Bool} (hx : R c x u) (h : eq1 tg x y = some r) :
    (tg = 0 ∧ ∃ k n, u = .int k n) ∨ (tg = 1 ∧ ∃ b, u = .bool b) ∨ (tg = 2 ∧ ∃ s, u = .string s) := by
  unfold eq1 at h
  split at h
  · split at h
    · exact .inl ⟨rfl, _, _, hx.int_inv⟩
    · cases h
  · split at h
    · exact .inr (.inl ⟨rfl, _, hx.bool_inv⟩)
    · cases h
  · split at h
    · exact .inr (.inr ⟨rfl, _, hx.str_inv⟩)
    · cases h
  · cases h

theorem toList_bytes {a b : ByteArray} (h : (a.toList == b.toList) = true) : a = b := by
  rw [← beq_toListBytes] at h
  obtain ⟨⟨a⟩⟩ := a
  obtain ⟨⟨b⟩⟩ := b
  have : ((⟨a⟩ : Array UInt8) == ⟨b⟩) = true := h
  simp at this
  rw [this]

theorem eq1_same {c : Cx} {tg : Nat} {x y : V} {u v : Value} (hx : R c x u) (hy : R c y v) (h : eq1 tg x y = some true) : u = v := by
  unfold eq1 at h
  split at h
  · split at h
    · split at h
      · rename_i he; subst he
        simp at h
        rw [hx.int_inv, hy.int_inv, h]
      · cases h
    · cases h
  · split at h
    · simp at h
      rw [hx.bool_inv, hy.bool_inv, h]
    · cases h
  · split at h
    · simp only [Option.some.injEq] at h
      rw [hx.str_inv, hy.str_inv, toList_bytes h]
    · cases h
  · cases h

theorem bits_scl {tg : Nat} {u : Value} (h : (tg = 0 ∧ ∃ k n, u = .int k n) ∨ (tg = 1 ∧ ∃ b, u = .bool b) ∨ (tg = 2 ∧ ∃ s, u = .string s)) (n : Nat) : Instr.sameBits n u u = true := by
  rcases h with ⟨_, k, m, rfl⟩ | ⟨_, b, rfl⟩ | ⟨_, s, rfl⟩ <;> cases n <;> simp [Instr.sameBits]
  all_goals (rw [beq_toListBytes]; simp)

theorem check_scl {t : TypeId} {tg : Nat} {u : Value} {w : World} (ht : sclTag P t = some tg) (h : (tg = 0 ∧ ∃ k n, u = .int k n) ∨ (tg = 1 ∧ ∃ b, u = .bool b) ∨ (tg = 2 ∧ ∃ s, u = .string s)) (em : Bool) (n : Nat) :
    (Instr.checkKey em (n + 1) t u).run P w = .ok () w := by
  rcases sclTag_cases ht with ⟨rfl, k, hu⟩ | ⟨rfl, hu⟩ | ⟨rfl, hu⟩ <;> rcases h with ⟨e, k', m, rfl⟩ | ⟨e, b, rfl⟩ | ⟨e, s, rfl⟩ <;> first | cases e | skip
  all_goals simp [Instr.checkKey, run_underlying hu]

/-! ### aggregates of scalars -/
/-- A list of cells of these kinds. -/
def Scls (us : List Value) (tgs : List Nat) : Prop := us.length = tgs.length ∧ ∀ (j : Nat) (tg : Nat) (u : Value), tgs[j]? = some tg → us[j]? = some u → (tg = 0 ∧ ∃ k n, u = .int k n) ∨ (tg = 1 ∧ ∃ b, u = .bool b) ∨ (tg = 2 ∧ ∃ s, u = .string s)

theorem eqC_scls {c : Cx} : ∀ {tgs : List Nat} {xs ys : List V} {us : List Value} {r : Bool}, RL c xs us → eqC tgs xs ys = some r → Scls us tgs
  | [], [], [], us, r, hx, h => by
    have := hx.1
    simp at this
    obtain rfl := List.eq_nil_of_length_eq_zero this.symm
    exact ⟨rfl, fun j tg u e => by simp at e⟩
  | t :: ts, x :: xs, y :: ys, us, r, hx, h => by
    cases us with
    | nil => have := hx.1; simp at this
    | cons u us =>
      simp only [eqC] at h
      split at h
      · rename_i a b h1 h2
        have := eqC_scls (c := c) (tgs := ts) (us := us) ⟨by simpa using hx.1, fun j v u e1 e2 => hx.2 (j + 1) v u (by simpa using e1) (by simpa using e2)⟩ h2
        refine ⟨by simpa using this.1, fun j tg u' e1 e2 => ?_⟩
        cases j with
        | zero => simp at e1 e2; subst e1 e2; exact eq1_scl (hx.2 0 x u rfl rfl) h1
        | succ j => exact this.2 j tg u' (by simpa using e1) (by simpa using e2)
      · cases h
  | [], _ :: _, _, us, r, hx, h => by simp [eqC] at h
  | [], [], _ :: _, us, r, hx, h => by simp [eqC] at h
  | _ :: _, [], _, us, r, hx, h => by simp [eqC] at h
  | _ :: _, _ :: _, [], us, r, hx, h => by simp [eqC] at h

theorem eqC_same {c : Cx} : ∀ {tgs : List Nat} {xs ys : List V} {us vs : List Value}, RL c xs us → RL c ys vs → eqC tgs xs ys = some true → us = vs
  | [], [], [], us, vs, hx, hy, h => by
    rw [List.eq_nil_of_length_eq_zero (l := us) (by simpa using hx.1.symm), List.eq_nil_of_length_eq_zero (l := vs) (by simpa using hy.1.symm)]
  | t :: ts, x :: xs, y :: ys, us, vs, hx, hy, h => by
    cases us with
    | nil => have := hx.1; simp at this
    | cons u us =>
      cases vs with
      | nil => have := hy.1; simp at this
      | cons v vs =>
        simp only [eqC] at h
        split at h
        · rename_i a b h1 h2
          simp at h
          obtain ⟨rfl, rfl⟩ := h
          rw [eq1_same (hx.2 0 x u rfl rfl) (hy.2 0 y v rfl rfl) h1,
            eqC_same (c := c) (tgs := ts) (us := us) (vs := vs) ⟨by simpa using hx.1, fun j v u e1 e2 => hx.2 (j + 1) v u (by simpa using e1) (by simpa using e2)⟩ ⟨by simpa using hy.1, fun j v u e1 e2 => hy.2 (j + 1) v u (by simpa using e1) (by simpa using e2)⟩ h2]
        · cases h
  | [], _ :: _, _, us, vs, hx, hy, h => by simp [eqC] at h
  | [], [], _ :: _, us, vs, hx, hy, h => by simp [eqC] at h
  | _ :: _, [], _, us, vs, hx, hy, h => by simp [eqC] at h
  | _ :: _, _ :: _, [], us, vs, hx, hy, h => by simp [eqC] at h

theorem bits_agg {us : List Value} {tgs : List Nat} (h : Scls us tgs) (n : Nat) : Instr.sameBits (n + 1) (.agg us.toArray) (.agg us.toArray) = true := by
  simp only [Instr.sameBits, BEq.rfl, Bool.true_and, List.all_eq_true]
  rintro ⟨a, b⟩ hm
  obtain ⟨j, hj⟩ := List.getElem?_of_mem hm
  rw [List.getElem?_zip_eq_some] at hj
  obtain ⟨e1, e2⟩ := hj
  simp only at e1 e2
  rw [e1] at e2
  cases e2
  have hlt : j < tgs.length := by rw [← h.1]; exact (List.getElem?_eq_some_iff.1 e1).1
  exact bits_scl (h.2 j tgs[j] a (by simp [hlt]) (by simpa using e1)) n

/-- The places of the cells of a key. -/
theorem fieldTags_each : ∀ {fs : List Field} {o : Nat} {tgs : List Nat}, fieldTags P fs o = some tgs → tgs.length = fs.length ∧
    ∀ (j : Nat) (f : Field), fs[j]? = some f → f.name ≠ "_" ∧ f.offset = o + j ∧ ∃ tg, tgs[j]? = some tg ∧ sclTag P f.type = some tg
  | [], o, tgs, h => by cases h; exact ⟨rfl, fun j f e => by simp at e⟩
  | f :: fs, o, tgs, h => by
    simp only [fieldTags] at h
    split at h
    · rename_i t l h1 h2
      split at h
      · cases h
      · rename_i hn
        cases h
        obtain ⟨g1, g2⟩ := fieldTags_each h2
        refine ⟨by simp [g1], fun j f' e => ?_⟩
        cases j with
        | zero => simp at e; subst e; exact ⟨fun e => hn (.inl e), by simpa using Decidable.byContradiction fun e => hn (.inr e), t, rfl, h1⟩
        | succ j =>
          obtain ⟨k1, k2, tg, k3, k4⟩ := g2 j f' (by simpa using e)
          exact ⟨k1, by omega, tg, by simpa using k3, k4⟩
    · cases h

theorem eqFields_run {c : Cx} {d : Nat} {w : World} {us vs : List Value} {X Y : List V} (hX : RL c X us) (hY : RL c Y vs) : ∀ (fs : List Field) (o : Nat) (tgs : List Nat) (r : Bool), fieldTags P fs o = some tgs → eqC tgs (X.drop o) (Y.drop o) = some r →
    (Op.eqFields (d + 1) us.toArray vs.toArray fs).run P w = .ok r w
  | [], o, tgs, r, h, he => by
    cases h
    have : r = true := by
      revert he
      cases X.drop o <;> cases Y.drop o <;> simp [eqC]
    subst this
    simp [Op.eqFields]
  | f :: fs, o, tgs, r, h, he => by
    simp only [fieldTags] at h
    split at h
    · rename_i t l h1 h2
      split at h
      · cases h
      · rename_i hn
        cases h
        cases hx : X.drop o with
        | nil => rw [hx] at he; simp [eqC] at he
        | cons x xs =>
          cases hy : Y.drop o with
          | nil => rw [hx, hy] at he; simp [eqC] at he
          | cons y ys =>
            rw [hx, hy] at he
            simp only [eqC] at he
            split at he
            · rename_i a b e1 e2
              cases he
              have ex : X[o]? = some x := by have := List.getElem?_drop (xs := X) (i := o) (j := 0); rw [hx] at this; simpa using this.symm
              have ey : Y[o]? = some y := by have := List.getElem?_drop (xs := Y) (i := o) (j := 0); rw [hy] at this; simpa using this.symm
              have exs : X.drop (o + 1) = xs := by rw [← List.drop_drop (i := 1), hx]; rfl
              have eys : Y.drop (o + 1) = ys := by rw [← List.drop_drop (i := 1), hy]; rfl
              obtain ⟨u, k1, k2⟩ := hX.get ex
              obtain ⟨v, k3, k4⟩ := hY.get ey
              have hoff : f.offset = o := Decidable.byContradiction fun e => hn (.inr e)
              have hname : f.name ≠ "_" := fun e => hn (.inl e)
              have hrest := eqFields_run (d := d) (w := w) hX hY fs (o + 1) l b h2 (by rw [exs, eys]; exact e2)
              have ha := sclTag_agg h1
              have heq := eq1_run (P := P) d t k2 k4 e1 (sclTag_cases h1) w
              simp only [Op.eqFields, ne_eq, hname, not_false_eq_true, if_true, hoff, Sem.run_bind, part_scl ha k1, part_scl ha k3, Result.andThen_ok, heq]
              cases a with
              | false => simp
              | true => simp [hrest]
            · cases he
    · cases h

theorem eqItems_run {c : Cx} {d : Nat} {w : World} {us vs : List Value} {X Y : List V} {e : TypeId} {t : Nat} (hX : RL c X us) (hY : RL c Y vs) (h1 : sclTag P e = some t) : ∀ (n o : Nat) (r : Bool), eqC (List.replicate n t) (X.drop o) (Y.drop o) = some r →
    (Op.eqItems (d + 1) e 1 us.toArray vs.toArray (List.range' o n)).run P w = .ok r w
  | 0, o, r, he => by
    have : r = true := by
      revert he
      cases X.drop o <;> cases Y.drop o <;> simp [eqC]
    subst this
    simp [Op.eqItems]
  | n + 1, o, r, he => by
    rw [List.replicate_succ] at he
    cases hx : X.drop o with
    | nil => rw [hx] at he; simp [eqC] at he
    | cons x xs =>
      cases hy : Y.drop o with
      | nil => rw [hx, hy] at he; simp [eqC] at he
      | cons y ys =>
        rw [hx, hy] at he
        simp only [eqC] at he
        split at he
        · rename_i a b e1 e2
          cases he
          have ex : X[o]? = some x := by have := List.getElem?_drop (xs := X) (i := o) (j := 0); rw [hx] at this; simpa using this.symm
          have ey : Y[o]? = some y := by have := List.getElem?_drop (xs := Y) (i := o) (j := 0); rw [hy] at this; simpa using this.symm
          have exs : X.drop (o + 1) = xs := by rw [← List.drop_drop (i := 1), hx]; rfl
          have eys : Y.drop (o + 1) = ys := by rw [← List.drop_drop (i := 1), hy]; rfl
          obtain ⟨u, k1, k2⟩ := hX.get ex
          obtain ⟨v, k3, k4⟩ := hY.get ey
          have hrest := eqItems_run (d := d) (w := w) hX hY h1 n (o + 1) b (by rw [exs, eys]; exact e2)
          have ha := sclTag_agg h1
          have heq := eq1_run (P := P) d t k2 k4 e1 (sclTag_cases h1) w
          rw [List.range'_succ]
          simp only [Op.eqItems, Sem.run_bind, Nat.mul_one, part_scl ha k1, part_scl ha k3, Result.andThen_ok, heq]
          cases a with
          | false => simp
          | true => simpa using hrest
        · cases he

/-! ### keys -/
theorem keyTag_scl {t : TypeId} {tg : Nat} {tgs : List Nat} (h : keyTag P t = some (tg, tgs)) : (sclTag P t = some tg ∧ tgs = []) ∨ (tg = 3 ∧ ((∃ fs, P.underlying t = some (.struct fs) ∧ P.stoodInHeld t = false ∧ fieldTags P fs.toList 0 = some tgs) ∨
    ∃ n e s i, P.underlying t = some (.array n e) ∧ sclTag P e = some s ∧ P.cellsOf e = 1 ∧ P.info? e = some i ∧ tgs = List.replicate n s)) := by
  unfold keyTag at h
  split at h
  · rename_i fs hu
    split at h
    · cases h
    · rename_i hs
      simp only [Option.map_eq_some_iff, Prod.mk.injEq] at h
      obtain ⟨l, h1, rfl, rfl⟩ := h
      exact .inr ⟨rfl, .inl ⟨fs, hu, by simpa using hs, h1⟩⟩
  · rename_i n e hu
    split at h
    · rename_i s hs
      split at h
      · rename_i hc
        simp at h
        obtain ⟨rfl, rfl⟩ := h
        obtain ⟨i, hi⟩ := Option.isSome_iff_exists.1 hc.2
        exact .inr ⟨rfl, .inr ⟨n, e, s, i, hu, hs, hc.1, hi, rfl⟩⟩
      · cases h
    · cases h
  · simp only [Option.map_eq_some_iff, Prod.mk.injEq] at h
    obtain ⟨t', h1, rfl, rfl⟩ := h
    exact .inl ⟨h1, rfl⟩

theorem eqK_scl {tg : Nat} {tgs : List Nat} {x y : V} (h : tg ≠ 3) : eqK tg tgs x y = eq1 tg x y := by
  unfold eqK
  split
  · exact absurd rfl h
  · rfl

theorem sclTag_ne {t : TypeId} {tg : Nat} (h : sclTag P t = some tg) : tg ≠ 3 := by
  rcases sclTag_cases h with ⟨rfl, _⟩ | ⟨rfl, _⟩ | ⟨rfl, _⟩ <;> decide

theorem eqK_agg {c : Cx} {tgs : List Nat} {x y : V} {r : Bool} (h : eqK 3 tgs x y = some r) : ∃ xs ys, x = .agg xs ∧ y = .agg ys ∧ eqC tgs xs ys = some r := by
  unfold eqK at h
  split at h
  · split at h
    · exact ⟨_, _, rfl, rfl, h⟩
    · cases h
  · contradiction

theorem eqK_run {c : Cx} {t : TypeId} {tg : Nat} {tgs : List Nat} {x y : V} {u v : Value} {r : Bool} {w : World} (ht : keyTag P t = some (tg, tgs)) (hx : R c x u) (hy : R c y v) (h : eqK tg tgs x y = some r) : (Op.equal t u v).run P w = .ok r w := by
  rcases keyTag_scl ht with ⟨hs, _⟩ | ⟨rfl, hs⟩
  · rw [eqK_scl (sclTag_ne hs)] at h
    exact eq1_run (P := P) 9999 tg hx hy h (sclTag_cases hs) w
  · obtain ⟨xs, ys, rfl, rfl, he⟩ := eqK_agg (c := c) h
    obtain ⟨us, rfl, hX⟩ := hx.agg_inv
    obtain ⟨vs, rfl, hY⟩ := hy.agg_inv
    rcases hs with ⟨fs, hu, hst, hf⟩ | ⟨n, e, s, i, hu, hs, h1, hi, rfl⟩
    · have hf' : P.fieldsOf t = fs := by simp [Program.fieldsOf, hu]
      show (Op.equalIn (9999 + 1) t _ _).run P w = _
      rw [run_equalIn_struct w 9999 t _ _ (by rw [hf']; exact hu) hst, hf']
      exact eqFields_run hX hY fs.toList 0 tgs r hf (by simpa using he)
    · show (Op.equalIn (9999 + 1) t _ _).run P w = _
      rw [run_equalIn_array w 9999 _ _ hu hi, h1, List.range_eq_range']
      exact eqItems_run hX hY hs n 0 r (by simpa using he)

theorem eqK_same {c : Cx} {t : TypeId} {tg : Nat} {tgs : List Nat} {x y : V} {u v : Value} (ht : keyTag P t = some (tg, tgs)) (hx : R c x u) (hy : R c y v) (h : eqK tg tgs x y = some true) : Instr.sameBits 10000 u v = true := by
  rcases keyTag_scl ht with ⟨hs, _⟩ | ⟨rfl, hs⟩
  · rw [eqK_scl (sclTag_ne hs)] at h
    obtain rfl := eq1_same hx hy h
    exact bits_scl (eq1_scl hx h) 10000
  · obtain ⟨xs, ys, rfl, rfl, he⟩ := eqK_agg (c := c) h
    obtain ⟨us, rfl, hX⟩ := hx.agg_inv
    obtain ⟨vs, rfl, hY⟩ := hy.agg_inv
    obtain rfl := eqC_same hX hY he
    exact bits_agg (eqC_scls hX he) 9999

theorem check_run {c : Cx} {t : TypeId} {tg : Nat} {tgs : List Nat} {x : V} {u : Value} {r : Bool} (w : World) (ht : keyTag P t = some (tg, tgs)) (hx : R c x u) (h : eqK tg tgs x x = some r) (em : Bool) : (Instr.checkKey em 10000 t u).run P w = .ok () w := by
  rcases keyTag_scl ht with ⟨hs, _⟩ | ⟨rfl, hs⟩
  · rw [eqK_scl (sclTag_ne hs)] at h
    exact check_scl hs (eq1_scl hx h) em 9999
  · obtain ⟨xs, ys, rfl, e, he⟩ := eqK_agg (c := c) h
    cases e
    obtain ⟨us, rfl, hX⟩ := hx.agg_inv
    have hsc := eqC_scls hX he
    show (Instr.checkKey em (9999 + 1) t _).run P w = _
    rw [Instr.checkKey]
    rcases hs with ⟨fs, hu, hst, hf⟩ | ⟨n, e, s, i, hu, hs, h1, hi, rfl⟩
    · simp only [Sem.run_bind, run_underlying hu, Result.andThen_ok]
      rw [← Array.forIn_toList]
      obtain ⟨g1, g2⟩ := fieldTags_each hf
      have each : ∀ f ∈ fs.toList, f.name ≠ "_" ∧ ∃ tg u, sclTag P f.type = some tg ∧ us[f.offset]? = some u ∧ ((tg = 0 ∧ ∃ k n, u = .int k n) ∨ (tg = 1 ∧ ∃ b, u = .bool b) ∨ (tg = 2 ∧ ∃ s, u = .string s)) := by
        intro f hf'
        obtain ⟨j, hj⟩ := List.getElem?_of_mem hf'
        obtain ⟨k1, k2, tg, k3, k4⟩ := g2 j f hj
        have hlt : j < us.length := by rw [hsc.1]; exact (List.getElem?_eq_some_iff.1 k3).1
        exact ⟨k1, tg, us[j], k4, by rw [k2]; simp [hlt], hsc.2 j tg us[j] k3 (by simp [hlt])⟩
      clear g2 g1 hf hu
      generalize fs.toList = L at each
      induction L with
      | nil => simp
      | cons f L ih =>
        obtain ⟨hn, tg, u, p1, p2, p3⟩ := each f (by simp)
        simp only [List.forIn_cons, Sem.run_bind, hn, ne_eq, not_false_eq_true, if_true, Result.andThen_ok, part_scl (sclTag_agg p1) p2, check_scl p1 p3 em 9998, Sem.run_pure]
        exact ih (fun y hy => each y (by simp [hy]))
    · simp only [Sem.run_bind, run_underlying hu, Result.andThen_ok]
      simp only [Std.Legacy.Range.forIn_eq_forIn_range', Std.Legacy.Range.size, Nat.sub_zero, Nat.add_one_sub_one, Nat.div_one]
      have each : ∀ j ∈ List.range' 0 n, ∃ u, us[j]? = some u ∧ ((s = 0 ∧ ∃ k n, u = .int k n) ∨ (s = 1 ∧ ∃ b, u = .bool b) ∨ (s = 2 ∧ ∃ s, u = .string s)) := by
        intro j hj
        have hj' : j < n := by simp at hj; exact hj
        have hlt : j < us.length := by rw [hsc.1]; simpa using hj'
        exact ⟨us[j], by simp [hlt], hsc.2 j s us[j] (by simp [hj']) (by simp [hlt])⟩
      clear hsc h he
      generalize List.range' 0 n = is at each
      induction is with
      | nil => simp
      | cons j is ih =>
        obtain ⟨u, p2, p3⟩ := each j (by simp)
        simp only [List.forIn_cons, Sem.run_bind, Go.run_sizeOf w hi, h1, Nat.mul_one, Result.andThen_ok, part_scl (sclTag_agg hs) p2, check_scl hs p3 em 9998, Sem.run_pure]
        exact ih (fun y hy => each y (by simp [hy]))

/-! ### looking -/
theorem sameNow_run {c : Cx} {t : TypeId} {tg : Nat} {x y : V} {u v : Value} {r : Bool} {d : TypeDesc} (ht : sclTag P t = some tg) (hd : P.underlying t = some d) (hx : R c x u) (hy : R c y v) (h : eq1 tg x y = some r) : Instr.sameNow d u v = some r := by
  rcases sclTag_cases ht with ⟨rfl, k, hu⟩ | ⟨rfl, hu⟩ | ⟨rfl, hu⟩ <;> rw [hu] at hd <;> cases hd <;> simp only [eq1] at h <;> split at h <;> first | (cases h; done) | skip
  · split at h
    · rename_i he
      subst he
      cases h
      rw [hx.int_inv, hy.int_inv]
      simp [Instr.sameNow]
    · cases h
  · cases h
    rw [hx.bool_inv, hy.bool_inv]
    simp [Instr.sameNow]
  · cases h
    rw [hx.str_inv, hy.str_inv]
    simp [Instr.sameNow, beq_toListBytes]

def EntR (c : Cx) (es : List (V × V)) (ents : List MapEntry) : Prop := es.length = ents.length ∧ ∀ (i : Nat) (x : V × V) (e : MapEntry), es[i]? = some x → ents[i]? = some e → R c x.1 e.key ∧ R c x.2 e.val

theorem EntR.cons_inv {c : Cx} {x : V × V} {es : List (V × V)} {ents : List MapEntry} (h : EntR c (x :: es) ents) : ∃ e r, ents = e :: r ∧ R c x.1 e.key ∧ R c x.2 e.val ∧ EntR c es r := by
  cases ents with
  | nil => have := h.1; simp at this
  | cons e r => exact ⟨e, r, rfl, (h.2 0 x e rfl rfl).1, (h.2 0 x e rfl rfl).2, by simpa using h.1, fun i x e e1 e2 => h.2 (i + 1) x e (by simpa using e1) (by simpa using e2)⟩

/-- What is found. -/
def FoundAs (c : Cx) (tg : Nat) (tgs : List Nat) (k : V) (es : List (V × V)) (ents : List MapEntry) (r : Option V) (i : Nat) (o : Option (Nat × Value)) : Prop :=
  (r = none ∧ o = none ∧ ∀ v, updK tg tgs k v es = some (es ++ [(k, v)])) ∨
  ∃ j e x, r = some x.2 ∧ o = some (i + j, e.val) ∧ es[j]? = some x ∧ ents[j]? = some e ∧ eqK tg tgs k x.1 = some true ∧ ∀ v, updK tg tgs k v es = some (es.set j (k, v))

theorem FoundAs.cons {c : Cx} {tg : Nat} {tgs : List Nat} {k : V} {es : List (V × V)} {ents : List MapEntry} {r : Option V} {i : Nat} {o : Option (Nat × Value)} {x : V × V} {e : MapEntry} (h : FoundAs c tg tgs k es ents r (i + 1) o) (hn : eqK tg tgs k x.1 = some false) :
    FoundAs c tg tgs k (x :: es) (e :: ents) r i o := by
  rcases h with ⟨rfl, rfl, h⟩ | ⟨j, e', x', rfl, rfl, h1, h2, h3, h4⟩
  · exact .inl ⟨rfl, rfl, fun v => by simp [updK, hn, h v]⟩
  · exact .inr ⟨j + 1, e', x', rfl, by simp; omega, by simpa using h1, by simpa using h2, h3, fun v => by simp [updK, hn, h4 v]⟩

theorem FoundAs.here {c : Cx} {tg : Nat} {tgs : List Nat} {k : V} {es : List (V × V)} {ents : List MapEntry} {i : Nat} {x : V × V} {e : MapEntry} (hn : eqK tg tgs k x.1 = some true) :
    FoundAs c tg tgs k (x :: es) (e :: ents) (some x.2) i (some (i, e.val)) :=
  .inr ⟨0, e, x, rfl, rfl, rfl, rfl, hn, fun v => by simp [updK, hn]⟩

theorem findNow_run {c : Cx} {t : TypeId} {tg : Nat} {tgs : List Nat} {k : V} {u : Value} {d : TypeDesc} (ht : sclTag P t = some tg) (hd : P.underlying t = some d) (hk : R c k u) : ∀ (es : List (V × V)) (ents : List MapEntry) (i : Nat) (r : Option V), EntR c es ents → findK tg tgs k es = some r →
    ∃ o, Instr.findNow d u ents i = some o ∧ FoundAs c tg tgs k es ents r i o
  | [], ents, i, r, he, h => by
    obtain rfl := List.eq_nil_of_length_eq_zero (l := ents) (by simpa using he.1.symm)
    cases h
    exact ⟨none, rfl, .inl ⟨rfl, rfl, fun v => rfl⟩⟩
  | x :: es, ents, i, r, he, h => by
    obtain ⟨e, rs, rfl, h1, h2, h3⟩ := he.cons_inv
    simp only [findK] at h
    split at h
    · rename_i hq
      cases h
      have hq' := hq
      rw [eqK_scl (sclTag_ne ht)] at hq'
      exact ⟨some (i, e.val), by simp [Instr.findNow, sameNow_run ht hd hk h1 hq'], .here hq⟩
    · rename_i hq
      have hq' := hq
      rw [eqK_scl (sclTag_ne ht)] at hq'
      obtain ⟨o, g1, g2⟩ := findNow_run ht hd hk es rs (i + 1) r h3 h
      exact ⟨o, by simp [Instr.findNow, sameNow_run ht hd hk h1 hq', g1], g2.cons hq⟩
    · cases h

theorem findAsking_run {c : Cx} {t : TypeId} {tg : Nat} {tgs : List Nat} {k : V} {u : Value} {w : World} (ht : keyTag P t = some (tg, tgs)) (hk : R c k u) : ∀ (es : List (V × V)) (ents : List MapEntry) (i : Nat) (r : Option V), EntR c es ents → findK tg tgs k es = some r →
    ∃ o, (Instr.findAsking t u ents i).run P w = .ok o w ∧ FoundAs c tg tgs k es ents r i o
  | [], ents, i, r, he, h => by
    obtain rfl := List.eq_nil_of_length_eq_zero (l := ents) (by simpa using he.1.symm)
    cases h
    exact ⟨none, by simp [Instr.findAsking], .inl ⟨rfl, rfl, fun v => rfl⟩⟩
  | x :: es, ents, i, r, he, h => by
    obtain ⟨e, rs, rfl, h1, h2, h3⟩ := he.cons_inv
    simp only [findK] at h
    split at h
    · rename_i hq
      cases h
      exact ⟨some (i, e.val), by simp [Instr.findAsking, eqK_run ht hk h1 hq], .here hq⟩
    · rename_i hq
      obtain ⟨o, g1, g2⟩ := findAsking_run (w := w) ht hk es rs (i + 1) r h3 h
      exact ⟨o, by simp [Instr.findAsking, eqK_run ht hk h1 hq, g1], g2.cons hq⟩
    · cases h

theorem findKey_run {c : Cx} {t : TypeId} {tg : Nat} {tgs : List Nat} {k : V} {u : Value} {w : World} (ht : keyTag P t = some (tg, tgs)) (hk : R c k u) {es : List (V × V)} {ents : List MapEntry} {r : Option V} (he : EntR c es ents) (h : findK tg tgs k es = some r) :
    ∃ o, (Instr.findKey t u ents).run P w = .ok o w ∧ FoundAs c tg tgs k es ents r 0 o := by
  unfold Instr.findKey
  rcases keyTag_scl ht with ⟨hs, _⟩ | ⟨rfl, hs⟩
  · obtain ⟨d, hd⟩ : ∃ d, P.underlying t = some d := by rcases sclTag_cases hs with ⟨_, k, hu⟩ | ⟨_, hu⟩ | ⟨_, hu⟩ <;> exact ⟨_, hu⟩
    obtain ⟨o, g1, g2⟩ := findNow_run hs hd hk es ents 0 r he h
    exact ⟨o, by simp [run_underlying hd, g1], g2⟩
  · obtain ⟨d, hd, hne⟩ : ∃ d, P.underlying t = some d ∧ ∀ a b, Instr.sameNow d (.agg a) b = none := by
      rcases hs with ⟨fs, hu, _⟩ | ⟨n, e, s, i, hu, _⟩ <;> exact ⟨_, hu, fun a b => by simp [Instr.sameNow]⟩
    cases es with
    | nil =>
      obtain rfl := List.eq_nil_of_length_eq_zero (l := ents) (by simpa using he.1.symm)
      cases h
      exact ⟨none, by simp [run_underlying hd, Instr.findNow], .inl ⟨rfl, rfl, fun v => rfl⟩⟩
    | cons x es =>
      obtain ⟨e, rs, rfl, h1, h2, h3⟩ := he.cons_inv
      obtain ⟨o, g1, g2⟩ := findAsking_run (w := w) ht hk (x :: es) (e :: rs) 0 r he h
      refine ⟨o, ?_, g2⟩
      have hagg : ∃ us, u = .agg us := by
        simp only [findK] at h
        cases hq : eqK 3 tgs k x.1 with
        | none => rw [hq] at h; cases h
        | some b =>
          obtain ⟨xs, ys, rfl, _, _⟩ := eqK_agg (c := c) hq
          obtain ⟨us, rfl, _⟩ := hk.agg_inv
          exact ⟨_, rfl⟩
      obtain ⟨us, rfl⟩ := hagg
      simp only [Sem.run_bind, run_underlying hd, Result.andThen_ok, Instr.findNow, hne]
      exact g1

theorem zeroV_R {c : Cx} {t : TypeId} {z : V} (h : zeroV P t = some z) : ∃ u : Value, (∀ w, (zeroValue t).run P w = .ok u w) ∧ R c z u := by
  unfold zeroV at h
  cases hi : P.info? t with
  | none => simp [hi] at h
  | some i =>
    cases hz : i.zero with
    | none => simp [hi, hz] at h
    | some u =>
      simp only [hi, hz, Option.bind_some] at h
      exact ⟨u, fun w => by simp [zeroValue, typeInfo, hi, hz], toV_R h⟩

theorem R_tup2 {c : Cx} {v : V} {u : Value} (h : R c v u) (b : Bool) : R c (.tup [v, .b b]) (.tuple #[u, .bool b]) := by
  refine R.tup (c := c) [v, .b b] [u, .bool b] rfl fun j x y e1 e2 => ?_
  cases j with
  | zero => simp at e1 e2; subst e1 e2; exact h
  | succ j =>
    cases j with
    | zero => simp at e1 e2; subst e1 e2; exact .b b
    | succ j => simp at e1

theorem RH.mapBlk {c : Cx} {H : List Blk} (h : RH c H) {id : Nat} {es : List (V × V)} (hb : H[id]? = some (.mp es)) : ∃ b sz ents clock, c.ρ id = some (b, sz) ∧ c.w.heap[b]? = some (.map ents clock) ∧ EntR c es ents.toList := by
  obtain ⟨b, sz, h1, _, ents, clock, h2, h3, h4⟩ := h.live id _ hb (by simp)
  exact ⟨b, sz, ents, clock, h1, h2, by simp [h3], fun i x e e1 e2 => h4 i x e e1 (by simpa using e2)⟩

theorem ok_mkm {o : Oper} {t : TypeId} {r : Option Operand} {io : IOp} (hop : o.op = .makeMap t r) (hl : lowO P o.op = some io) : OpOK P o io := by
  intro rd n a c E H K nx Q hE hH hs hk
  rw [hop] at hl
  have hio : io = .mkm ∧ ∃ kt e, P.underlying t = some (.map kt e) := by
    simp only [lowO] at hl
    split at hl
    · cases hl; exact ⟨rfl, _, _, by assumption⟩
    · cases hl; exact ⟨rfl, _, _, by assumption⟩
    · cases hl
  obtain ⟨rfl, kt, e, hu⟩ := hio
  have hK : K (.rmp H.length) (H ++ [.mp []]) := hs
  have g1 : RH (more c (.map #[] 0) 0) (H ++ [.mp []]) := hH.alloc (by simp) ⟨#[], 0, alloc_new _ _, rfl, fun i x e h => by simp at h⟩
  refine wpIn_value (by simp [hop]) (u := .map (some c.w.heap.size)) (w' := c.w.alloc (.map #[] 0)) ?_ (hk _ _ _ _ hK g1 (.rmp _ _ (by simp [more, hH.N]) fun b s e => by simp [more, hH.N] at e; exact e.1) (hH.stp_more _ _))
  simp only [lowO, hu] at hl
  split at hl
  · simp [execOp, hop, Instr.makeMap]
  · rename_i hk2 _
    simp [execOp, hop, Instr.makeMap, run_underlying hu, run_asInt, Act.eval]
  · cases hl

theorem ok_lk {o : Oper} {t : TypeId} {x i : Operand} {ok : Bool} {io : IOp} (hop : o.op = .lookup t x i ok) (hl : lowO P o.op = some io) : OpOK P o io := by
  refine ok_same (by simp [hop]) fun a c E H K hE hH hs => ?_
  rw [hop] at hl
  simp only [lowO] at hl
  split at hl
  · rename_i kt e hu
    split at hl
    · rename_i ktg z x' i' h1 h2 h3 h4
      cases hl
      obtain ⟨tg, tgs⟩ := ktg
      have hx := evA hE h3
      have hi := evA hE h4
      obtain ⟨hq, hs⟩ := hs
      have hchk := fun em => check_run c.w h1 hi hq em
      obtain ⟨zu, hz1, hz2⟩ := zeroV_R (c := c) h2
      have nf : ∃ u, R c (lkV z ok none) u ∧ u = (if ok then .tuple #[zu, .bool false] else zu) := by
        refine ⟨_, ?_, rfl⟩
        cases ok
        · simpa [lkV] using hz2
        · simpa [lkV] using R_tup2 hz2 false
      generalize hxe : a.eval x = u at hx
      split at hs
      · rename_i he
        rw [he] at hx
        cases hx
        obtain ⟨u, p1, p2⟩ := nf
        refine ⟨_, u, hs, p1, ?_⟩
        have hfk : (Instr.findKey kt (a.eval i) []).run P c.w = .ok none c.w := by
          obtain ⟨o, g1, g2⟩ := findKey_run (w := c.w) (es := []) (ents := []) (r := none) h1 hi ⟨rfl, fun i x e h => by simp at h⟩ rfl
          rcases g2 with ⟨_, rfl, _⟩ | ⟨j, e, x, h, _⟩
          · exact g1
          · cases h
        rw [p2]
        cases ok <;> simp [execOp, hop, Instr.lookup, run_underlying hu, hxe, hchk, hfk, hz1]
      · rename_i id he
        rw [he] at hx
        obtain ⟨es, r, hb, hf, hK⟩ := hs
        obtain ⟨b, sz, ents, clock, q1, q2, q3⟩ := hH.mapBlk hb
        cases hx with
        | rmp _ ad hid hp =>
          obtain rfl := hp b sz q1
          obtain ⟨o, g1, g2⟩ := findKey_run (w := c.w) h1 hi q3 hf
          have hgo := MapKept.run_getObj_map (P := P) q2
          rcases g2 with ⟨rfl, rfl, _⟩ | ⟨j, e, x, rfl, rfl, e1, e2, e3, e4⟩
          · obtain ⟨u, p1, p2⟩ := nf
            refine ⟨_, u, hK, p1, ?_⟩
            rw [p2]
            cases ok <;> simp [execOp, hop, Instr.lookup, run_underlying hu, hxe, hchk, hgo, g1, hz1]
          · refine ⟨_, if ok then .tuple #[e.val, .bool true] else e.val, hK, ?_, ?_⟩
            · cases ok
              · simpa [lkV] using (q3.2 j x e e1 e2).2
              · simpa [lkV] using R_tup2 (q3.2 j x e e1 e2).2 true
            · cases ok <;> simp [execOp, hop, Instr.lookup, run_underlying hu, hxe, hchk, hgo, g1]
      · exact hs.elim
    · cases hl
  · cases hl

theorem EntR.mono {c c' : Cx} {es : List (V × V)} {ents : List MapEntry} (s : Sub c c') (h : EntR c es ents) : EntR c' es ents := ⟨h.1, fun i x e e1 e2 => ⟨(h.2 i x e e1 e2).1.mono s, (h.2 i x e e1 e2).2.mono s⟩⟩

theorem findK_of_updK {tg : Nat} {tgs : List Nat} {k v : V} : ∀ {es es' : List (V × V)}, updK tg tgs k v es = some es' → ∃ r, findK tg tgs k es = some r
  | [], es', _ => ⟨none, rfl⟩
  | x :: es, es', hup => by
    simp only [updK] at hup
    simp only [findK]
    split at hup
    · rename_i hq2; simp [hq2]
    · rename_i hq2
      simp only [Option.map_eq_some_iff] at hup
      obtain ⟨es2, hup, _⟩ := hup
      obtain ⟨r, hr⟩ := findK_of_updK hup
      exact ⟨r, by simp [hq2, hr]⟩
    · cases hup

theorem ok_mup {o : Oper} {t : TypeId} {m k v : Operand} {io : IOp} (hop : o.op = .mapUpdate t m k v ∨ o.op = .insert t m k v) (hl : lowO P o.op = some io) : OpOK P o io := by
  intro rd n a c E H K nx Q hE hH hs hk
  have hd : ∀ cl, o.op ≠ .defer cl := by rcases hop with h | h <;> simp [h]
  have hl' : ∃ kk el kt m' k' v', P.underlying t = some (.map kk el) ∧ keyTag P kk = some kt ∧ lowA m = some m' ∧ lowA k = some k' ∧ lowA v = some v' ∧ io = .mup kt.1 kt.2 m' k' v' := by
    rcases hop with h | h <;> rw [h] at hl <;> simp only [lowO] at hl <;> split at hl <;> first | cases hl; done | skip
    all_goals
      rename_i kk el hu
      split at hl
      · rename_i kt m' k' v' h1 h2 h3 h4
        cases hl
        exact ⟨_, _, _, _, _, _, hu, h1, h2, h3, h4, rfl⟩
      · cases hl
  obtain ⟨kk, el, ⟨tg, tgs⟩, m', k', v', hu, h1, h2, h3, h4, rfl⟩ := hl'
  have hm := evA hE h2
  have hkk := evA hE h3
  have hv := evA hE h4
  obtain ⟨hq, hs⟩ := hs
  have hchk := fun em => check_run c.w h1 hkk hq em
  generalize hme : a.eval m = u at hm
  split at hs
  · rename_i id he
    rw [he] at hm
    obtain ⟨es, es', hb, hup, hK⟩ := hs
    obtain ⟨b, sz, ents, clock, q1, q2, q3⟩ := hH.mapBlk hb
    cases hm with
    | rmp _ ad hid hp =>
      obtain rfl := hp b sz q1
      obtain ⟨r, hf⟩ := findK_of_updK hup
      obtain ⟨o2, g1, g2⟩ := findKey_run (w := c.w) h1 hkk q3 hf
      have hgo := MapKept.run_getObj_map (P := P) q2
      have hso := fun ob => MapKept.run_setObj_map (P := P) ob q2
      have hlt : ad < c.w.heap.size := hH.lt q1
      have fin : ∀ (ents' : Array MapEntry) (clock' : Nat), EntR c es' ents'.toList → (Instr.mapUpdate t (.map (some ad)) (a.eval k) (a.eval v)).run P c.w = .ok () (setB c.w ad (.map ents' clock')) → o.wpIn (fnc rd) n P a c.w nx Q := by
        intro ents' clock' hR hrun
        have hstp0 : Stp c { c with w := setB c.w ad (.map ents' clock') } := {
          os := rfl
          tape := rfl
          output := rfl
          drawn := Nat.le_refl _
          size := by simp
          keep := fun i hi hn => setB_other (fun e => hn id sz (by rw [e]; exact q1))
          X := fun _ _ => ⟨fun h => h, fun _ h => h⟩
          N := Nat.le_refl _
          ρ := fun _ _ => .inl rfl
          own := fun id b sz e => .inr ⟨id, sz, e⟩ }
        have hR' := hR.mono (hstp0.sub hH)
        obtain ⟨t1, t2⟩ := hH.turned (blk' := .mp es') (o := .map ents' clock') hb (by simp) q1 (by simp) ⟨ents', clock', setB_same hlt, by simpa using hR'.1.symm, fun i x e e1 e2 => hR'.2 i x e e1 (by simpa using e2)⟩
        refine wpIn_skipN hd (w' := setB c.w ad (.map ents' clock')) ?_ (hk _ _ _ undef hK t1 (.tup [] [] rfl (fun j v u e => by simp at e)) t2)
        rcases hop with h | h <;> simp [execOp, h, hme, hrun]
      rcases g2 with ⟨rfl, rfl, g3⟩ | ⟨j, e, x, rfl, rfl, e1, e2, e3, e4⟩
      · rw [g3] at hup
        cases hup
        refine fin (ents.push { key := a.eval k, val := a.eval v, born := clock }) (clock + 1) ⟨by simpa using q3.1, fun i x e e1 e2 => ?_⟩ ?_
        · rw [Array.toList_push] at e2
          rcases Nat.lt_or_ge i es.length with hi | hi
          · rw [List.getElem?_append_left hi] at e1
            rw [List.getElem?_append_left (by rw [← q3.1]; exact hi)] at e2
            exact q3.2 i x e e1 e2
          · rw [List.getElem?_append_right hi] at e1
            rw [List.getElem?_append_right (by rw [← q3.1]; exact hi), ← q3.1] at e2
            cases hd2 : i - es.length with
            | zero => rw [hd2] at e1 e2; simp at e1 e2; subst e1 e2; exact ⟨hkk, hv⟩
            | succ n => rw [hd2] at e1; simp at e1
        · simp [Instr.mapUpdate, run_underlying hu, hchk, hgo, g1, hso, setB]
      · rw [e4] at hup
        cases hup
        have hstay : (Instr.keyThatStays (((ents[j]?).map (·.key)).getD (a.eval k)) (a.eval k)).run P c.w = .ok (a.eval k) c.w := by
          have : ents[j]? = some e := by simpa using e2
          simp only [Instr.keyThatStays, this, Option.map_some, Option.getD_some]
          have hsb : Instr.sameBits 10000 e.key (a.eval k) = true := by
            have hse := eqK_same h1 hkk (q3.2 j x e e1 e2).1 e3
            have heq : a.eval k = e.key := by
              rcases keyTag_scl h1 with ⟨hs, _⟩ | ⟨rfl, hs⟩
              · rw [eqK_scl (sclTag_ne hs)] at e3
                exact eq1_same hkk (q3.2 j x e e1 e2).1 e3
              · obtain ⟨xs, ys, r1, r2, r3⟩ := eqK_agg (c := c) e3
                rw [r1] at hkk
                have hy := (q3.2 j x e e1 e2).1
                rw [r2] at hy
                obtain ⟨us, r4, hX⟩ := hkk.agg_inv
                obtain ⟨vs, r5, hY⟩ := hy.agg_inv
                rw [r4, r5, eqC_same hX hY r3]
            rw [heq] at hse ⊢
            exact hse
          simp [hsb]
        refine fin (ents.modify j fun e => { e with key := a.eval k, val := a.eval v }) clock ⟨by simpa using q3.1, fun i x' e' f1 f2 => ?_⟩ ?_
        · rw [Array.getElem?_toList, Array.getElem?_modify] at f2
          rw [List.getElem?_set] at f1
          have hjl : j < es.length := (List.getElem?_eq_some_iff.1 e1).1
          by_cases hij : j = i
          · subst hij
            rw [if_pos rfl, if_pos hjl] at f1
            rw [if_pos rfl] at f2
            have : ents[j]? = some e := by simpa using e2
            rw [this] at f2
            simp at f1 f2
            subst f1 f2
            exact ⟨hkk, hv⟩
          · rw [if_neg hij] at f1 f2
            exact q3.2 i x' e' f1 (by simpa using f2)
        · simp only [Nat.zero_add] at g1
          simp [Instr.mapUpdate, run_underlying hu, hchk, hgo, g1, hstay, hso, setB]
  · exact hs.elim

theorem ok_lenm {o : Oper} {ca : Call} {x : Operand} {t : TypeId} {x' : A} (hop : o.op = .call ca) (hc : ca.callee = .builtin .len) (ha : ca.args = #[x]) (ht : ca.argTypes = #[t]) (hx' : lowA x = some x')
    {k e : TypeId} (hu : P.underlying t = some (.map k e)) : OpOK P o (.lenm x') := by
  refine ok_same (by simp [hop]) fun a c E H K hE hH hs => ?_
  have hx := evA hE hx'
  obtain ⟨cs, hex⟩ := run_builtin1 (a := a) (w := c.w) hop hc ha ht
  rw [hex]
  simp only [stepI] at hs
  generalize a.eval x = u at hx
  split at hs
  · rename_i e1
    rw [e1] at hx
    cases hx
    exact ⟨_, _, hs, .i _ _, by simp [builtin, Builtin.len_, run_underlying hu, goInt]⟩
  · rename_i id e1
    rw [e1] at hx
    obtain ⟨es, hb, hK⟩ := hs
    obtain ⟨b, sz, ents, clock, q1, q2, q3⟩ := hH.mapBlk hb
    cases hx with
    | rmp _ ad hid hp =>
      obtain rfl := hp b sz q1
      refine ⟨_, _, hK, .i _ _, ?_⟩
      have := q3.1
      simp at this
      simp [builtin, Builtin.len_, run_underlying hu, MapKept.run_getObj_map (P := P) q2, goInt, this]
  · exact hs.elim
end Go.Sh
end
section
namespace Go.Sh
open Go.RowKit
set_option linter.unusedVariables false
set_option linter.unusedSimpArgs false

variable {P : Program}

theorem upon_inv {rd : Option Nat} {n : Nat} {o : Oper} {a : Act} {w : World} {nx : Act → World → Prop} {Q : Exit → Act → World → Prop} {d : Deferred} {R' : Value → World → Prop}
    (h : Inv P d w R') (hk : ∀ v w', R' v w' → nx (a.put o.dst v) w') : o.uponIn (fnc rd) n P a nx Q ((invoke d.target d.args).run P w) := by
  unfold Inv at h
  split at h
  · rename_i f args w' he
    rw [he]
    refine ⟨fun hd => absurd hd (by rw [fnc_depth]; simp), ?_⟩
    have h1 : CallsIn Fence.wide (n - 1) P f args w' fun
        | .returned v, w'' => nx (a.put o.dst v) w''
        | .panicked chain, w'' => Q (.panic chain) a w''
        | .outgrown, _ => LetsOut Q := callsIn_wide.2 (h.mono fun e w'' he => by
      obtain ⟨v, rfl, hv⟩ := he
      exact hk v w'' hv)
    cases rd with
    | none => exact h1
    | some l => exact h1
  · rename_i l f tmps assign body w' he
    rw [he]
    refine ⟨fun hd => absurd hd (by rw [fnc_depth]; simp), ?_⟩
    have h1 : RoundIn Fence.wide (n - 1) P l f tmps assign body w' fun
        | .returned v, w'' => nx (a.put o.dst v) w''
        | .panicked chain, w'' => Q (.panic chain) a w''
        | .outgrown, _ => LetsOut Q := (h (n - 1)).mono fun e w'' he => by
      obtain ⟨v, rfl, hv⟩ := he
      exact hk v w'' hv
    cases rd with
    | none => exact h1
    | some l => exact h1
  · rename_i v w' he
    rw [he]
    exact hk v w' h
  · exact h.elim

theorem ok_calv {o : Oper} {ca : Call} {f : Operand} {f' : A} {l : List A} (hop : o.op = .call ca) (hc : ca.callee = .value f) (hf : lowA f = some f') (hl : lowAs ca.args.toList = some l) : OpOK P o (.calv f' l) := by
  intro rd n a c E H K nx Q hE hH hs hk
  simp only [stepI, callI] at hs
  obtain ⟨d, hd, hi⟩ := hs c hH (a.eval f) (ca.args.toList.map a.eval) (evA hE hf) (evAs hE hl)
  have he : (ca.args.toList.map a.eval).toArray = ca.args.map a.eval := by simp [← List.map_toArray]
  rw [he] at hd
  have hrun : (execOp a.eval o).run P c.w = (invoke d.target d.args).run P c.w := by
    simp only [execOp, hop, resolve, hc, hd]
    rfl
  refine wpIn_run (by simp [hop]) hrun (upon_inv hi fun v w' hp => ?_)
  obtain ⟨r, H', hK, c', rfl, h1, h2, h3⟩ := hp
  exact hk r H' c' v hK h1 h2 h3

theorem run_meth {t : TypeId} {name : String} {f : FuncId} (h : methOf P t name = some f) (m : Nat) (v : Value) (w : World) : (method (m + 1) t v name).run P w = .ok (f, v) w := by
  unfold methOf at h
  cases hi : P.info? t with
  | none => simp [hi] at h
  | some i =>
    simp only [hi] at h
    cases hm : i.methods.find? (·.name == name) with
    | none => simp [hm] at h
    | some mt =>
      simp only [hm] at h
      split at h
      · rename_i hp
        split at h
        · cases h
        · rename_i g d hne h1 h2
          cases h
          have hpath : mt.path.toList = [] := by
            have : mt.path = #[] := by simpa using hp
            simp [this]
          simp only [method, Sem.run_bind, typeInfo, run_program, hi, Sem.run_pure, Result.andThen_ok, hm, hpath, follow, h1]
          cases d <;> first | (exact (hne _ rfl).elim) | simp [receiverAt, run_underlying h2, Place.get]
        · cases h
      · cases h

theorem ok_inv {o : Oper} {ca : Call} {x : Operand} {name : String} {x' : A} {l : List A} (hop : o.op = .call ca) (hc : ca.callee = .invoke x name) (hf : lowA x = some x') (hl : lowAs ca.args.toList = some l) : OpOK P o (.inv x' name l) := by
  intro rd n a c E H K nx Q hE hH hs hk
  have hx := evA hE hf
  simp only [stepI] at hs
  split at hs
  · rename_i t v he
    rw [he] at hx
    obtain ⟨f, hm, hsnd⟩ := hs
    simp only [callI] at hsnd
    generalize hxe : a.eval x = u at hx
    cases hx with
    | ifc _ _ u0 hu0 =>
      have hargs := evAs hE hl
      obtain ⟨d, hd, hi⟩ := hsnd c hH (.func (.func f) #[] #[]) (u0 :: ca.args.toList.map a.eval) (R.fn (c := c) (.func f) [] [] [] [] rfl rfl (fun j v u e => by simp at e) (fun j v u e => by simp at e))
        ⟨by simpa using hargs.1, fun j v' u' e1 e2 => by
          cases j with
          | zero => simp at e1 e2; subst e1 e2; exact hu0
          | succ j => exact hargs.2 j v' u' (by simpa using e1) (by simpa using e2)⟩
      simp only [Deferred.ofValue] at hd
      have hd' : d = { target := .fn (.func f) #[], args := #[] ++ (u0 :: ca.args.toList.map a.eval).toArray } := by
        have : (Sem.pure { target := Target.fn (.func f) #[], args := #[] ++ (u0 :: ca.args.toList.map a.eval).toArray } : Sem Deferred) = Sem.pure d := hd
        injection this with h; exact h.symm
      subst hd'
      have hrun : (execOp a.eval o).run P c.w = (invoke (.fn (.func f) #[]) (#[] ++ (u0 :: ca.args.toList.map a.eval).toArray)).run P c.w := by
        simp only [execOp, hop, resolve, hc, hxe, Sem.run_bind, Sem.run_pure, Result.andThen_ok, invoke]
        have hex : (#[Value.iface t u0] ++ Array.map a.eval ca.args)[0]? = some (.iface t u0) := by
          rw [Array.getElem?_append_left (by simp)]; rfl
        have heq : #[u0] ++ (#[Value.iface t u0] ++ Array.map a.eval ca.args).extract 1 (#[Value.iface t u0] ++ Array.map a.eval ca.args).size = #[] ++ (u0 :: ca.args.toList.map a.eval).toArray ++ #[] := by
          apply Array.toList_inj.1
          simp [Array.toList_extract]
          exact List.take_of_length_le (by simp)
        simp only [hex]
        simp only [callMethod, Sem.run_bind, run_program, Result.andThen_ok]
        rw [show P.types.size + Made.depth = (P.types.size + Made.depth - 1) + 1 by simp [Made.depth], run_meth hm]
        simp only [Result.andThen_ok]
        rw [heq]
      refine wpIn_run (by simp [hop]) hrun (upon_inv hi fun v w' hp => ?_)
      obtain ⟨r, H', hK, c', rfl, h1, h2, h3⟩ := hp
      exact hk r H' c' v hK h1 h2 h3
  · exact hs.elim

/-- Rows of one's own written anew. -/
theorem RH.putRows {c : Cx} {H : List Blk} (hH : RH c H) {id b sz k p : Nat} {rows ys : List (List V)} (hb : H[id]? = some (.row k rows)) (hρ : c.ρ id = some (b, sz)) {cells : Array Value} {el : TypeId} (g1 : c.w.heap[b]? = some (.cells cells el (0, 0))) (g2 : cells.size = sz)
    (g3 : ∀ row ∈ rows, row.length = k) (g4 : rows.length * k ≤ sz) (g5 : ∀ row ∈ rows, ∀ v ∈ row, v.one = true) (g6 : CellsAs c k rows cells 0) (c2 : p + ys.length ≤ rows.length) (hys : ∀ r ∈ ys, r.length = k ∧ r.all V.one = true) {news : List Value} (hnl : news.length = ys.length * k) (hRA : RowsAs c k ys news) :
    RH { c with w := setB c.w b (.cells (putCells cells (p * k) news) el (0, 0)) } (H.set id (.row k (rows.take p ++ ys ++ rows.drop (p + ys.length)))) ∧ Stp c { c with w := setB c.w b (.cells (putCells cells (p * k) news) el (0, 0)) } := by
          have hX : c.X b := hH.ownX hρ
          have hle2 : (p + ys.length) * k ≤ rows.length * k := Nat.mul_le_mul_right _ c2
          rw [Nat.add_mul] at hle2
          have hturn := hH.turned (o := .cells (putCells cells (p * k) news) el (0, 0)) (blk' := .row k (rows.take p ++ ys ++ rows.drop (p + ys.length))) hb (by simp) hρ (by simp)
          have hsub : Sub c { c with w := setB c.w b (.cells (putCells cells (p * k) news) el (0, 0)) } :=
            ⟨fun i hi hx => ⟨setB_other (fun e => hx (e ▸ hX)), hx⟩, Nat.le_refl _, fun _ _ => .inl rfl⟩
          have hmem : ∀ r ∈ rows.take p ++ ys ++ rows.drop (p + ys.length), r ∈ rows ∨ r ∈ ys := by
            intro r hr
            simp only [List.mem_append] at hr
            rcases hr with (hr | hr) | hr
            · exact .inl (List.mem_of_mem_take hr)
            · exact .inr hr
            · exact .inl (List.mem_of_mem_drop hr)
          exact hturn ⟨_, el, setB_same (lt_of_get g1), by simpa using g2, (fun r hr => by
              rcases hmem r hr with h | h
              · exact g3 r h
              · exact (hys r h).1), (by
              have : (rows.take p ++ ys ++ rows.drop (p + ys.length)).length = rows.length := by simp; omega
              rw [this]; exact g4), (fun r hr => by
              rcases hmem r hr with h | h
              · exact g5 r h
              · have := (hys r h).2; simpa using this), (by
              intro i row j v u h1 h2 h3
              have hjk : j < k := by
                have hm := hmem row (List.mem_of_getElem? h1)
                have hrl : row.length = k := by
                  rcases hm with h | h
                  · exact g3 row h
                  · exact (hys row h).1
                rw [← hrl]; exact (List.getElem?_eq_some_iff.1 h2).1
              rw [Nat.zero_add, putCells_get _ _ _ _ (by rw [hnl]; omega), hnl] at h3
              rcases Nat.lt_or_ge i p with hi | hi
              · have hm1 : (i + 1) * k ≤ p * k := Nat.mul_le_mul_right _ hi
                rw [Nat.add_mul] at hm1
                rw [if_neg (by omega)] at h3
                rw [List.append_assoc, List.getElem?_append_left (by simp; omega), List.getElem?_take, if_pos hi] at h1
                exact (g6 i row j v u h1 h2 (by simpa using h3)).mono hsub
              · rcases Nat.lt_or_ge i (p + ys.length) with hi2 | hi2
                · have hm1 : p * k ≤ i * k := Nat.mul_le_mul_right _ hi
                  have hm2 : (i + 1) * k ≤ (p + ys.length) * k := Nat.mul_le_mul_right _ hi2
                  rw [Nat.add_mul, Nat.add_mul p] at hm2
                  rw [if_pos (by omega)] at h3
                  rw [List.append_assoc, List.getElem?_append_right (by simp; omega)] at h1
                  simp only [List.length_take, Nat.min_eq_left (show p ≤ rows.length by omega)] at h1
                  rw [List.getElem?_append_left (by omega)] at h1
                  refine (hRA (i - p) row j v u h1 h2 ?_).mono hsub
                  rw [Nat.sub_mul, show i * k - p * k + j = i * k + j - p * k by omega]
                  exact h3
                · have hm1 : (p + ys.length) * k ≤ i * k := Nat.mul_le_mul_right _ hi2
                  rw [Nat.add_mul p] at hm1
                  rw [if_neg (by omega)] at h3
                  rw [List.append_assoc, List.getElem?_append_right (by simp; omega)] at h1
                  simp only [List.length_take, Nat.min_eq_left (show p ≤ rows.length by omega)] at h1
                  rw [List.getElem?_append_right (by omega), List.getElem?_drop] at h1
                  rw [show p + ys.length + (i - p - ys.length) = i by omega] at h1
                  exact (g6 i row j v u h1 h2 (by simpa using h3)).mono hsub)⟩

theorem ok_clr {o : Oper} {ca : Call} {x : Operand} {t e : TypeId} {x' : A} (hop : o.op = .call ca) (hc : ca.callee = .builtin .clear) (ha : ca.args = #[x]) (ht : ca.argTypes = #[t]) (hx' : lowA x = some x')
    {k : Nat} {z : List V} (hu : P.underlying t = some (.slice e)) (hk0 : szOf P e = some k) (hz : zeroI P e = some z) (hpos : 0 < k) : OpOK P o (.clr k z x') := by
  intro rd n a c E H K nx Q hE hH hs hk
  have hx := evA hE hx'
  obtain ⟨cs, hex⟩ := run_builtin1 (a := a) (w := c.w) hop hc ha ht
  have hrun : ∀ (v : Value) (w' : World), (Builtin.clear_ #[t] o.type #[a.eval x]).run P c.w = .ok v w' → (execOp a.eval o).run P c.w = .ok (.value v) w' := by
    intro v w' h
    rw [hex]
    simp [builtin, h]
  have noop : ∀ ad q, a.eval x = .slice ad 0 q → K (.tup []) H → o.wpIn (fnc rd) n P a c.w nx Q := by
    intro ad q hxe hK
    refine wpIn_value (by simp [hop]) (hrun (.tuple #[]) c.w ?_) (hk _ H c _ hK hH (.tup [] [] rfl (fun j v u e => by simp at e)) (Stp.refl c))
    rw [hxe]
    cases ad <;> simp [Builtin.clear_, run_underlying hu]
  simp only [stepI] at hs
  generalize hxe : a.eval x = u at hx
  split at hs
  · rename_i id k' off len cap ex he
    rw [he] at hx
    obtain ⟨rfl, hzl, hz1, rows, hb, hle, hK⟩ := hs
    cases hx with
    | rsl _ _ _ _ _ _ ad q hid hsp hlq hcq hexq hp =>
      by_cases hl0 : len = 0
      · subst hl0
        have hsame : H.set id (.row k' (rows.take off ++ List.replicate 0 z ++ rows.drop (off + 0))) = H := by
          simp only [List.replicate_zero, List.append_nil, Nat.add_zero, List.take_append_drop]
          apply List.ext_getElem?
          intro i
          rw [List.getElem?_set]
          split
          · rename_i h; subst h
            split
            · exact hb.symm
            · rename_i h; rw [List.getElem?_eq_none (by omega)]
          · rfl
        rw [hsame] at hK
        exact noop _ _ hxe hK
      · obtain ⟨b, sz, hρ, hX, cells, el, g1, g2, g3, g4, g5, g6⟩ := hH.live id _ hb (by simp)
        obtain ⟨p1, p2⟩ := hp b sz hρ
        obtain ⟨u, hzv, hzs, hzR, hzo⟩ := zeroI_R (c := c) hz hz1
        have hcr := cells_rep (n := len) hzR hzl hpos
        have hnl : ((Array.range (len * k')).map (u.cells[· % u.cells.size]!)).toList.length = len * k' := by simp
        have hRA : RowsAs c k' (List.replicate len z) ((Array.range (len * k')).map (u.cells[· % u.cells.size]!)).toList := by
          intro i row j v w h1 h2 h3
          refine hcr i row j v w h1 h2 ?_
          rw [Nat.zero_add]
          rw [Array.getElem?_toList] at h3
          exact h3
        have hone := hRA.one (fun r hr => by rw [(List.mem_replicate.1 hr).2]; exact ⟨hzl, hz1⟩) hpos (by simpa using hnl)
        obtain ⟨t1, t2⟩ := hH.putRows (p := off) (ys := List.replicate len z) hb hρ g1 g2 g3 g4 g5 g6 (by simpa using hle) (fun r hr => by rw [(List.mem_replicate.1 hr).2]; exact ⟨hzl, hz1⟩) (news := ((Array.range (len * k')).map (u.cells[· % u.cells.size]!)).toList) (by simpa using hnl) hRA
        simp only [List.length_replicate] at t1
        have hzc : Builtin.zeroCells u.cells len = (Array.range (len * k')).map (u.cells[· % u.cells.size]!) := by
          rw [← hzl, ← hzs]
          rfl
        refine wpIn_value (by simp [hop]) (hrun (.tuple #[]) (setB c.w b (.cells (putCells cells (off * k') ((Array.range (len * k')).map (u.cells[· % u.cells.size]!)).toList) el (0, 0))) ?_) (hk _ _ _ _ hK t1 (.tup [] [] rfl (fun j v u e => by simp at e)) t2)
        rw [hxe, p1 (by omega)]
        have hle2 : (off + len) * k' ≤ rows.length * k' := Nat.mul_le_mul_right _ hle
        rw [Nat.add_mul] at hle2
        have hst := run_storeCells (P := P) (b := b) (o := off * k') (e := el) ((Array.range (len * k')).map (u.cells[· % u.cells.size]!)).toList 0 c.w cells g1 (by rw [hnl]; omega) hone
        obtain ⟨m, rfl⟩ : ∃ m, len = m + 1 := ⟨len - 1, by omega⟩
        simp only [Builtin.clear_, List.getElem?_toArray, List.getElem?_cons_zero, Sem.run_bind, run_underlying hu, Result.andThen_ok, hzv, hzc]
        simp only [Nat.add_zero] at hst
        rw [hst]
        rfl
  · rename_i he
    rw [he] at hx
    cases hx
    exact noop _ _ hxe hs
  · rename_i he
    rw [he] at hx
    cases hx
    exact noop _ _ hxe hs
  · rename_i he
    rw [he] at hx
    cases hx with
    | fsl0 ad q _ => exact noop _ _ hxe hs
    | fsl _ ad o' k2 q cells el fz g1 g2 g3 g4 g5 gp g6 => exact noop _ _ (by simpa using hxe) hs
  · exact hs.elim

/-- **ALL OPERATIONS.** -/
theorem op_ok {o : Oper} {io : IOp} (hl : lowO P o.op = some io) : OpOK P o io := by
  cases hop : o.op with
  | move x => exact ok_mov (.inl hop) hl
  | assign x => exact ok_mov (.inr hop) hl
  | pick c a b => exact ok_pick hop hl
  | alloc t => exact ok_alloc hop hl
  | box t x => exact ok_box hop hl
  | build t parts => exact ok_bld hop hl
  | buildSlice t m parts =>
    refine ok_bsl hop ?_
    rw [hl]
    rw [hop] at hl
    simp only [lowO] at hl
    revert hl
    (repeat' split) <;> simp
    intro x _ e
    subst e
    rfl
  | load t x => exact ok_ld hop hl
  | store t x y => exact ok_st hop hl
  | nilCheck x => exact ok_nilc hop hl
  | unOp op t x => exact ok_un hop hl
  | convert s d x => exact ok_cvi hop hl
  | makeInterface t x => exact ok_mki hop hl
  | makeFunc f a b => exact ok_mkf hop hl
  | makeSlice t a b => exact ok_mks hop hl
  | slice t x lo hi mx => exact ok_slc hop hl
  | fieldAddr t x f => exact ok_fad hop hl
  | field t x f => exact ok_fld hop hl
  | indexAddr t x i => exact ok_ixs hop hl
  | index t x i => exact ok_ix hop hl
  | extract x m => exact ok_ext hop hl
  | makeMap t r => exact ok_mkm hop hl
  | lookup t x i ok => exact ok_lk hop hl
  | mapUpdate t m k v => exact ok_mup (.inl hop) hl
  | insert t m k v => exact ok_mup (.inr hop) hl
  | binOp op t x y t' =>
    rw [hop] at hl
    simp only [lowO] at hl
    split at hl
    · rename_i a b ha hb
      split at hl
      · rename_i ho
        split at hl
        · cases hl; exact ok_bin hop ha hb
        · cases hl; exact ok_bin hop ha hb
        · rename_i hu; cases hl; exact ok_eqb hop ho ha hb (.inl ⟨rfl, hu⟩)
        · rename_i e hu; cases hl; exact ok_eqb hop ho ha hb (.inr (.inl ⟨rfl, e, hu⟩))
        · rename_i e hu; cases hl; exact ok_eqb hop ho ha hb (.inr (.inr (.inl ⟨rfl, e, hu⟩)))
        · rename_i k e hu; cases hl; exact ok_eqb hop ho ha hb (.inr (.inr (.inr ⟨rfl, k, e, hu⟩)))
        · rename_i fs hu
          split at hl
          · cases hl
          · rename_i hg
            simp only [Option.map_eq_some_iff] at hl
            obtain ⟨l, hl, rfl⟩ := hl
            exact ok_eqs hop ho ha hb hu (by simpa using hg) hl
        · cases hl
      · cases hl; exact ok_bin hop ha hb
    · cases hl
  | call ca =>
    rw [hop] at hl
    simp only [lowO] at hl
    split at hl
    · rename_i f hc
      split at hl
      · rename_i f' l h1 h2
        cases hl
        exact ok_calv hop hc h1 h2
      · cases hl
    · rename_i x name hc
      split at hl
      · rename_i x' l h1 h2
        cases hl
        exact ok_inv hop hc h1 h2
      · cases hl
    · rename_i b hc
      have args1 : ∀ {x' : A}, lowAs ca.args.toList = some [x'] → ∃ x, ca.args = #[x] ∧ lowA x = some x' := by
        intro x' h
        cases ha : ca.args.toList with
        | nil => rw [ha] at h; simp [lowAs] at h
        | cons x r =>
          rw [ha] at h
          simp only [lowAs] at h
          split at h
          · rename_i v l e1 e2
            simp at h
            obtain ⟨rfl, rfl⟩ := h
            cases r with
            | nil => exact ⟨x, by apply Array.toList_inj.1; simpa using ha, e1⟩
            | cons y r => simp only [lowAs] at e2; split at e2 <;> simp at e2
          · cases h
      have args2 : ∀ {x' y' : A}, lowAs ca.args.toList = some [x', y'] → ∃ x y, ca.args = #[x, y] ∧ lowA x = some x' ∧ lowA y = some y' := by
        intro x' y' h
        cases ha : ca.args.toList with
        | nil => rw [ha] at h; simp [lowAs] at h
        | cons x r =>
          rw [ha] at h
          simp only [lowAs] at h
          split at h
          · rename_i v l e1 e2
            simp at h
            obtain ⟨rfl, rfl⟩ := h
            cases r with
            | nil => simp [lowAs] at e2
            | cons y r =>
              simp only [lowAs] at e2
              split at e2
              · rename_i v2 l2 e3 e4
                simp at e2
                obtain ⟨rfl, rfl⟩ := e2
                cases r with
                | nil => exact ⟨x, y, by apply Array.toList_inj.1; simpa using ha, e1, e3⟩
                | cons z r => simp only [lowAs] at e4; split at e4 <;> simp at e4
              · cases e2
          · cases h
      have tys1 : ∀ {t : TypeId}, ca.argTypes.toList = [t] → ca.argTypes = #[t] := fun h => by apply Array.toList_inj.1; simpa using h
      have tys2 : ∀ {t t' : TypeId}, ca.argTypes.toList = [t, t'] → ca.argTypes = #[t, t'] := fun h => by apply Array.toList_inj.1; simpa using h
      split at hl
      · rename_i t x' h1 h2
        obtain ⟨x, hx1, hx2⟩ := args1 h2
        split at hl
        · rename_i e hu; cases hl; exact ok_len hop hc hx1 (tys1 h1) hx2 (.inl ⟨rfl, e, hu⟩)
        · rename_i hu; cases hl; exact ok_len hop hc hx1 (tys1 h1) hx2 (.inr ⟨rfl, hu⟩)
        · rename_i k e hu; cases hl; exact ok_lenm hop hc hx1 (tys1 h1) hx2 hu
        · cases hl
      · rename_i t t' x' y' h1 h2
        obtain ⟨x, y, hx1, hx2, hx3⟩ := args2 h2
        split at hl
        · rename_i e e' hu hu'
          split at hl
          · rename_i k by' hk hby
            split at hl
            · rename_i z hz
              split at hl
              · rename_i hzk
                cases hl
                exact ok_app hop hc hx1 (tys2 h1) hx2 hx3 hu hu' hk hby hz hzk.2
              · cases hl
            · cases hl
          · cases hl
        · cases hl
      · rename_i t x' h1 h2
        obtain ⟨x, hx1, hx2⟩ := args1 h2
        split at hl
        · rename_i e hu
          split at hl
          · rename_i k z hk hz
            split at hl
            · rename_i hpos
              cases hl
              exact ok_clr hop hc hx1 (tys1 h1) hx2 hu hk hz hpos
            · cases hl
          · cases hl
        · cases hl
      · rename_i x' y' h2
        obtain ⟨x, y, hx1, hx2, hx3⟩ := args2 h2
        cases hl
        exact ok_mm (mx := true) hop hc hx1 hx2 hx3
      · rename_i x' y' h2
        obtain ⟨x, y, hx1, hx2, hx3⟩ := args2 h2
        cases hl
        exact ok_mm (mx := false) hop hc hx1 hx2 hx3
      · cases hl
  | _ => rw [hop] at hl; simp [lowO] at hl

theorem unfz_id {io : IOp} (h : ∀ fz k n z ps, io ≠ .bsl fz k n z ps) : unfz io = io := by
  cases io <;> first | rfl | (exact absurd rfl (h _ _ _ _ _))

theorem low_bsl {o : Op} {fz : Bool} {k n : Nat} {z : List V} {ps : List (Nat × A)} (h : lowO P o = some (.bsl fz k n z ps)) : ∃ t m parts, o = .buildSlice t m parts := by
  cases o <;> simp only [lowO] at h <;> first
    | exact ⟨_, _, _, rfl⟩
    | (exfalso; revert h; (repeat' split) <;> simp)

theorem op_okU {o : Oper} {io : IOp} (hl : lowO P o.op = some (unfz io)) : OpOK P o io := by
  by_cases hb : ∃ fz k n z ps, io = .bsl fz k n z ps
  · obtain ⟨fz, k, n, z, ps, rfl⟩ := hb
    obtain ⟨t, m, parts, hop⟩ := low_bsl hl
    exact ok_bsl hop hl
  · rw [unfz_id (fun fz k n z ps e => hb ⟨fz, k, n, z, ps, e⟩)] at hl
    exact op_ok hl

def unfzE (el : IEl) : IEl := ⟨el.dst, el.grd, unfz el.op⟩
end Go.Sh
end
section
namespace Go.Sh
open Go.RowKit
set_option linter.unusedVariables false
set_option linter.unusedSimpArgs false

variable {P : Program} {nt : Nat} {fl : Bool}

theorem get_put_same (E : Env) (t : Nat) (v : V) : get (put E t v) t = some v := by simp [get, put]
theorem get_put_other {E : Env} {t t' : Nat} {v : V} (h : t ≠ t') : get (put E t v) t' = get E t' := by simp [get, put, h]

theorem RE.putO {c : Cx} {E : Env} {a : Act} (h : RE c E a.tmps) {d : Option Nat} (hd : ∀ x, d = some x → x < a.tmps.size) {v : V} {u : Value} (hv : R c v u) : RE c (Sh.putO E d v) (a.put d u).tmps := by
  cases d with
  | none => exact h
  | some d =>
    have hlt := hd d rfl
    intro t v' hg
    by_cases e : d = t
    · subst e
      rw [Sh.putO, get_put_same] at hg
      cases hg
      exact ⟨u, by simp [Act.put, hlt], hv⟩
    · rw [Sh.putO, get_put_other e] at hg
      obtain ⟨u', h1, h2⟩ := h t v' hg
      exact ⟨u', by simp only [Act.put]; rw [Array.getElem?_setIfInBounds_ne e]; exact h1, h2⟩

theorem put_size (a : Act) (d : Option Nat) (u : Value) : (a.put d u).tmps.size = a.tmps.size := by cases d <;> simp [Act.put]
theorem put_defers (a : Act) (d : Option Nat) (u : Value) : (a.put d u).defers = a.defers := by cases d <;> simp [Act.put]

theorem RE.keep {c : Cx} {E : Env} {tmps : Array Value} (h : RE c E tmps) (l : List Nat) : RE c (Sh.keep E l) tmps := by
  intro t v hg
  refine h t v ?_
  induction l with
  | nil => simp [Sh.keep, get] at hg
  | cons x r ih =>
    simp only [Sh.keep] at hg
    split at hg
    · rename_i v' hx
      simp only [get] at hg
      split at hg
      · rename_i e; subst e; cases hg; exact hx
      · exact ih hg
    · exact ih hg

/-- The marks that loops over functions leave among the deferred calls. -/
def Marks (c c' : Cx) (a a' : Act) : Prop :=
  ∃ Ds : List Nat, Ds.Nodup ∧ a'.defers = Ds.map (fun D => ({ target := .collected D, args := #[] } : Deferred)) ++ a.defers ∧
    ∀ D ∈ Ds, c.w.heap.size ≤ D ∧ c'.w.heap[D]? = some (.deferred (some [])) ∧ c'.X D ∧ ∀ id sz, c'.ρ id ≠ some (D, sz)

theorem Marks.refl (c : Cx) {a a' : Act} (h : a'.defers = a.defers) : Marks c c a a' := ⟨[], List.nodup_nil, by simp [h], fun D h => by cases h⟩

theorem Marks.trans {c0 c1 c2 : Cx} {a0 a1 a2 : Act} (h : Marks c0 c1 a0 a1) (k : Marks c1 c2 a1 a2) (s0 : Stp c0 c1) (s : Stp c1 c2) : Marks c0 c2 a0 a2 := by
  obtain ⟨Ds, h1, h2, h3⟩ := h
  obtain ⟨Es, k1, k2, k3⟩ := k
  refine ⟨Es ++ Ds, ?_, by rw [k2, h2]; simp, ?_⟩
  · refine List.nodup_append.2 ⟨k1, h1, fun x hx y hy e => ?_⟩
    subst e
    have := (k3 x hx).1
    have := lt_of_get (h3 x hy).2.1
    omega
  · intro D hD
    rcases List.mem_append.1 hD with hD | hD
    · obtain ⟨q1, q2, q4, q3⟩ := k3 D hD
      exact ⟨Nat.le_trans s0.size q1, q2, q4, q3⟩
    · obtain ⟨q1, q2, q4, q3⟩ := h3 D hD
      have hlt := lt_of_get q2
      refine ⟨q1, (s.keep D hlt q3).trans q2, (s.X D hlt).2 q3 q4, fun id sz e => ?_⟩
      rcases s.own id D sz e with g | ⟨id0, sz0, g⟩
      · omega
      · exact q3 id0 sz0 g

def APost (nt : Nat) (c : Cx) (a : Act) (Q : Exit → Env → List Blk → Prop) : Exit → Act → World → Prop :=
  fun e a' w' => ∃ E' H' c', c'.w = w' ∧ Q e E' H' ∧ a'.tmps.size = nt ∧ RE c' E' a'.tmps ∧ RH c' H' ∧ Stp c c' ∧ Marks c c' a a'

/-- **CODE OVER SHADOWS**: from slots E and blocks H it is left in a way that Q takes. -/
def AW (P : Program) (nt : Nat) (fl : Bool) (cd : Code) (E : Env) (H : List Blk) (Q : Exit → Env → List Blk → Prop) : Prop :=
  ∀ (rd : Option Nat) (n : Nat) (a : Act) (c : Cx), a.tmps.size = nt → RE c E a.tmps → RH c H → (fl = true → rd = none) → cd.wpIn (fnc rd) n P (APost nt c a Q) a c.w

theorem APost.trans {c c1 : Cx} {a a1 : Act} {Q : Exit → Env → List Blk → Prop} (s : Stp c c1) (m : Marks c c1 a a1) {e : Exit} {a2 : Act} {w2 : World} (h : APost nt c1 a1 Q e a2 w2) : APost nt c a Q e a2 w2 := by
  obtain ⟨E', H', c', h1, h2, h3, h4, h5, h6, h7⟩ := h
  exact ⟨E', H', c', h1, h2, h3, h4, h5, s.trans h6, m.trans h7 s h6⟩

theorem APost.mono {c : Cx} {a : Act} {Q Q' : Exit → Env → List Blk → Prop} (hq : ∀ e E H, Q e E H → Q' e E H) {e : Exit} {a2 : Act} {w2 : World} (h : APost nt c a Q e a2 w2) : APost nt c a Q' e a2 w2 := by
  obtain ⟨E', H', c', h1, h2, h3⟩ := h
  exact ⟨E', H', c', h1, hq _ _ _ h2, h3⟩

theorem AW.mono {cd : Code} {E : Env} {H : List Blk} {Q Q' : Exit → Env → List Blk → Prop} (h : AW P nt fl cd E H Q) (hq : ∀ e E H, Q e E H → Q' e E H) : AW P nt fl cd E H Q' :=
  fun rd n a c h1 h2 h3 h4 => wpIn_mono (h rd n a c h1 h2 h3 h4) fun _ _ _ => APost.mono hq

/-! ### operations one after the other -/
theorem yielded_of {ops : Array Oper} {j s : Nat} {tmps : Array Value} {x : Bool} (hs : slotOf ops j = some s) (ht : tmps[s]? = some (.bool x)) : yielded ops tmps j = some x := by
  unfold yielded
  unfold slotOf at hs
  simp [hs, ht]

theorem yielded_und {ops : Array Oper} {j s : Nat} {tmps : Array Value} (hs : slotOf ops j = some s) (ht : tmps[s]? = some undef) : yielded ops tmps j = none := by
  unfold yielded
  unfold slotOf at hs
  simp [hs, ht, undef]

theorem seq_ops {ops : Array Oper} {Q : Exit → Act → World → Prop} {rd : Option Nat} {n : Nat} (k : Nat) : ∀ (i : Nat) (els : List IEl) (a : Act) (c : Cx) (E : Env) (H : List Blk) (K : Env → List Blk → Prop), i + k = ops.size →
    lowEls P nt ops (ops.toList.drop i) = some (els.map unfzE) → a.tmps.size = nt → RE c E a.tmps → RH c H → seqI P els E H K →
    (∀ E' H' a' c', K E' H' → a'.tmps.size = nt → a'.defers = a.defers → RE c' E' a'.tmps → RH c' H' → Stp c c' → Q .normal a' c'.w) → wpOpsIn (fnc rd) n P ops Q (List.range' i k) a c.w := by
  induction k with
  | zero =>
    intro i els a c E H K hi hl hsz hE hH hs hK
    rw [List.drop_eq_nil_of_le (by simp; omega)] at hl
    obtain rfl : els = [] := by
      cases els with
      | nil => rfl
      | cons x r => simp [lowEls] at hl
    simp only [List.range'_zero, wpOpsIn]
    exact hK E H a c hs hsz rfl hE hH (Stp.refl c)
  | succ k ih =>
    intro i els a c E H K hi hl hsz hE hH hs hK
    have hlt : i < ops.size := by omega
    have hget : ops[i]? = some ops[i] := Array.getElem?_eq_getElem hlt
    rw [List.drop_eq_getElem_cons (by simpa using hlt)] at hl
    simp only [lowEls] at hl
    split at hl
    · rename_i el0 l0 h1 h2
      obtain ⟨el', l, rfl, he, hl'⟩ : ∃ el' l, els = el' :: l ∧ unfzE el' = el0 ∧ l.map unfzE = l0 := by
        cases els with
        | nil => simp at hl
        | cons x r => simp at hl; exact ⟨x, r, rfl, hl.1.symm, hl.2.symm⟩
      subst hl'
      obtain ⟨dst', grd', op'⟩ := el'
      have hq : ops.toList[i]'(by simpa using hlt) = ops[i] := by simp
      rw [hq] at h1
      simp only [lowEl] at h1
      split at h1
      · cases h1
      · rename_i op hop
        split at h1
        · rename_i hdst
          have hd : ∀ x, ops[i].dst = some x → x < a.tmps.size := by
            intro x hx
            rw [hx] at hdst
            simpa [hsz, dstOk] using hdst
          have hgo : ∀ (v : V) (H' : List Blk) (c' : Cx) (u : Value), seqI P l (putO E ops[i].dst v) H' K → RH c' H' → R c' v u → Stp c c' → wpOpsIn (fnc rd) n P ops Q (List.range' (i + 1) k) (a.put ops[i].dst u) c'.w := by
            intro v H' c' u hK' hH' hR hst
            exact ih (i + 1) l (a.put ops[i].dst u) c' _ H' K (by omega) h2 (by rw [put_size]; exact hsz) ((hE.mono (hst.sub hH)).putO hd hR) hH' hK' (fun E' H'' a' c'' k1 k2 k3 k4 k5 k6 => hK E' H'' a' c'' k1 k2 (by rw [k3, put_defers]) k4 k5 (hst.trans k6))
          rw [List.range'_succ]
          simp only [wpOpsIn, hget]
          split at h1
          · rename_i hg
            simp only [Option.some.injEq] at h1
            subst h1
            simp only [unfzE, IEl.mk.injEq] at he
            obtain ⟨rfl, rfl, rfl⟩ := he
            rw [if_pos (by simp [Region.wanted, hg])]
            exact op_okU hop rd n a c E H _ _ Q hE hH hs hgo
          · rename_i j t hg
            split at h1
            · rename_i s hsl
              simp only [Option.some.injEq] at h1
              subst h1
              simp only [unfzE, IEl.mk.injEq] at he
              obtain ⟨rfl, rfl, rfl⟩ := he
              simp only [seqI] at hs
              split at hs
              · rename_i x hx
                obtain ⟨u, hu1, hu2⟩ := hE s _ hx
                rw [hu2.bool_inv] at hu1
                have hy := yielded_of hsl hu1
                by_cases hxt : x = t
                · rw [if_pos (by simp [Region.wanted, hg, hy, hxt])]
                  exact op_okU hop rd n a c E H _ _ Q hE hH (hs.1 hxt) hgo
                · rw [if_neg (by simp [Region.wanted, hg, hy, hxt])]
                  refine ⟨fun f _ => fnc_fn rd f, ?_⟩
                  exact hgo .skp H c undef (hs.2 (by cases x <;> cases t <;> simp_all)) hH .skp (Stp.refl c)
              · rename_i hx
                obtain ⟨u, hu1, hu2⟩ := hE s _ hx
                rw [hu2.skp_inv] at hu1
                have hy := yielded_und (ops := ops) hsl hu1
                rw [if_neg (by simp [Region.wanted, hg, hy])]
                refine ⟨fun f _ => fnc_fn rd f, ?_⟩
                exact hgo .skp H c undef hs hH .skp (Stp.refl c)
              · exact hs.elim
            · cases h1
        · cases h1
    · cases hl

theorem AW_region {id : Nat} {ops : Array Oper} {els : List IEl} {E : Env} {H : List Blk} {Q : Exit → Env → List Blk → Prop} (hl : lowEls P nt ops ops.toList = some (els.map unfzE)) (hs : seqI P els E H (Q .normal)) : AW P nt fl (.region id ops false) E H Q := by
  intro rd n a c hsz hE hH hrd
  refine wpIn_region ?_
  rw [List.range_eq_range']
  refine seq_ops ops.size 0 els a c E H _ (by omega) (by simpa using hl) hsz hE hH hs ?_
  intro E' H' a' c' k1 k2 k3 k4 k5 k6
  refine ⟨E', H', c', rfl, k1, k2, k4, k5, k6, ?_⟩
  exact ⟨[], List.nodup_nil, by simp [k3], fun D h => by cases h⟩

/-! ### control -/
theorem AW_skip {E : Env} {H : List Blk} {Q : Exit → Env → List Blk → Prop} (h : Q .normal E H) : AW P nt fl .skip E H Q :=
  fun rd n a c hsz hE hH hrd => wpIn_skip ⟨E, H, c, rfl, h, hsz, hE, hH, Stp.refl c, Marks.refl c rfl⟩
theorem AW_ret {E : Env} {H : List Blk} {Q : Exit → Env → List Blk → Prop} (h : Q .ret E H) : AW P nt fl .ret E H Q :=
  fun rd n a c hsz hE hH hrd => wpIn_ret ⟨E, H, c, rfl, h, hsz, hE, hH, Stp.refl c, Marks.refl c rfl⟩
theorem AW_exit {id : Nat} {E : Env} {H : List Blk} {Q : Exit → Env → List Blk → Prop} (h : Q (.exit id) E H) : AW P nt fl (.exit id) E H Q :=
  fun rd n a c hsz hE hH hrd => wpIn_exit ⟨E, H, c, rfl, h, hsz, hE, hH, Stp.refl c, Marks.refl c rfl⟩

def th (K : Env → List Blk → Prop) (Q : Exit → Env → List Blk → Prop) (s : StopK (K, Q) := .mk) : Exit → Env → List Blk → Prop
  | .normal, E, H => K E H
  | e, E, H => Q e E H

theorem AW_seq {x y : Code} {E : Env} {H : List Blk} {Q : Exit → Env → List Blk → Prop} (h : AW P nt fl x E H (th (fun E H => AW P nt fl y E H Q) Q)) : AW P nt fl (.seq x y) E H Q := by
  intro rd n a c hsz hE hH hrd
  refine wpIn_seq (wpIn_mono (h rd n a c hsz hE hH hrd) ?_)
  rintro e a' w' ⟨E', H', c', rfl, h1, h2, h3, h4, h5, h6⟩
  cases e with
  | normal => exact wpIn_mono (h1 rd n a' c' h2 h3 h4 hrd) fun _ _ _ => APost.trans h5 h6
  | _ => exact ⟨E', H', c', rfl, h1, h2, h3, h4, h5, h6⟩

theorem AW_cond {cc : Operand} {x : A} {cx : Bool} {A1 A2 : Code} {E : Env} {H : List Blk} {Q : Exit → Env → List Blk → Prop} (hl : lowA cc = some x) (hc : ev E x = .b cx) (h1 : cx = true → AW P nt fl A1 E H Q) (h2 : cx = false → AW P nt fl A2 E H Q) :
    AW P nt fl (.cond cc A1 A2) E H Q := by
  intro rd n a c hsz hE hH hrd
  have hx := evA hE hl
  rw [hc] at hx
  cases cx with
  | true => exact wpIn_cond hx.bool_inv (h1 rfl rd n a c hsz hE hH hrd)
  | false => exact wpIn_cond hx.bool_inv (h2 rfl rd n a c hsz hE hH hrd)

def inB (id : Nat) (Q : Exit → Env → List Blk → Prop) (s : StopK Q := .mk) : Exit → Env → List Blk → Prop
  | .exit id', E, H => if id' = id then Q .normal E H else Q (.exit id') E H
  | e, E, H => Q e E H

theorem AW_block {id : Nat} {x : Code} {E : Env} {H : List Blk} {Q : Exit → Env → List Blk → Prop} (h : AW P nt fl x E H (inB id Q)) : AW P nt fl (.block id x) E H Q := by
  intro rd n a c hsz hE hH hrd
  refine wpIn_block (wpIn_mono (h rd n a c hsz hE hH hrd) ?_)
  rintro e a' w' ⟨E', H', c', rfl, h1, h2, h3, h4, h5, h6⟩
  cases e with
  | exit id' =>
    simp only [inB] at h1
    simp only [Exit.inBlock]
    split
    · rename_i he; rw [if_pos he] at h1; exact ⟨E', H', c', rfl, h1, h2, h3, h4, h5, h6⟩
    · rename_i he; rw [if_neg he] at h1; exact ⟨E', H', c', rfl, h1, h2, h3, h4, h5, h6⟩
  | _ => exact ⟨E', H', c', rfl, h1, h2, h3, h4, h5, h6⟩

theorem stepR_scope {b : Frame} {a : Act} {k : List Item} {cs : List Frame} {w : World} {c : Code} : step P (lone (b.atR a (.code (.scope c) :: k)) cs w) = .next (lone (b.atR a (.code c :: .inScope c :: k)) cs w) :=
  step_lone_go (by simp [stepG, stepG.exec, Frame.atR])
theorem stepR_inScope {b : Frame} {a : Act} {k : List Item} {cs : List Frame} {w : World} {c : Code} : step P (lone (b.atR a (.inScope c :: k)) cs w) = .next (lone (b.atR a k) cs w) :=
  step_lone_go (by simp [stepG, stepG.exec, Frame.atR])

/-- No jump to a label. -/
def noG (Q : Exit → Env → List Blk → Prop) (s : StopK Q := .mk) : Exit → Env → List Blk → Prop
  | .goto _, _, _ => False
  | e, E, H => Q e E H

theorem wpIn_scope {F : Fence} {n : Nat} {c : Code} {Q : Exit → Act → World → Prop} {a : Act} {w : World} (h : c.wpIn F n P (fun e a w => (∀ l, e ≠ .goto l) ∧ Q e a w) a w) : (Code.scope c).wpIn F n P Q a w := by
  intro b k cs hro hb hr
  have h0 : (lone (b.atR a (.code (.scope c) :: k)) cs w).fenced P F := fenced_calm hb hr rfl
  obtain ⟨e, a₁, w₁, ⟨hg, hq⟩, harr⟩ := h b (.inScope c :: k) cs hro hb hr
  cases e with
  | normal => exact ⟨.normal, a₁, w₁, hq, .head h0 stepR_scope (StepsIn.trans harr (.one (fenced_calm hb hr rfl) stepR_inScope))⟩
  | exit id =>
    have hx : exitTo id (.inScope c :: k) = exitTo id k := by simp [exitTo]
    exact ⟨.exit id, a₁, w₁, hq, fun k' hk => .head h0 stepR_scope (harr.1 k' (by rw [hx]; exact hk)),
      fun hr' hk => let ⟨k₁, h1, h2⟩ := harr.2 hr' (by rw [hx]; exact hk); ⟨k₁, h1, .head h0 stepR_scope h2⟩⟩
  | goto l => exact absurd rfl (hg l)
  | ret => exact ⟨_, a₁, w₁, hq, .of_steps (.one h0 stepR_scope) harr⟩
  | panic ch => exact ⟨_, a₁, w₁, hq, .of_steps (.one h0 stepR_scope) harr⟩
  | outgrown => exact ⟨_, a₁, w₁, hq, .of_steps (.one h0 stepR_scope) harr⟩

theorem AW_scope {x : Code} {E : Env} {H : List Blk} {Q : Exit → Env → List Blk → Prop} (h : AW P nt fl x E H (noG Q)) : AW P nt fl (.scope x) E H Q := by
  intro rd n a c hsz hE hH hrd
  refine wpIn_scope (wpIn_mono (h rd n a c hsz hE hH hrd) ?_)
  rintro e a' w' ⟨E', H', c', rfl, h1, h2, h3, h4, h5, h6⟩
  refine ⟨fun l hl => ?_, E', H', c', rfl, ?_, h2, h3, h4, h5, h6⟩
  · subst hl; exact h1
  · cases e <;> first | exact h1 | exact h1.elim

theorem least (p : Nat → Prop) : ∀ n, p n → ∃ m, p m ∧ ∀ k, k < m → ¬ p k := by
  intro n
  induction n using Nat.strongRecOn with
  | _ n ih =>
    intro h
    by_cases h1 : ∃ k, k < n ∧ p k
    · obtain ⟨k, hk, hp⟩ := h1; exact ih k hk hp
    · exact ⟨n, h, fun k hk hp => h1 ⟨k, hk, hp⟩⟩

theorem wpIn_loopN {F : Fence} {n : Nat} {c : Code} {Q : Exit → Act → World → Prop} {a : Act} {w : World} (I : Nat → Act → World → Prop) (j : Nat) (h₀ : I j a w)
    (round : ∀ j a w, I j a w → c.wpIn F n P (Exit.then (fun a' w' => ∃ j', j' < j ∧ I j' a' w') Q) a w) : (Code.loop c).wpIn F n P Q a w := by
  have hm : ∀ a w, ∃ m, (∃ j, I j a w) → I m a w ∧ ∀ k, k < m → ¬ I k a w := fun a w => by
    by_cases h : ∃ j, I j a w
    · obtain ⟨j, hj⟩ := h
      obtain ⟨m, h1, h2⟩ := least (fun j => I j a w) j hj
      exact ⟨m, fun _ => ⟨h1, h2⟩⟩
    · exact ⟨0, fun h' => absurd h' h⟩
  refine wpIn_loop (fun a w => ∃ j, I j a w) (fun a w => (hm a w).choose) ⟨j, h₀⟩ fun a w hI => ?_
  have h1 := (hm a w).choose_spec hI
  refine wpIn_mono (round _ a w h1.1) ?_
  rintro e a' w' he
  cases e with
  | normal =>
    obtain ⟨j', hlt, hj'⟩ := he
    refine ⟨⟨j', hj'⟩, ?_⟩
    have h2 := (hm a' w').choose_spec ⟨j', hj'⟩
    rcases Nat.lt_or_ge j' (hm a' w').choose with h | h
    · exact absurd hj' (h2.2 j' h)
    · exact Nat.lt_of_le_of_lt h hlt
  | _ => exact he

/-- A loop: I tells slots and blocks at its head, for each number of rounds that are left at most. -/
theorem AW_loop {x : Code} (I : Nat → Env → List Blk → Prop) (Q : Exit → Env → List Blk → Prop)
    (h : ∀ j E H, I j E H → AW P nt fl x E H (th (fun E' H' => ∃ j', j' < j ∧ I j' E' H') Q)) {j : Nat} {E : Env} {H : List Blk} (h0 : I j E H) : AW P nt fl (.loop x) E H Q := by
  intro rd n a c hsz hE hH hrd
  refine wpIn_loopN (fun j a' w' => ∃ (E' : Env) (H' : List Blk) (c' : Cx), c'.w = w' ∧ I j E' H' ∧ a'.tmps.size = nt ∧ RE c' E' a'.tmps ∧ RH c' H' ∧ Stp c c' ∧ Marks c c' a a') j
    ⟨E, H, c, rfl, h0, hsz, hE, hH, Stp.refl c, Marks.refl c rfl⟩ ?_
  rintro j a1 w1 ⟨E1, H1, c1, rfl, g1, g2, g3, g4, g5, g6⟩
  refine wpIn_mono (h j E1 H1 g1 rd n a1 c1 g2 g3 g4 hrd) ?_
  rintro e a' w' he
  have ht := APost.trans g5 g6 he
  obtain ⟨E', H', c', rfl, h1, h2, h3, h4, h5, h6⟩ := ht
  cases e with
  | normal =>
    obtain ⟨j', hlt, hj'⟩ := h1
    exact ⟨j', hlt, E', H', c', rfl, hj', h2, h3, h4, h5, h6⟩
  | _ => exact ⟨E', H', c', rfl, h1, h2, h3, h4, h5, h6⟩
end Go.Sh
end
section
namespace Go.Sh
open Go.RowKit
set_option linter.unusedVariables false
set_option linter.unusedSimpArgs false

variable {P : Program}

inductive IRes where
  | tmp (t : Nat)
  | cell (t : Nat) (sz : Option Nat)
  deriving Inhabited

def lowRes (P : Program) : ResultVar → Option IRes
  | .tmp t => some (.tmp t)
  | .cell a t => (ldSz P t).map (.cell a)

def lowRess (P : Program) : List ResultVar → Option (List IRes)
  | [] => some []
  | x :: r => match lowRes P x, lowRess P r with | some a, some l => some (a :: l) | _, _ => none

def resI1 (E : Env) (H : List Blk) : IRes → Option V
  | .tmp t => get E t
  | .cell t sz => match get E t with
    | some (.rpt id k r off) => match H[id]? with
      | some (.row k' rows) => if k = k' then (match rows[r]? with | some row => ldRow sz row off | none => none) else none
      | _ => none
    | _ => none

def resIs (E : Env) (H : List Blk) : List IRes → Option (List V)
  | [] => some []
  | x :: r => match resI1 E H x, resIs E H r with | some a, some l => some (a :: l) | _, _ => none

def resV : List V → V | [v] => v | vs => .tup vs

def resOne (tmps : Array Value) : ResultVar → Sem Value
  | .tmp t => pure (tmps.getD t undef)
  | .cell a t => do loadVar t (← asAddr (tmps.getD a undef))

theorem results_eq (fn : Func) (tmps : Array Value) : results fn tmps = (do
    let vs ← fn.results.mapM (resOne tmps)
    pure (if h : vs.size = 1 then vs[0] else .tuple vs)) := rfl

theorem run_res1 {c : Cx} {E : Env} {H : List Blk} {tmps : Array Value} (hE : RE c E tmps) (hH : RH c H) {x : ResultVar} {y : IRes} (hl : lowRes P x = some y) {v : V} (hv : resI1 E H y = some v) :
    ∃ u, (resOne tmps x).run P c.w = .ok u c.w ∧ R c v u := by
  cases x with
  | tmp t =>
    simp only [lowRes] at hl
    cases hl
    obtain ⟨u, h1, h2⟩ := hE t v hv
    exact ⟨u, by simp [resOne, Array.getD_eq_getD_getElem?, h1], h2⟩
  | cell a t =>
    simp only [lowRes, Option.map_eq_some_iff] at hl
    obtain ⟨sz, hsz, rfl⟩ := hl
    simp only [resI1] at hv
    split at hv
    · rename_i id k r off hg
      split at hv
      · rename_i k' rows hb
        split at hv
        · rename_i hk
          subst hk
          split at hv
          · rename_i row hr
            obtain ⟨u, h1, h2⟩ := hE a _ hg
            obtain ⟨b, s, hρ, hseen, _⟩ := hH.seen hb hr
            have hu : u = .pointer (some ⟨b, r * k + off, none⟩) := by
              cases h2 with
              | rpt _ _ _ _ ad hi _ hp => rw [hp b s hρ]
            subst hu
            obtain ⟨u, hrun, hR⟩ := run_loadRow (P := P) hseen hsz hv
            refine ⟨u, ?_, hR⟩
            have : (loadVar t ⟨b, r * k + off, none⟩).run P c.w = .ok u c.w := by simpa [Instr.loadAt, Instr.sureAddr] using hrun
            simp [resOne, Array.getD_eq_getD_getElem?, h1, asAddr, this]
          · cases hv
        · cases hv
      · cases hv
    · cases hv

theorem run_ress {c : Cx} {E : Env} {H : List Blk} {tmps : Array Value} (hE : RE c E tmps) (hH : RH c H) : ∀ {xs : List ResultVar} {ys : List IRes} {vs : List V}, lowRess P xs = some ys → resIs E H ys = some vs →
    ∃ us : List Value, (xs.mapM (resOne tmps)).run P c.w = .ok us c.w ∧ RL c vs us
  | [], ys, vs, h1, h2 => by
    cases h1
    simp [resIs] at h2
    subst h2
    exact ⟨[], by simp, rfl, fun j v u e => by simp at e⟩
  | x :: r, ys, vs, h1, h2 => by
    simp only [lowRess] at h1
    split at h1
    · rename_i a l e1 e2
      cases h1
      simp only [resIs] at h2
      split at h2
      · rename_i v vl e3 e4
        cases h2
        obtain ⟨u, g1, g2⟩ := run_res1 hE hH e1 e3
        obtain ⟨us, k1, k2, k3⟩ := run_ress hE hH e2 e4
        refine ⟨u :: us, ?_, by simp [k2], fun j v' u' e5 e6 => ?_⟩
        · simp only [List.mapM_cons, Sem.run_bind, g1, Result.andThen_ok, k1, Sem.run_pure]
        · cases j with
          | zero => simp at e5 e6; subst e5 e6; exact g2
          | succ j => exact k3 j v' u' (by simpa using e5) (by simpa using e6)
      · cases h2
    · cases h1

theorem run_results {c : Cx} {E : Env} {H : List Blk} {fn : Func} {tmps : Array Value} (hE : RE c E tmps) (hH : RH c H) {ys : List IRes} {vs : List V} (h1 : lowRess P fn.results.toList = some ys) (h2 : resIs E H ys = some vs) :
    ∃ u, (results fn tmps).run P c.w = .ok u c.w ∧ R c (resV vs) u := by
  obtain ⟨us, g1, g2, g3⟩ := run_ress hE hH h1 h2
  refine ⟨if h : us.toArray.size = 1 then us.toArray[0] else .tuple us.toArray, ?_, ?_⟩
  · simp only [results_eq, Array.mapM_eq_mapM_toList, Sem.run_bind, Sem.run_map, g1, Result.andThen_ok, Sem.run_pure]
  · cases vs with
    | nil =>
      have : us = [] := by simpa using g2.symm
      subst this
      exact R.tup (c := c) [] [] rfl g3
    | cons v r =>
      cases r with
      | nil =>
        cases us with
        | nil => simp at g2
        | cons u ur =>
          cases ur with
          | nil => simpa [resV] using g3 0 v u rfl rfl
          | cons _ _ => simp at g2
      | cons v2 r =>
        have hne : ¬ us.toArray.size = 1 := by simp at g2 ⊢; omega
        rw [dif_neg hne]
        exact R.tup (c := c) _ us g2 g3

/-! ### what a function leaves -/

/-- One's own lists from name n on are nobody's any more: they are read as lists. -/
inductive Frz (n : Nat) (H : List Blk) : V → V → Prop
  | keep (v : V) : v.bel n = true → Frz n H v v
  | sl (id k off len cap : Nat) (ex : Bool) (rows rows' : List (List V)) : n ≤ id → H[id]? = some (.row k rows) → off + len ≤ rows.length → rows'.length = len → (∀ row ∈ rows', belL 0 row = true) →
      (∀ (i : Nat) (row row' : List V), ((rows.drop off).take len)[i]? = some row → rows'[i]? = some row' → row.length = row'.length) →
      (∀ (i : Nat) (row row' : List V) (j : Nat) (v v' : V), ((rows.drop off).take len)[i]? = some row → rows'[i]? = some row' → row[j]? = some v → row'[j]? = some v' → Frz n H v v') →
      Frz n H (.rsl id k off len cap ex) (.fsl rows')
  | nil : Frz n H .nsl (.fsl [])
  | emp : Frz n H .fs0 (.fsl [])
  | agg (cs cs' : List V) : cs.length = cs'.length → (∀ (j : Nat) (v v' : V), cs[j]? = some v → cs'[j]? = some v' → Frz n H v v') → Frz n H (.agg cs) (.agg cs')
  | tup (cs cs' : List V) : cs.length = cs'.length → (∀ (j : Nat) (v v' : V), cs[j]? = some v → cs'[j]? = some v' → Frz n H v v') → Frz n H (.tup cs) (.tup cs')
  | pt (id k r off : Nat) (rows : List (List V)) (row row' : List V) : n ≤ id → H[id]? = some (.row k rows) → rows[r]? = some row → row.length = row'.length → belL 0 row' = true →
      (∀ (j : Nat) (v v' : V), row[j]? = some v → row'[j]? = some v' → Frz n H v v') → Frz n H (.rpt id k r off) (.fpt row' off)
  | fn (f : Fn) (fs fs' cs cs' : List V) : fs.length = fs'.length → cs.length = cs'.length → (∀ (j : Nat) (v v' : V), fs[j]? = some v → fs'[j]? = some v' → Frz n H v v') →
      (∀ (j : Nat) (v v' : V), cs[j]? = some v → cs'[j]? = some v' → Frz n H v v') → Frz n H (.fn f fs cs) (.fn f fs' cs')
  | ifc (t : TypeId) (v v' : V) : Frz n H v v' → Frz n H (.ifc t v) (.ifc t v')

def Blk.bel (n : Nat) (blk : Blk) : Prop := ∀ v, blk.has v → v.bel n = true

/-- What a function may leave: the blocks that were there are there, and name no new ones; of the new ones the result keeps what it shows. -/
structure Fin (H : List Blk) (H2 : List Blk) (v r : V) (H' : List Blk) : Prop where
  cut : H2.take H.length = H'
  len : H.length ≤ H2.length
  alive : ∀ id, id < H.length → H2[id]? = some .dead → H[id]? = some .dead
  old : ∀ id blk, id < H.length → H2[id]? = some blk → H[id]? = some blk ∨ blk.bel H.length
  frz : Frz H.length H2 v r

/-- The context at a function's end. -/
def outer (c c2 : Cx) (n : Nat) : Cx :=
  { w := c2.w, X := fun b => (b < c.w.heap.size ∧ c2.X b) ∨ (c.w.heap.size ≤ b ∧ ∃ id sz, id < n ∧ c2.ρ id = some (b, sz)), ρ := fun id => if id < n then c2.ρ id else none, N := n }

theorem outer_subN {c c2 : Cx} {n : Nat} (s : Stp c c2) (hX : ∀ id b sz, c2.ρ id = some (b, sz) → c2.X b) : SubN n c2 (outer c c2 n) where
  keep := fun b hb hx => ⟨rfl, fun h => by
    rcases h with ⟨h1, h2⟩ | ⟨h1, id, sz, h2, h3⟩
    · exact hx h2
    · exact hx (hX id b sz h3)⟩
  N := fun id h _ => h
  ρ := fun id h _ => .inl (by simp [outer, h])

theorem frz_R {c c2 : Cx} {H H2 : List Blk} (hH : RH c H) (hH2 : RH c2 H2) (s : Stp c c2) (halive : ∀ id, id < H.length → H2[id]? = some .dead → H[id]? = some .dead) {v r : V} (hf : Frz H.length H2 v r) :
    ∀ {u : Value}, R c2 v u → R (outer c c2 H.length) r u := by
  have hsub := outer_subN (n := H.length) s (fun id b sz e => hH2.ownX e)
  have fresh : ∀ id b sz, H.length ≤ id → c2.ρ id = some (b, sz) → ¬ (outer c c2 H.length).X b := by
    intro id b sz hid hρ hx
    rcases hx with ⟨h1, h2⟩ | ⟨h1, id', sz', h2, h3⟩
    · rcases s.own id b sz hρ with g | ⟨id0, sz0, g⟩
      · omega
      · have hlt : id0 < H.length := by
          rcases Nat.lt_or_ge id0 H.length with h | h
          · exact h
          · rw [hH.gone id0 (.inl (by simp; exact h))] at g; cases g
        have hnd : H[id0]? ≠ some .dead := fun e => by rw [hH.gone id0 (.inr e)] at g; cases g
        have hnd2 : H2[id0]? ≠ some .dead := fun e => hnd (halive id0 hlt e)
        have hN : H.length ≤ H2.length := by have := s.N; rw [hH.N, hH2.N] at this; exact this
        have h3 : ∃ blk, H2[id0]? = some blk := ⟨H2[id0]'(by omega), by simp [show id0 < H2.length by omega]⟩
        obtain ⟨blk, hblk⟩ := h3
        obtain ⟨b', sz', h4, _⟩ := hH2.live id0 blk hblk (fun e => hnd2 (by rw [hblk, e]))
        rcases s.ρ id0 (by rw [hH.N]; exact hlt) with e | e
        · rw [g] at e
          have := hH2.inj id id0 b sz sz0 hρ e
          omega
        · rw [h4] at e; cases e
    · have := hH2.inj id id' b sz sz' hρ h3
      omega
  induction hf with
  | nil => intro u h; cases h; exact .fsl0 none 0 (fun _ => rfl)
  | emp => intro u h; cases h; exact .fsl0 _ 0 (fun _ => rfl)
  | keep v hv => intro u h; exact h.rectx hsub hv
  | sl id k off len cap ex rows rows' hid hb hle hl hbel hel _ ih =>
    intro u h
    cases h with
    | rsl _ _ _ _ _ _ a q hi hsp hlq hcq hex hp =>
      obtain ⟨b, sz, hρ, _, cells, e, g1, g2, g3, g4, g5, g6⟩ := hH2.live id _ hb (by simp)
      obtain ⟨p1, p2⟩ := hp b sz hρ
      by_cases h0 : len = 0
      · subst h0
        have : rows' = [] := List.eq_nil_of_length_eq_zero hl
        subst this
        exact .fsl0 (some a) q (by simp)
      · rw [p1 (by omega)]
        subst hl
        have htl : ((rows.drop off).take rows'.length).length = rows'.length := take_len hle
        refine .fsl rows' b (off * k) k q cells e (0, 0) g1 (fresh id b sz hid hρ) ?_ ?_ hlq hbel ?_
        · intro row' hr'
          obtain ⟨i, hi'⟩ := List.getElem?_of_mem hr'
          have hil := (List.getElem?_eq_some_iff.1 hi').1
          have hrow : ((rows.drop off).take rows'.length)[i]? = some (((rows.drop off).take rows'.length)[i]'(by omega)) := by simp [htl, hil]
          rw [← hel i _ row' hrow hi']
          exact g3 _ (List.mem_of_mem_drop (List.mem_of_mem_take (List.getElem_mem _)))
        · have : (off + rows'.length) * k ≤ rows.length * k := Nat.mul_le_mul_right _ hle
          rw [Nat.add_mul] at this
          omega
        · intro i row' j v' u' h1 h2 h3
          have hil := (List.getElem?_eq_some_iff.1 h1).1
          have hrow : ((rows.drop off).take rows'.length)[i]? = some (((rows.drop off).take rows'.length)[i]'(by omega)) := by simp [htl, hil]
          have e1 := hel i _ row' hrow h1
          have hjl : j < (((rows.drop off).take rows'.length)[i]'(by omega)).length := by rw [e1]; exact (List.getElem?_eq_some_iff.1 h2).1
          have hv : (((rows.drop off).take rows'.length)[i]'(by omega))[j]? = some ((((rows.drop off).take rows'.length)[i]'(by omega))[j]) := by simp [hjl]
          refine ih i _ row' j _ v' hrow h1 hv h2 ?_
          rw [List.getElem?_take, if_pos hil, List.getElem?_drop] at hrow
          refine g6 (off + i) _ j _ u' hrow hv ?_
          rw [Nat.zero_add, Nat.add_mul]
          exact h3
  | agg cs cs' hl _ ih =>
    intro u h
    obtain ⟨us, rfl, h1, h2⟩ := h.agg_inv
    refine .agg cs' us (by omega) (fun j v' u' e1 e2 => ?_)
    have hjl : j < cs.length := by rw [hl]; exact (List.getElem?_eq_some_iff.1 e1).1
    have hv : cs[j]? = some cs[j] := by simp [hjl]
    exact ih j _ v' hv e1 (h2 j _ u' hv e2)
  | tup cs cs' hl _ ih =>
    intro u h
    obtain ⟨us, rfl, h1, h2⟩ := h.tup_inv
    refine .tup cs' us (by omega) (fun j v' u' e1 e2 => ?_)
    have hjl : j < cs.length := by rw [hl]; exact (List.getElem?_eq_some_iff.1 e1).1
    have hv : cs[j]? = some cs[j] := by simp [hjl]
    exact ih j _ v' hv e1 (h2 j _ u' hv e2)
  | pt id k r off rows row row' hid hb hr hl hbel _ ih =>
    intro u h
    cases h with
    | rpt _ _ _ _ ad hi _ hp =>
      obtain ⟨b, sz, hρ, ⟨cells, e, fz, g1, g2, g3⟩, hk⟩ := hH2.seen hb hr
      rw [hp b sz hρ]
      refine .fpt row' off b (r * k) cells e fz g1 (fresh id b sz hid hρ) (by omega) hbel (fun j v' u' e1 e2 => ?_)
      have hjl : j < row.length := by rw [hl]; exact (List.getElem?_eq_some_iff.1 e1).1
      have hv : row[j]? = some row[j] := by simp [hjl]
      exact ih j _ v' hv e1 (g3 j _ u' hv e2)
  | fn f fs fs' cs cs' h1 h2 _ _ ih1 ih2 =>
    intro u h
    cases h with
    | fn _ _ _ us vs k1 k2 k3 k4 =>
      refine .fn f fs' cs' us vs (by omega) (by omega) (fun j v' u' e1 e2 => ?_) (fun j v' u' e1 e2 => ?_)
      · have hjl : j < fs.length := by rw [h1]; exact (List.getElem?_eq_some_iff.1 e1).1
        have hv : fs[j]? = some fs[j] := by simp [hjl]
        exact ih1 j _ v' hv e1 (k3 j _ u' hv e2)
      · have hjl : j < cs.length := by rw [h2]; exact (List.getElem?_eq_some_iff.1 e1).1
        have hv : cs[j]? = some cs[j] := by simp [hjl]
        exact ih2 j _ v' hv e1 (k4 j _ u' hv e2)
  | ifc t v v' _ ih =>
    intro u h
    cases h with
    | ifc _ _ u0 h0 => exact .ifc t v' u0 (ih h0)
end Go.Sh
end
