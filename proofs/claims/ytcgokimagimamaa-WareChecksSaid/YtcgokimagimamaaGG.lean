/- Arguments made of integers, opened to their cells; the frame of a law that writes to no old memory and returns true. -/
import Derived.Test.YtcgokimagimamaaGA
import Derived.ProofKit
import Derived.Deep.Slices
import Derived.OpenShut
import Derived.SizedLaws
import Derived.Test.YtcgokimagimamaaRows
namespace Go.Proofs.Ytcgokimagimamaa
open Go.RowKit Go.ChangeShapes Go.WideShapes
set_option linter.unusedSimpArgs false
set_option linter.unusedVariables false
theorem ints_all : ∀ (l : List Value), (∀ v ∈ l, ∃ x, v = Value.int .i64 x) → ∃ xs : List Int, l = xs.map (Value.int .i64)
  | [], _ => ⟨[], rfl⟩
  | v :: t, h => by
    obtain ⟨x, rfl⟩ := h v (by simp)
    obtain ⟨xs, rfl⟩ := ints_all t (fun u hu => h u (by simp [hu]))
    exact ⟨x :: xs, rfl⟩
theorem len_succ {α : Type} {l : List α} {n : Nat} (h : l.length = n + 1) : ∃ x t, l = x :: t ∧ t.length = n := by
  cases l with
  | nil => simp at h
  | cons x t => exact ⟨x, t, rfl, by simpa using h⟩
theorem len_zero {α : Type} {l : List α} (h : l.length = 0) : l = [] := List.eq_nil_of_length_eq_zero h
/-- A struct or an array of 64-bit integers, by value. -/
def aggB (P : Program) (t : TypeId) : Bool :=
  (match P.underlying t with | some (.struct _) => true | some (.array _ _) => true | _ => false) &&
  (match P.cellTypes P.depth t with | some ts => ts.all (fun u => match P.underlying u with | some (.int .i64) => true | _ => false) | none => false)
theorem open_aggs {P : Program} {w : World} {r : Reach} {base : Nat} {t : TypeId} {v : Value} (n : Nat) (ha : aggB P t = true) (hn : P.cellsOf t = n) (h : Value.okWide P w r base t v) :
    ∃ l : List Int, v = .agg (l.map (Value.int .i64)).toArray ∧ l.length = n := by
  unfold aggB at ha
  rw [Bool.and_eq_true] at ha
  obtain ⟨ha, hi⟩ := ha
  have hx : ∃ cs, v = .agg cs ∧ cs.size = P.cellsOf t ∧ Row.okWide P w r base t cs := by
    unfold Value.okWide at h
    split at h
    · exact h
    · exact h
    · rename_i h1 h2
      split at ha
      · rename_i e; exact absurd e (h1 _)
      · rename_i e; exact absurd e (h2 _ _)
      · simp at ha
  obtain ⟨cs, rfl, hs, ts', ht', ⟨_, _⟩, hc⟩ := hx
  rw [ht'] at hi
  simp only [List.all_eq_true] at hi
  obtain ⟨xs, hxs⟩ := ints_all cs.toList (fun u hu => by
    obtain ⟨i, hi', rfl⟩ := List.mem_iff_getElem.1 hu
    obtain ⟨q, hq, ho⟩ := hc i cs[i] (by simp at hi'; simp [hi'])
    have e : P.underlying q = some (.int .i64) := by
      have := hi q (List.mem_of_getElem? hq)
      split at this
      · assumption
      · simp at this
    have ho2 : Value.okWide P w r base q cs[i] := by unfold Value.okWide; rw [e]; exact ho
    simpa using okWide_int e ho2)
  refine ⟨xs, by rw [← hxs], ?_⟩
  have := congrArg List.length hxs
  simp at this
  omega
/-- Types whose cells are 64-bit integers alone. -/
def intsB (P : Program) : Nat → TypeId → Bool
  | 0, _ => false
  | n + 1, t => match P.underlying t with
    | some (.int .i64) => true
    | some (.struct fs) => fs.toList.all (fun f => intsB P n f.type) && (List.range (P.cellsOf t)).all (fun i => fs.toList.any fun f => decide (f.offset ≤ i) && decide (i < f.offset + P.cellsOf f.type))
    | some (.array m e) => intsB P n e && (List.range (P.cellsOf t)).all (fun i => (List.range m).any fun k => decide (k * P.cellsOf e ≤ i) && decide (i < k * P.cellsOf e + P.cellsOf e))
    | _ => false
section
variable {H : Type} {enc : TypeId × Value → H} {P : Program} {w : World} {base : Nat} {spare : Nat → Bool} {held : Bool}
theorem mem_window {α : Type} {l : List α} {i o n : Nat} (hi : i < l.length) (h1 : o ≤ i) (h2 : i < o + n) : l[i] ∈ (l.drop o).take n := by
  rw [List.mem_iff_getElem]
  refine ⟨i - o, by simp; omega, ?_⟩
  simp only [List.getElem_take, List.getElem_drop]
  congr 1
  omega
theorem trod_ints : ∀ (n : Nat) {t : TypeId} {fuel : Nat} {cs : List Value} {x : DataW H × List MemPlace}, intsB P n t = true → DataW.trod enc P w base spare held fuel t cs = some x → ∀ v ∈ cs, ∃ k, v = Value.int .i64 k
  | 0, _, _, _, _, h, _ => by simp [intsB] at h
  | n + 1, t, fuel, cs, x, h, ht => by
    unfold intsB at h
    split at h
    · rename_i e
      cases fuel with
      | zero => simp [DataW.trod] at ht
      | succ m =>
        unfold DataW.trod at ht
        rw [e] at ht
        intro v hv
        split at ht <;> simp_all
    · rename_i fs e
      simp only [Bool.and_eq_true, List.all_eq_true, List.any_eq_true, List.mem_range, decide_eq_true_eq] at h
      obtain ⟨xs, m, _, _, hl, hxl, hf⟩ := DataW.trod_struct e ht
      intro v hv
      obtain ⟨i, hi, rfl⟩ := List.mem_iff_getElem.1 hv
      obtain ⟨f, hf1, h1, h2⟩ := h.2 i (by omega)
      obtain ⟨j, hj, rfl⟩ := List.mem_iff_getElem.1 hf1
      have hj2 : j < fs.size := by simpa using hj
      have hq := hf j fs[j] (by simp [hj2])
      have hx : xs[j]? = some (xs[j]'(by omega)) := List.getElem?_eq_getElem (by omega)
      rw [hx] at hq
      exact trod_ints n (h.1 _ hf1) hq _ (mem_window hi h1 h2)
    · rename_i m e hu
      simp only [Bool.and_eq_true, List.all_eq_true, List.any_eq_true, List.mem_range, decide_eq_true_eq] at h
      obtain ⟨xs, m', _, _, hl, hxl, hf⟩ := DataW.trod_array hu ht
      intro v hv
      obtain ⟨i, hi, rfl⟩ := List.mem_iff_getElem.1 hv
      obtain ⟨k, hk, h1, h2⟩ := h.2 i (by omega)
      have hq := hf k hk
      have hx : xs[k]? = some (xs[k]'(by omega)) := List.getElem?_eq_getElem (by omega)
      rw [hx] at hq
      exact trod_ints n h.1 hq _ (mem_window hi h1 h2)
    · simp at h
/-- A slice whose elements are of integers: its cells, in a row. -/
theorem open_rows (n : Nat) {t e : TypeId} {fuel : Nat} {cs : List Value} {x : DataW H × List MemPlace} (ht : P.underlying t = some (.slice e)) (hi : intsB P n e = true) (h : DataW.trod enc P w base spare held fuel t cs = some x) :
    cs = [.slice none 0 0] ∨ ∃ (a : Addr) (len cap : Nat), cs = [.slice (some a) len cap] ∧ base ≤ a.block ∧ len ≤ cap ∧ (∃ es sp, x.1 = .slice es sp ∧ es.length = len) ∧ ∀ i, i < len → ∀ j, j < P.cellsOf e → ∃ k, w.cell? (a.add (i * P.cellsOf e + j)) = some (.int .i64 k) := by
  rcases Go.Deep.open_slice ht h with h0 | ⟨a, len, cap, m, n', D, Pl, hcs, hb, hl, hm, hmm, hx, hel⟩
  · exact .inl h0.1
  · refine .inr ⟨a, len, cap, hcs, hb, hl, ⟨_, _, by rw [hx], by simp⟩, fun i him j hj => ?_⟩
    obtain ⟨cs', hc, ht'⟩ := hel i (by rw [hmm]; split <;> omega)
    obtain ⟨_, hcl, hat⟩ := World.cells?_some hc
    obtain ⟨k, hk⟩ := trod_ints n hi ht' (cs'[j]'(by omega)) (List.getElem_mem _)
    refine ⟨k, ?_⟩
    rw [← Go.Deep.add_add, hat j hj, List.getElem?_eq_getElem (by omega), hk]
end
/-- A slice of integers that reads as data: as a list. -/
theorem open_ints_rd {H : Type} {enc : TypeId × Value → H} {P : Program} {w : World} {t e : TypeId} {v : Value} {d : DataW H} {p : List MemPlace} (ht : P.underlying t = some (.slice e)) (he : P.underlying e = some (.int .i64)) (hc : P.cellsOf e = 1)
    (hv : ∃ A l c, v = .slice A l c) (h : DataW.Trod enc P w 0 (fun _ => true) true t v d p) : ∃ xs : List Int, Rd 1 (fun x => [.int .i64 x]) w v xs ∧ (xs = [] ∨ ∃ es sp, d = .slice es sp ∧ es.length = xs.length) := by
  obtain ⟨fuel, hf⟩ := h
  obtain ⟨A, l, c, rfl⟩ := hv
  have hvc : (Value.slice A l c).cells.toList = [.slice A l c] := rfl
  rw [hvc] at hf
  rcases open_rows 1 ht (by unfold intsB; rw [he]) hf with h0 | ⟨a, len, cap, hcs, hb, hle, ⟨es, sp, hd, hel2⟩, hel⟩
  · simp only [List.cons.injEq, and_true] at h0
    rw [h0]
    exact ⟨[], Rd.nil _ _ _, .inl rfl⟩
  · simp only [List.cons.injEq, and_true] at hcs
    cases hcs
    have hcell : ∀ i, i < l → ∃ k, w.cell? (a.add i) = some (.int .i64 k) := fun i hi => by
      have := hel i hi 0 (by omega)
      simpa [hc] using this
    refine ⟨(List.range l).map fun i => match w.cell? (a.add i) with | some (.int .i64 k) => k | _ => 0, ?_, .inr ⟨es, sp, hd, by simpa using hel2⟩⟩
    refine ⟨some a, c, by simp, by simpa using hle, fun hne => ?_⟩
    have hpos : 0 < l := by
      rcases Nat.eq_zero_or_pos l with e0 | e0
      · subst e0; simp at hne
      · exact e0
    obtain ⟨b, o, spot⟩ := a
    obtain ⟨k0, hk0⟩ := hcell 0 hpos
    have hs : spot = none := by simpa [Addr.add] using World.cell?_spot hk0
    subst hs
    refine ⟨b, o, rfl, ?_, fun i x hi j u hu => ?_⟩
    · have hk1 := hk0
      simp only [add_none, Nat.add_zero] at hk1
      rcases Nat.lt_or_ge b w.heap.size with hlt | hge
      · exact hlt
      · simp [World.cell?, Array.getElem?_eq_none hge] at hk1
    · have hil : i < l := by
        have := (List.getElem?_eq_some_iff.1 hi).1
        simpa using this
      obtain ⟨k, hk⟩ := hcell i hil
      have hj : j = 0 := by
        cases j with
        | zero => rfl
        | succ j => simp at hu
      subst hj
      have hxk : x = k := by
        rw [List.getElem?_map, List.getElem?_range hil] at hi
        simp only [Option.map_some, Option.some.injEq] at hi
        rw [hk] at hi
        exact hi.symm
      simp at hu
      rw [← hu, hxk]
      simp only [add_none] at hk
      simpa using hk
/-- The reach bounds the list. -/
theorem rd_reach {H : Type} {P : Program} {ts : List TypeId} {ds : List (DataW H)} (h : (DataW.weightsEach P ts ds).all (· ≤ reachBytes) = true) (j : Nat) {t e : TypeId} {d : DataW H} (ht : ts[j]? = some t) (hd : ds[j]? = some d)
    (hu : P.underlying t = some (.slice e)) (hb : 8 ≤ P.bytesOf e) {l : Nat} (hl : l = 0 ∨ ∃ es sp, d = .slice es sp ∧ es.length = l) : l * 8 ≤ 140737488351232 := by
  rcases hl with rfl | ⟨es, sp, rfl, rfl⟩
  · simp
  · have := sized_slice h ht hd hu
    have h2 : es.length * 8 ≤ (es.length + sp.length) * P.bytesOf e := Nat.mul_le_mul (by omega) hb
    simp only [reachBytes] at this
    omega
/-- ARGS, all at once: what lies below the old size has not turned. -/
theorem Below.trods {H : Type} {enc : TypeId × Value → H} {P : Program} (hl : laidOutB P = true) {W W' : World} (hb : Below W.heap.size W W') :
    ∀ {ts : List TypeId} {vs : List Value} {ds : List (DataW H)} {ps : List MemPlace}, (∀ t ∈ ts, P.readableRec t = true ∧ t < P.types.size) → DataW.TrodAll enc P W 0 (fun _ => true) true ts vs ds ps → (∀ x ∈ ps, x.block < W.heap.size) →
      DataW.TrodAll enc P W' 0 (fun b => decide (b < W.heap.size)) true ts vs ds ps
  | [], _, _, _, _, h, _ => by
    obtain ⟨rfl, rfl, rfl⟩ := trodAll_nil h
    exact trodAll_mk0
  | t :: ts, _, _, _, hr, h, hp => by
    obtain ⟨v, vs, d, ds, p, q, rfl, rfl, rfl, h1, h2⟩ := trodAll_cons h
    exact ⟨p, q, Below.trod hl (hr t (by simp)).1 (hr t (by simp)).2 h1 hb (fun x hx => hp x (by simp [hx])), Below.trods hl hb (fun u hu => hr u (by simp [hu])) h2 (fun x hx => hp x (by simp [hx])), rfl⟩
/-- THE FRAME: a law that returned true and left what lay below alone. -/
theorem post_true {H : Type} {enc : TypeId × Value → H} {P : Program} {f : Func} {s : ChangeSpec} {apart fresh hands : Bool} {tb : TypeId} {W W' : World} {args : Array Value} {ds gs : List (DataW H)} {before : List MemPlace}
    (hl : laidOutB P = true) (hr : ∀ t ∈ f.params.toList, P.readableRec t = true ∧ t < P.types.size) (hres : f.resultTypes = #[tb]) (htb : P.underlying tb = some .bool) (hvars : s.vars = [])
    (hW : DataW.Whole enc P f.params.toList s.vars apart W args.toList ds gs before) (hfr : (s.fn H (ds ++ gs)).results = [.lit (.bool true)]) (hfa : (s.fn H (ds ++ gs)).args = ds) (hfv : (s.fn H (ds ++ gs)).vars = [])
    (hb : Below W.heap.size W W') : s.post enc P f apart fresh hands false W args (.bool true) W' := by
  have hlt := hW.lt
  have hW0 := hW
  obtain ⟨p, q, hA, hV, rfl, hfz, hnd⟩ := hW
  rw [hvars] at hV
  obtain ⟨rfl, rfl⟩ := trodVars_none hV
  refine ⟨ds, [], p ++ [], [], p, [], hW0, ?_, ?_, ?_, hb.frame _, nofun⟩
  · rw [hfr, hres]
    exact trodAll_mk1 (shut_bool htb true)
  · rw [hfa]
    exact Below.trods hl hb hr hA (fun x hx => hlt x (by simpa using hx))
  · rw [hfv, hvars]
    simp [DataW.TrodVars]
end Go.Proofs.Ytcgokimagimamaa
/- What the rows of this seat's laws share. -/
namespace Go.Proofs.Ytcgokimagimamaa
open Go.RowKit Go.ChangeShapes Go.WideShapes Go.ChangeAt
set_option maxRecDepth 100000
theorem own_knob : ownKnob Try.prog.godebug = none := by kernel_rfl
theorem laid_out : laidOutB Try.prog = true := by kernel_rfl
section
variable {H : Type} {enc : TypeId × Value → H} {P : Program} {w : World} {base : Nat} {spare : Nat → Bool} {held : Bool}
theorem ds_len3 {t t' t'' : TypeId} {args : Array Value} {ds : List (DataW H)} {ps : List MemPlace} (h : DataW.TrodAll enc P w base spare held [t, t', t''] args.toList ds ps) : ∃ d d' d'', ds = [d, d', d''] := by
  obtain ⟨v0, v1, v2, d0, d1, d2, p0, p1, p2, _, hd, _⟩ := trodAll_three h
  exact ⟨d0, d1, d2, hd⟩
theorem ds_len1 {t : TypeId} {args : Array Value} {ds : List (DataW H)} {ps : List MemPlace} (h : DataW.TrodAll enc P w base spare held [t] args.toList ds ps) : ∃ d, ds = [d] := by
  obtain ⟨v0, d0, _, hd, _⟩ := trodAll_one h
  exact ⟨d0, hd⟩
theorem ds_len2 {t t' : TypeId} {args : Array Value} {ds : List (DataW H)} {ps : List MemPlace} (h : DataW.TrodAll enc P w base spare held [t, t'] args.toList ds ps) : ∃ d d', ds = [d, d'] := by
  obtain ⟨v0, v1, d0, d1, p0, p1, _, hd, _⟩ := trodAll_two h
  exact ⟨d0, d1, hd⟩
theorem ds_len4 {t t' t'' t3 : TypeId} {args : Array Value} {ds : List (DataW H)} {ps : List MemPlace} (h : DataW.TrodAll enc P w base spare held [t, t', t'', t3] args.toList ds ps) : ∃ d d' d'' d3, ds = [d, d', d'', d3] := by
  obtain ⟨v0, v1, v2, v3, d0, d1, d2, d3, p0, p1, p2, p3, _, hd, _⟩ := trodAll_four h
  exact ⟨d0, d1, d2, d3, hd⟩
end
end Go.Proofs.Ytcgokimagimamaa
