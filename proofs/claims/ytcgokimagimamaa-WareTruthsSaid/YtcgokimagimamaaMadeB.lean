
/- Shapes and bodies that numbers describe: the walks. -/
import Derived.Test.YtcgokimagimamaaMade
namespace Go.Proofs.Ytcgokimagimamaa
open Go.RowKit
set_option maxHeartbeats 4000000
set_option maxRecDepth 100000
set_option linter.unusedSimpArgs false
set_option linter.unusedVariables false
theorem wp_gen {P : Program} {c : Code} {a : Act} {K : Exit → Act → World → Prop} {W : World} (Q : World → Prop) (hQ : Q W) (h : ∀ W, Q W → Code.wp P c K a W) : Code.wp P c K a W := h W hQ
/-- 'lin_last' with what comes behind as it stands. -/
theorem lin_final {P : Program} {ops : Array Oper} {Q : Exit → Act → World → Prop} {W : World} {t : Nat} {oi : Oper} {listed : Array Bool} {a : Act} (hi : ops[t]? = some oi) (hr : Region.ready .any ops listed = [t])
    (hd : Region.ready .any ops (listed.setIfInBounds t true) = []) (hw : Region.wanted oi (yielded ops a.tmps) = true)
    (h : ∀ w, OldAs W w → (∀ p : Addr, p.block < W.heap.size → w.cell? p = W.cell? p) → (∀ p : Addr, p.block < W.heap.size → w.frozen? p = W.frozen? p) →
      oi.wp P a w (fun a' w' => Q .normal a' w') Q) : Lin P ops Q W t 1 listed a :=
  lin_last hi hr hd hw fun w hS hc hf K hK => Oper.wp_mono (fun a w hq => hK a w hq) (h w hS hc hf)
theorem Span_x {a b l0 l1 l2 : Int} {r : Rng} (hr : spanS a b l0 l1 l2 = r) (w : World) (h0 : 0 ≤ l0) (h1 : 0 ≤ l1) (h2 : l0 ≤ l2) (h3 : l1 ≤ 1000000) (h4 : l2 ≤ 1000000) :
    Calls Try.prog 24 #[.int .i64 a, .int .i64 b, .agg #[.int .i64 l0, .int .i64 l1, .int .i64 l2]] w fun e w' => e = .returned (.agg #[.int .i64 r.lo, .int .i64 r.hi]) ∧ Below w.heap.size w w' := hr ▸ Span_any a b l0 l1 l2 w h0 h1 h2 h3 h4
theorem kept_cells {w W : World} {cs : Array Value} {t : TypeId} (h : Below (w.alloc (.cells cs t)).heap.size (w.alloc (.cells cs t)) W) {j : Nat} {v : Value} (hv : cs[j]? = some v) : W.cell? ⟨w.heap.size, j, none⟩ = some v := by
  rw [h.cell (by simp [World.size_alloc])]
  have e : (w.alloc (.cells cs t)).heap[w.heap.size]? = some (.cells cs t) := by show (w.heap.push _)[w.heap.size]? = _; simp
  unfold World.cell?
  rw [e]
  exact hv
theorem MadeBody_any (id : Int) (xs : List Int) (v : Value) (w : World) (h : Rd 1 (fun x => [.int .i64 x]) w v xs) (hl : xs.length ≤ 140737488355328) :
    Calls Try.prog 23 #[.int .i64 id, v] w fun e w' => e = .returned (.agg #[.int .i64 (madeBody id xs).id, .int .i64 (madeBody id xs).shrink.lo, .int .i64 (madeBody id xs).shrink.hi, .int .i64 (madeBody id xs).loss.lo, .int .i64 (madeBody id xs).loss.hi, .int .i64 (madeBody id xs).heat.lo, .int .i64 (madeBody id xs).heat.hi]) ∧ Below w.heap.size w w' := by
  simp only [madeBody]
  go_enter Try.func23, Try.ntmps23
  go_wp2_with fail
  have r0 : Rd 1 (fun x => [.int .i64 x]) (w.alloc (.cells #[.int .i64 0, .int .i64 0, .int .i64 0, .int .i64 0, .int .i64 0, .int .i64 0, .int .i64 0] 43)) v xs := h.alloc _
  (refine Calls.mono (At_any xs v 0 _ r0 hl) ?_; rintro e w' ⟨rfl, rfl⟩; go_wp2_with fail)
  (refine Calls.mono (At_any xs v 1 _ r0 hl) ?_; rintro e w' ⟨rfl, rfl⟩; go_wp2_with fail)
  (refine Calls.mono (Span_any (atS xs 0) (atS xs 1) 40 60 200 _ (by omega) (by omega) (by omega) (by omega) (by omega)) ?_; rintro e w1 ⟨rfl, hb⟩; have hd := (bcell3 hb).1; have hg := (bcell3 hb).2.1; have : w.heap.size < w1.heap.size := (by (have hq := hb.size; (try simp only [World.size_alloc, World.size_setCell] at hq); omega)); have hbk := hb; clear hb; go_wp2_with fail)
  have r1 := r0.below hbk
  (refine Calls.mono (At_any xs v 2 _ r1 hl) ?_; rintro e w' ⟨rfl, rfl⟩; go_wp2_with fail)
  (refine Calls.mono (At_any xs v 3 _ r1 hl) ?_; rintro e w' ⟨rfl, rfl⟩; go_wp2_with fail)
  (refine Calls.mono (Span_any (atS xs 2) (atS xs 3) 10 40 300 _ (by omega) (by omega) (by omega) (by omega) (by omega)) ?_; rintro e w2 ⟨rfl, hb⟩; have hd := (bcell3 hb).1; have hg := (bcell3 hb).2.1; have : w.heap.size < w2.heap.size := (by (have hq := hb.size; (try simp only [World.size_alloc, World.size_setCell] at hq); omega)); have hbk := hb; clear hb; go_wp2_with fail)
  have r2 := r1.below hbk
  (refine Calls.mono (At_any xs v 4 _ r2 hl) ?_; rintro e w' ⟨rfl, rfl⟩; go_wp2_with fail)
  (refine Calls.mono (At_any xs v 5 _ r2 hl) ?_; rintro e w' ⟨rfl, rfl⟩; go_wp2_with fail)
  (refine Calls.mono (Span_any (atS xs 4) (atS xs 5) 700 300 1300 _ (by omega) (by omega) (by omega) (by omega) (by omega)) ?_; rintro e w3 ⟨rfl, hb⟩; have hd := (bcell3 hb).1; have hg := (bcell3 hb).2.1; have : w.heap.size < w3.heap.size := (by (have hq := hb.size; (try simp only [World.size_alloc, World.size_setCell] at hq); omega)); have hbk := hb; clear hb; go_wp2_with fail)
  clear r0 r1 r2
  generalize spanS (atS xs 0) (atS xs 1) 40 60 200 = p
  generalize spanS (atS xs 2) (atS xs 3) 10 40 300 = q
  generalize spanS (atS xs 4) (atS xs 5) 700 300 1300 = r
  have HB : Below (w.alloc (.cells #[.int .i64 0, .int .i64 0, .int .i64 0, .int .i64 0, .int .i64 0, .int .i64 0, .int .i64 0] 43)).heap.size (w.alloc (.cells #[.int .i64 0, .int .i64 0, .int .i64 0, .int .i64 0, .int .i64 0, .int .i64 0, .int .i64 0] 43)) w3 := by (repeat (first | (with_reducible exact Below.refl _ _) | (with_reducible refine Below.nset ?_ ?_ _) | (with_reducible refine Below.nalloc ?_ _) | (with_reducible refine Below.ndrew ?_) | (with_reducible refine Below.ndrewN ?_ _) | (with_reducible refine Below.next ?_ (by assumption)) | (with_reducible refine Below.next ?_ (OldAs.below (by assumption))) | (focus (first | (simp; done) | (simp; omega)))))
  have HQ : w3.cell? ⟨w.heap.size, 0, none⟩ = some (.int .i64 (0)) ∧ w3.cell? ⟨w.heap.size, 1, none⟩ = some (.int .i64 (0)) ∧ w3.cell? ⟨w.heap.size, 2, none⟩ = some (.int .i64 (0)) ∧ w3.cell? ⟨w.heap.size, 3, none⟩ = some (.int .i64 (0)) ∧ w3.cell? ⟨w.heap.size, 4, none⟩ = some (.int .i64 (0)) ∧ w3.cell? ⟨w.heap.size, 5, none⟩ = some (.int .i64 (0)) ∧ w3.cell? ⟨w.heap.size, 6, none⟩ = some (.int .i64 (0)) := ⟨kept_cells HB rfl, kept_cells HB rfl, kept_cells HB rfl, kept_cells HB rfl, kept_cells HB rfl, kept_cells HB rfl, kept_cells HB rfl⟩
  obtain ⟨c0, c1, c2, c3, c4, c5, c6⟩ := HQ
  have HB0 : Below w.heap.size w w3 := by (repeat (first | (with_reducible exact Below.refl _ _) | (with_reducible refine Below.nset ?_ ?_ _) | (with_reducible refine Below.nalloc ?_ _) | (with_reducible refine Below.ndrew ?_) | (with_reducible refine Below.ndrewN ?_ _) | (with_reducible refine Below.next ?_ (by assumption)) | (with_reducible refine Below.next ?_ (OldAs.below (by assumption))) | (focus (first | (simp; done) | (simp; omega)))))
  clear HB hd hg
  exact (bodyPost_ret (v := .agg #[.int .i64 id, .int .i64 p.lo, .int .i64 p.hi, .int .i64 q.lo, .int .i64 q.hi, .int .i64 r.lo, .int .i64 r.hi]) (by simp [results, Try.results23, go_sem, c0, c1, c2, c3, c4, c5, c6]) rfl) ⟨rfl, Below.nset (Below.nset (Below.nset (Below.nset (Below.nset (Below.nset (Below.nset HB0 (Nat.le_refl _) _) (Nat.le_refl _) _) (Nat.le_refl _) _) (Nat.le_refl _) _) (Nat.le_refl _) _) (Nat.le_refl _) _) (Nat.le_refl _) _⟩
end Go.Proofs.Ytcgokimagimamaa
