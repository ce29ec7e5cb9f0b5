
/- Layer 1: the chapter's examples are so. -/
import Derived.Test.YtcgokimagimamaaGD
namespace Go.Proofs.Ytcgokimagimamaa
open Go.RowKit
attribute [local go_sem] errIf_true errIf_false
set_option maxHeartbeats 1000000
set_option maxRecDepth 100000
set_option linter.unusedSimpArgs false
set_option linter.unusedVariables false
def exS : Shape := ⟨7, ⟨100, 102⟩, ⟨100, 102⟩, ⟨50, 51⟩, 10, ⟨200, 210⟩, 1000⟩
def exB : Body := ⟨1, ⟨100, 120⟩, ⟨50, 60⟩, ⟨1000, 1100⟩⟩
theorem exShape_any (w : World) : Calls Try.prog 58 #[] w fun e w' => e = .returned (.agg #[.int .i64 7, .int .i64 100, .int .i64 102, .int .i64 100, .int .i64 102, .int .i64 50, .int .i64 51, .int .i64 10, .int .i64 200, .int .i64 210, .int .i64 1000]) ∧ Below w.heap.size w w' := by
  go_enter Try.func58, Try.ntmps58
  go_wp2
  exact (bodyPost_ret (v := .agg #[.int .i64 7, .int .i64 100, .int .i64 102, .int .i64 100, .int .i64 102, .int .i64 50, .int .i64 51, .int .i64 10, .int .i64 200, .int .i64 210, .int .i64 1000]) (by simp only [results, Try.results58]; go_simp; (repeat' constructor)) rfl) ⟨rfl, by (repeat (first | (with_reducible exact Below.refl _ _) | (with_reducible refine Below.nset ?_ ?_ _) | (with_reducible refine Below.nalloc ?_ _) | (with_reducible refine Below.ndrew ?_) | (with_reducible refine Below.ndrewN ?_ _) | (with_reducible refine Below.next ?_ (by assumption)) | (with_reducible refine Below.next ?_ (OldAs.below (by assumption))) | (focus (first | (simp; done) | (simp; omega)))))⟩
theorem exBody_any (w : World) : Calls Try.prog 59 #[] w fun e w' => e = .returned (.agg #[.int .i64 1, .int .i64 100, .int .i64 120, .int .i64 50, .int .i64 60, .int .i64 1000, .int .i64 1100]) ∧ Below w.heap.size w w' := by
  go_enter Try.func59, Try.ntmps59
  go_wp2
  exact (bodyPost_ret (v := .agg #[.int .i64 1, .int .i64 100, .int .i64 120, .int .i64 50, .int .i64 60, .int .i64 1000, .int .i64 1100]) (by simp only [results, Try.results59]; go_simp; (repeat' constructor)) rfl) ⟨rfl, by (repeat (first | (with_reducible exact Below.refl _ _) | (with_reducible refine Below.nset ?_ ?_ _) | (with_reducible refine Below.nalloc ?_ _) | (with_reducible refine Below.ndrew ?_) | (with_reducible refine Below.ndrewN ?_ _) | (with_reducible refine Below.next ?_ (by assumption)) | (with_reducible refine Below.next ?_ (OldAs.below (by assumption))) | (focus (first | (simp; done) | (simp; omega)))))⟩
theorem exFired (w : World) : Calls Try.prog 26 #[.agg #[.int .i64 7, .int .i64 100, .int .i64 102, .int .i64 100, .int .i64 102, .int .i64 50, .int .i64 51, .int .i64 10, .int .i64 200, .int .i64 210, .int .i64 1000], .agg #[.int .i64 1, .int .i64 100, .int .i64 120, .int .i64 50, .int .i64 60, .int .i64 1000, .int .i64 1100]] w fun e w' =>
    e = .returned (.tuple #[.agg #[.int .i64 7, .int .i64 88, .int .i64 92, .int .i64 88, .int .i64 92, .int .i64 44, .int .i64 46, .int .i64 8, .int .i64 188, .int .i64 200, .int .i64 1000], .int .i64 0]) ∧ Below w.heap.size w w' := by
  have h := Fired_any exS exB w
  rw [show firedSS exS exB = (⟨7, ⟨88, 92⟩, ⟨88, 92⟩, ⟨44, 46⟩, 8, ⟨188, 200⟩, 1000⟩, 0) from by kernel_rfl] at h
  exact h
theorem exMould (w : World) : Calls Try.prog 28 #[.agg #[.int .i64 1, .int .i64 100, .int .i64 120, .int .i64 50, .int .i64 60, .int .i64 1000, .int .i64 1100], .agg #[.int .i64 88, .int .i64 92]] w fun e w' =>
    e = .returned (.tuple #[.agg #[.int .i64 100, .int .i64 102], .int .i64 0]) ∧ Below w.heap.size w w' := by
  have h := Mould_any exB ⟨88, 92⟩ w
  rw [mouldS_eq exB ⟨88, 92⟩ (by kernel_rfl) (by kernel_rfl), show mouldLo exB ⟨88, 92⟩ = 100 from by kernel_rfl, show mouldHi exB ⟨88, 92⟩ = 102 from by kernel_rfl] at h
  exact h
theorem exMost (w : World) : Calls Try.prog 17 #[.agg #[.int .i64 7, .int .i64 100, .int .i64 102, .int .i64 100, .int .i64 102, .int .i64 50, .int .i64 51, .int .i64 10, .int .i64 200, .int .i64 210, .int .i64 1000], .int .i64 133] w fun e w' =>
    e = .returned (.tuple #[.int .i64 3, .int .i64 0]) ∧ Below w.heap.size w w' := by
  have h := Most_any exS 133 w
  rw [show mostS exS 133 = (3, 0) from by kernel_rfl] at h
  exact h
theorem exTold (w : World) : Calls Try.prog 60 #[.agg #[.int .i64 3, .int .i64 100, .int .i64 100, .int .i64 89, .int .i64 89]] w fun e w' =>
    e = .returned (.tuple #[.agg #[.int .i64 110, .int .i64 110], .int .i64 0]) ∧ Below w.heap.size w w' := by
  have h := Told_any ⟨3, ⟨100, 100⟩, ⟨89, 89⟩⟩ w
  rw [show toldS ⟨3, ⟨100, 100⟩, ⟨89, 89⟩⟩ = (⟨110, 110⟩, 0) from by kernel_rfl] at h
  exact h
theorem exLoad (w : World) : Calls Try.prog 13 #[.agg #[.int .i64 7, .int .i64 100, .int .i64 102, .int .i64 100, .int .i64 102, .int .i64 50, .int .i64 51, .int .i64 10, .int .i64 200, .int .i64 210, .int .i64 1000], .int .i64 3, .int .i64 0] w fun e w' =>
    e = .returned (.tuple #[.agg #[.int .i64 400, .int .i64 420], .int .i64 0]) ∧ Below w.heap.size w w' := by
  have h := Load_any exS 3 0 w
  rw [show loadS exS 3 0 = (⟨400, 420⟩, 0) from by kernel_rfl] at h
  exact h
theorem sane_any (w : World) : Calls Try.prog 19 #[] w fun e w' => e = .returned (.bool true) ∧ Below w.heap.size w w' := by
  go_enter Try.func19, Try.ntmps19
  go_wp2_with fail
  (refine Calls.mono (exShape_any _) ?_; rintro e wa ⟨rfl, hb⟩; have hd := (bcell3 hb).1; have hg := (bcell3 hb).2.1; have hbk := hb; clear hb; go_wp2_with fail)
  (refine Calls.mono (exBody_any _) ?_; rintro e wb ⟨rfl, hb⟩; have hd := (bcell3 hb).1; have hg := (bcell3 hb).2.1; have hbk := hb; clear hb; go_wp2_with fail)
  (refine Calls.mono (exFired _) ?_; rintro e w1 ⟨rfl, hb⟩; have hd := (bcell3 hb).1; have hg := (bcell3 hb).2.1; have hbk := hb; clear hb; go_wp2_with fail)
  (refine Calls.mono (exBody_any _) ?_; rintro e wc ⟨rfl, hb⟩; have hd := (bcell3 hb).1; have hg := (bcell3 hb).2.1; have : w1.heap.size < wc.heap.size := (by (have hq := hb.size; (try simp only [World.size_alloc, World.size_setCell] at hq); omega)); have hbk := hb; clear hb; go_wp2_with fail)
  (refine Calls.mono (exMould _) ?_; rintro e w2 ⟨rfl, hb⟩; have hd := (bcell3 hb).1; have hg := (bcell3 hb).2.1; have : w1.heap.size < w2.heap.size := (by (have hq := hb.size; (try simp only [World.size_alloc, World.size_setCell] at hq); omega)); have hbk := hb; clear hb; go_wp2_with fail)
  (refine Calls.mono (exShape_any _) ?_; rintro e wd ⟨rfl, hb⟩; have hd := (bcell3 hb).1; have hg := (bcell3 hb).2.1; have : w1.heap.size < wd.heap.size := (by (have hq := hb.size; (try simp only [World.size_alloc, World.size_setCell] at hq); omega)); have : w2.heap.size < wd.heap.size := (by (have hq := hb.size; (try simp only [World.size_alloc, World.size_setCell] at hq); omega)); have hbk := hb; clear hb; go_wp2_with fail)
  (refine Calls.mono (exMost _) ?_; rintro e w3 ⟨rfl, hb⟩; have hd := (bcell3 hb).1; have hg := (bcell3 hb).2.1; have : w1.heap.size < w3.heap.size := (by (have hq := hb.size; (try simp only [World.size_alloc, World.size_setCell] at hq); omega)); have : w2.heap.size < w3.heap.size := (by (have hq := hb.size; (try simp only [World.size_alloc, World.size_setCell] at hq); omega)); have hbk := hb; clear hb; go_wp2_with fail)
  (refine Calls.mono (exTold _) ?_; rintro e w4 ⟨rfl, hb⟩; have hd := (bcell3 hb).1; have hg := (bcell3 hb).2.1; have : w1.heap.size < w4.heap.size := (by (have hq := hb.size; (try simp only [World.size_alloc, World.size_setCell] at hq); omega)); have : w2.heap.size < w4.heap.size := (by (have hq := hb.size; (try simp only [World.size_alloc, World.size_setCell] at hq); omega)); have hbk := hb; clear hb; go_wp2_with fail)
  (refine Calls.mono (exShape_any _) ?_; rintro e we ⟨rfl, hb⟩; have hd := (bcell3 hb).1; have hg := (bcell3 hb).2.1; have : w1.heap.size < we.heap.size := (by (have hq := hb.size; (try simp only [World.size_alloc, World.size_setCell] at hq); omega)); have : w2.heap.size < we.heap.size := (by (have hq := hb.size; (try simp only [World.size_alloc, World.size_setCell] at hq); omega)); have : w4.heap.size < we.heap.size := (by (have hq := hb.size; (try simp only [World.size_alloc, World.size_setCell] at hq); omega)); have hbk := hb; clear hb; go_wp2_with fail)
  (refine Calls.mono (exLoad _) ?_; rintro e w5 ⟨rfl, hb⟩; have hd := (bcell3 hb).1; have hg := (bcell3 hb).2.1; have : w1.heap.size < w5.heap.size := (by (have hq := hb.size; (try simp only [World.size_alloc, World.size_setCell] at hq); omega)); have : w2.heap.size < w5.heap.size := (by (have hq := hb.size; (try simp only [World.size_alloc, World.size_setCell] at hq); omega)); have : w4.heap.size < w5.heap.size := (by (have hq := hb.size; (try simp only [World.size_alloc, World.size_setCell] at hq); omega)); have hbk := hb; clear hb; go_wp2_with fail)
  go_ret
  exact ⟨rfl, by (repeat (first | (with_reducible exact Below.refl _ _) | (with_reducible refine Below.nset ?_ ?_ _) | (with_reducible refine Below.nalloc ?_ _) | (with_reducible refine Below.ndrew ?_) | (with_reducible refine Below.ndrewN ?_ _) | (with_reducible refine Below.next ?_ (by assumption)) | (with_reducible refine Below.next ?_ (OldAs.below (by assumption))) | (focus (first | (simp; done) | (simp; omega)))))⟩
end Go.Proofs.Ytcgokimagimamaa
