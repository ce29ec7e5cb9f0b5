/- Shapes and bodies that numbers describe. -/
import Derived.Test.YtcgokimagimamaaGE
namespace Go.Proofs.Ytcgokimagimamaa
open Go.RowKit
set_option maxHeartbeats 1000000
set_option maxRecDepth 100000
set_option linter.unusedSimpArgs false
set_option linter.unusedVariables false
def atS (xs : List Int) (i : Int) : Int := if xs = [] then 0 else xs.getD (i % xs.length).toNat 0
def spanS (a b l0 l1 l2 : Int) : Rng := ⟨l0 + a % (l2 - l0 + 1), min (l0 + a % (l2 - l0 + 1) + b % (l1 + 1)) l2⟩
def madeShape (id : Int) (xs : List Int) : Shape :=
  ⟨id, spanS (atS xs 0) (atS xs 1) 20 6 200, spanS (atS xs 2) (atS xs 1) 20 6 200, spanS (atS xs 3) (atS xs 4) 10 5 150, atS xs 7 % ((spanS (atS xs 3) (atS xs 4) 10 5 150).lo + 1), spanS (atS xs 5) (atS xs 6) 50 40 900, atS xs 8 % 6000⟩
def madeBody (id : Int) (xs : List Int) : Body := ⟨id, spanS (atS xs 0) (atS xs 1) 40 60 200, spanS (atS xs 2) (atS xs 3) 10 40 300, spanS (atS xs 4) (atS xs 5) 700 300 1300⟩
theorem span_ok {a b l0 l1 l2 : Int} (h0 : 0 ≤ l0) (h1 : 0 ≤ l1) (h2 : l0 ≤ l2) : l0 ≤ (spanS a b l0 l1 l2).lo ∧ (spanS a b l0 l1 l2).lo ≤ (spanS a b l0 l1 l2).hi ∧ (spanS a b l0 l1 l2).hi ≤ l2 := by
  simp only [spanS]
  have a1 := Int.emod_nonneg a (by omega : l2 - l0 + 1 ≠ 0)
  have a2 := Int.emod_lt_of_pos a (by omega : 0 < l2 - l0 + 1)
  have b1 := Int.emod_nonneg b (by omega : l1 + 1 ≠ 0)
  omega
theorem madeBody_ok (id : Int) (h1 : 1 ≤ id) (h2 : id ≤ 999) (xs : List Int) : BodyOk (madeBody id xs) := by
  obtain ⟨a1, a2, a3⟩ := span_ok (a := atS xs 0) (b := atS xs 1) (l0 := 40) (l1 := 60) (l2 := 200) (by omega) (by omega) (by omega)
  obtain ⟨b1, b2, b3⟩ := span_ok (a := atS xs 2) (b := atS xs 3) (l0 := 10) (l1 := 40) (l2 := 300) (by omega) (by omega) (by omega)
  obtain ⟨c1, c2, c3⟩ := span_ok (a := atS xs 4) (b := atS xs 5) (l0 := 700) (l1 := 300) (l2 := 1300) (by omega) (by omega) (by omega)
  exact ⟨h1, h2, by simp only [madeBody]; omega, a2, a3, by simp only [madeBody]; omega, b2, b3, by simp only [madeBody]; omega, c2, by simp only [madeBody]; omega⟩
theorem madeShape_ok (id : Int) (h1 : 1 ≤ id) (h2 : id ≤ 999) (xs : List Int) : ShapeOk (madeShape id xs) := by
  obtain ⟨a1, a2, a3⟩ := span_ok (a := atS xs 0) (b := atS xs 1) (l0 := 20) (l1 := 6) (l2 := 200) (by omega) (by omega) (by omega)
  obtain ⟨b1, b2, b3⟩ := span_ok (a := atS xs 2) (b := atS xs 1) (l0 := 20) (l1 := 6) (l2 := 200) (by omega) (by omega) (by omega)
  obtain ⟨c1, c2, c3⟩ := span_ok (a := atS xs 3) (b := atS xs 4) (l0 := 10) (l1 := 5) (l2 := 150) (by omega) (by omega) (by omega)
  obtain ⟨d1, d2, d3⟩ := span_ok (a := atS xs 5) (b := atS xs 6) (l0 := 50) (l1 := 40) (l2 := 900) (by omega) (by omega) (by omega)
  have n1 := Int.emod_nonneg (atS xs 7) (by omega : (spanS (atS xs 3) (atS xs 4) 10 5 150).lo + 1 ≠ 0)
  have n2 := Int.emod_lt_of_pos (atS xs 7) (by omega : 0 < (spanS (atS xs 3) (atS xs 4) 10 5 150).lo + 1)
  have n3 := Int.emod_nonneg (atS xs 8) (by omega : (6000 : Int) ≠ 0)
  have n4 := Int.emod_lt_of_pos (atS xs 8) (by omega : (0 : Int) < 6000)
  refine ⟨h1, h2, ?_, a2, ?_, ?_, b2, ?_, ?_, c2, ?_, n1, ?_, ?_, d2, ?_, n3, ?_⟩ <;> simp only [madeShape] <;> omega
theorem mod_eq {n m : Int} (hm : 0 < m) : (n.tmod m + m) % m = n % m := by
  rw [Int.add_emod_right]
  conv => rhs; rw [← Int.tmod_add_mul_tdiv n m]
  rw [Int.add_mul_emod_self_left]
theorem Mod_any (n m : Int) (w : World) (hm : 0 < m) (hm2 : m ≤ 400000000000000000) : Calls Try.prog 21 #[.int .i64 n, .int .i64 m] w fun e w' => e = .returned (.int .i64 (n % m)) ∧ w = w' := by
  obtain ⟨r1, r2⟩ := tmod_bound (n := n) hm
  have e1 := Int.emod_nonneg n (by omega : m ≠ 0)
  have e2 := Int.emod_lt_of_pos n hm
  have HE := hidI (mod_eq (n := n) hm)
  have q1 : wrap64 (n.tmod m) = n.tmod m := wrap_id (by omega) (by omega)
  have q2 : wrap64 (n.tmod m + m) = n.tmod m + m := wrap_id (by omega) (by omega)
  have q3 : wrap64 ((n.tmod m + m) % m) = (n.tmod m + m) % m := wrap_id (by rw [mod_eq hm]; omega) (by rw [mod_eq hm]; omega)
  have hm0 : (m = 0) = False := by simp; omega
  go_enter Try.func21, Try.ntmps21
  go_wp2
  go_ret
  exact ⟨by rw [← HE.out]; rfl, rfl⟩
theorem Mod_x {n m x : Int} (h : n % m = x) (w : World) (hm : 0 < m) (hm2 : m ≤ 400000000000000000) : Calls Try.prog 21 #[.int .i64 n, .int .i64 m] w fun e w' => e = .returned (.int .i64 x) ∧ w = w' := h ▸ Mod_any n m w hm hm2
theorem At_any (xs : List Int) (v : Value) (i : Int) (w : World) (h : Rd 1 (fun x => [.int .i64 x]) w v xs) (hl : xs.length ≤ 140737488355328) : Calls Try.prog 22 #[v, .int .i64 i] w fun e w' => e = .returned (.int .i64 (atS xs i)) ∧ w = w' := by
  by_cases hx : xs = []
  · subst hx
    obtain ⟨A, c, rfl, hc⟩ := h.form
    go_enter Try.func22, Try.ntmps22
    go_wp2
    go_ret
    exact ⟨rfl, rfl⟩
  · have hpos : 0 < xs.length := List.length_pos_iff.2 hx
    have e1 := Int.emod_nonneg i (by omega : (xs.length : Int) ≠ 0)
    have e2 := Int.emod_lt_of_pos i (by omega : 0 < (xs.length : Int))
    obtain ⟨b, o, c, rfl, hc, hb, hcell⟩ := h.at_ (k := (i % xs.length).toNat) (by omega)
    have HA : atS xs i = xs[(i % xs.length).toNat]'(by omega) := by
      unfold atS
      rw [if_neg hx, List.getD_eq_getElem?_getD, List.getElem?_eq_getElem (by omega)]
      rfl
    have hcell0 := hcell 0 _ rfl
    rw [← HA] at hcell0
    simp only [Nat.mul_one, Nat.add_zero] at hcell0
    clear hcell HA h
    generalize atS xs i = y at *
    generalize hj : (i % xs.length).toNat = j at *
    have hi : i % xs.length = (j : Int) := by omega
    have hne : ((xs.length : Int) = 0) = False := by simp; omega
    go_enter Try.func22, Try.ntmps22
    go_wp2_with (first | (go_at_call 21; refine Calls.mono (Mod_any i xs.length _ (by omega) (by omega)) ?_; rintro e w' ⟨rfl, rfl⟩))
    go_ret
    exact ⟨rfl, rfl⟩
theorem Span_hi (a b l0 l1 l2 : Int) (w : World) (h0 : 0 ≤ l0) (h1 : 0 ≤ l1) (h2 : l0 ≤ l2) (h3 : l1 ≤ 1000000) (h4 : l2 ≤ 1000000) (hm : l2 < l0 + a % (l2 - l0 + 1) + b % (l1 + 1)) :
    Calls Try.prog 24 #[.int .i64 a, .int .i64 b, .agg #[.int .i64 l0, .int .i64 l1, .int .i64 l2]] w fun e w' => e = .returned (.agg #[.int .i64 (l0 + a % (l2 - l0 + 1)), .int .i64 l2]) ∧ Below w.heap.size w w' := by
  have a1 := Int.emod_nonneg a (by omega : l2 - l0 + 1 ≠ 0)
  have a2 := Int.emod_lt_of_pos a (by omega : 0 < l2 - l0 + 1)
  have b1 := Int.emod_nonneg b (by omega : l1 + 1 ≠ 0)
  have b2 := Int.emod_lt_of_pos b (by omega : 0 < l1 + 1)
  generalize hx : a % (l2 - l0 + 1) = x at *
  generalize hy : b % (l1 + 1) = y at *
  have W1 : IntKind.i64.wrap (l2 - l0) = l2 - l0 := wrapI (by omega) (by omega)
  have W2 : IntKind.i64.wrap (l2 - l0 + 1) = l2 - l0 + 1 := wrapI (by omega) (by omega)
  have W3 : IntKind.i64.wrap (l0 + x) = l0 + x := wrapI (by omega) (by omega)
  have W4 : IntKind.i64.wrap (l1 + 1) = l1 + 1 := wrapI (by omega) (by omega)
  have W5 : IntKind.i64.wrap (l0 + x + y) = l0 + x + y := wrapI (by omega) (by omega)
  have HM := hidI hx
  have HN := hidI hy
  clear hx hy
  go_enter Try.func24, Try.ntmps24
  go_wp2_with fail
  refine lin_begin 11 (by kernel_rfl) (by kernel_rfl) ?_
  (refine lin_take 0 (v := ?_) (by decide) rfl (by kernel_rfl) (by kernel_rfl) (by kernel_rfl) (fun _ _ _ h => h) (by rfl) (by (intro w hS hcl; first | (go_simp; done) | (go_simp; rfl))) ?_)
  (refine lin_take 1 (v := ?_) (by decide) rfl (by kernel_rfl) (by kernel_rfl) (by kernel_rfl) (fun _ _ _ h => h) (by rfl) (by (intro w hS hcl; first | (go_simp; done) | (go_simp; rfl))) ?_)
  (refine lin_take 2 (v := ?_) (by decide) rfl (by kernel_rfl) (by kernel_rfl) (by kernel_rfl) (fun _ _ _ h => h) (by rfl) (by (intro w hS hcl; first | (go_simp; done) | (go_simp; rfl))) ?_)
  (refine lin_take 3 (v := ?_) (by decide) rfl (by kernel_rfl) (by kernel_rfl) (by kernel_rfl) (fun _ _ _ h => h) (by rfl) (by (intro w hS hcl; first | (go_simp; done) | (go_simp; rfl))) ?_)
  (refine lin_take 4 (v := ?_) (by decide) rfl (by kernel_rfl) (by kernel_rfl) (by kernel_rfl) (fun _ _ _ h => h) (by rfl) (by (intro w hS hcl; first | (go_simp; done) | (go_simp; rfl))) ?_)
  (refine lin_take 5 (v := ?_) (by decide) rfl (by kernel_rfl) (by kernel_rfl) (by kernel_rfl) (fun _ _ _ h => h) (by rfl) (by (intro w hS hcl; first | (go_simp; done) | (go_simp; rfl))) ?_)
  (refine lin_take 6 (v := ?_) (by decide) rfl (by kernel_rfl) (by kernel_rfl) (by kernel_rfl) (fun _ _ _ h => h) (by rfl) (by (intro w hS hcl; first | (go_simp; done) | (go_simp; rfl))) ?_)
  (refine lin_take 7 (v := ?_) (by decide) rfl (by kernel_rfl) (by kernel_rfl) (by kernel_rfl) (fun _ _ _ h => h) (by rfl) (by (intro w hS hcl; first | (go_simp; done) | (go_simp; rfl))) ?_)
  (refine lin_take 8 (v := ?_) (by decide) rfl (by kernel_rfl) (by kernel_rfl) (by kernel_rfl) (fun _ _ _ h => h) (by rfl) (by (intro w hS hcl; first | (go_simp; done) | (go_simp; rfl))) ?_)
  (refine lin_call 9 (by decide) rfl (by kernel_rfl) (by kernel_rfl) (by kernel_rfl) (fun _ _ _ h => h) (by rfl) (by (intro w; first | (go_simp; done) | (go_simp; rfl))) (fun w1 hS _ => calls_eq (Mod_x HM.out _ (by omega) (by omega))) ?_)
  (refine lin_take 10 (v := ?_) (by decide) rfl (by kernel_rfl) (by kernel_rfl) (by kernel_rfl) (fun _ _ _ h => h) (by rfl) (by (intro w hS hcl; first | (go_simp; done) | (go_simp; rfl))) ?_)
  refine lin_last rfl (by kernel_rfl) (by kernel_rfl) (by rfl) (fun w1 hS hcl hfr K hK => ?_)
  have hc1 := hcl; have HB1 := hS.below; have ht : w.heap.size < w1.heap.size := (by have := HB1.size; (try simp only [World.size_alloc] at this); omega); have ht1 : w.heap.size + 1 < w1.heap.size := (by have := HB1.size; (try simp only [World.size_alloc] at this); omega); clear hcl
  go_wp2_with fail
  refine lin_begin 12 (by kernel_rfl) (by kernel_rfl) ?_
  (refine lin_take 0 (v := ?_) (by decide) rfl (by kernel_rfl) (by kernel_rfl) (by kernel_rfl) (fun _ _ _ h => h) (by rfl) (by (intro w hS hcl; first | (go_simp; done) | (go_simp; rfl))) ?_)
  (refine lin_take 1 (v := ?_) (by decide) rfl (by kernel_rfl) (by kernel_rfl) (by kernel_rfl) (fun _ _ _ h => h) (by rfl) (by (intro w hS hcl; first | (go_simp; done) | (go_simp; rfl))) ?_)
  (refine lin_take 2 (v := ?_) (by decide) rfl (by kernel_rfl) (by kernel_rfl) (by kernel_rfl) (fun _ _ _ h => h) (by rfl) (by (intro w hS hcl; first | (go_simp; done) | (go_simp; rfl))) ?_)
  (refine lin_take 3 (v := ?_) (by decide) rfl (by kernel_rfl) (by kernel_rfl) (by kernel_rfl) (fun _ _ _ h => h) (by rfl) (by (intro w hS hcl; first | (go_simp; done) | (go_simp; rfl))) ?_)
  (refine lin_take 4 (v := ?_) (by decide) rfl (by kernel_rfl) (by kernel_rfl) (by kernel_rfl) (fun _ _ _ h => h) (by rfl) (by (intro w hS hcl; first | (go_simp; done) | (go_simp; rfl))) ?_)
  (refine lin_take 5 (v := ?_) (by decide) rfl (by kernel_rfl) (by kernel_rfl) (by kernel_rfl) (fun _ _ _ h => h) (by rfl) (by (intro w hS hcl; first | (go_simp; done) | (go_simp; rfl))) ?_)
  (refine lin_call 6 (by decide) rfl (by kernel_rfl) (by kernel_rfl) (by kernel_rfl) (fun _ _ _ h => h) (by rfl) (by (intro w; first | (go_simp; done) | (go_simp; rfl))) (fun w1 hS _ => calls_eq (Mod_x HN.out _ (by omega) (by omega))) ?_)
  (refine lin_take 7 (v := ?_) (by decide) rfl (by kernel_rfl) (by kernel_rfl) (by kernel_rfl) (fun _ _ _ h => h) (by rfl) (by (intro w hS hcl; first | (go_simp; done) | (go_simp; rfl))) ?_)
  (refine lin_take 8 (v := ?_) (by decide) rfl (by kernel_rfl) (by kernel_rfl) (by kernel_rfl) (fun _ _ _ h => h) (by rfl) (by (intro w hS hcl; first | (go_simp; done) | (go_simp; rfl))) ?_)
  (refine lin_take 9 (v := ?_) (by decide) rfl (by kernel_rfl) (by kernel_rfl) (by kernel_rfl) (fun _ _ _ h => h) (by rfl) (by (intro w hS hcl; first | (go_simp; done) | (go_simp; rfl))) ?_)
  (refine lin_take 10 (v := ?_) (by decide) rfl (by kernel_rfl) (by kernel_rfl) (by kernel_rfl) (fun _ _ _ h => h) (by rfl) (by (intro w hS hcl; first | (go_simp; done) | (go_simp; rfl))) ?_)
  (refine lin_take 11 (v := ?_) (by decide) rfl (by kernel_rfl) (by kernel_rfl) (by kernel_rfl) (fun _ _ _ h => h) (by rfl) (by (intro w hS hcl; first | (go_simp; done) | (go_simp; rfl))) ?_)
  refine lin_last rfl (by kernel_rfl) (by kernel_rfl) (by rfl) (fun w1 hS hcl hfr K hK => ?_)
  have q0 : w1.cell? ⟨w.heap.size + 1, 0, none⟩ = some (.int .i64 0) := by (rw [hcl _ ht1, hc1 _ (by simp [World.size_alloc])]; go_simp)
  have q1 : w1.cell? ⟨w.heap.size + 1, 1, none⟩ = some (.int .i64 0) := by (rw [hcl _ ht1, hc1 _ (by simp [World.size_alloc])]; go_simp)
  clear hcl hc1
  go_wp2
  exact (bodyPost_ret (v := .agg #[.int .i64 (l0 + x), .int .i64 l2]) (by simp [results, Try.results24, go_sem, q0, q1]) rfl) ⟨rfl, by (repeat (first | (with_reducible exact Below.refl _ _) | (with_reducible refine Below.nset ?_ ?_ _) | (with_reducible refine Below.nalloc ?_ _) | (with_reducible refine Below.ndrew ?_) | (with_reducible refine Below.ndrewN ?_ _) | (with_reducible refine Below.next ?_ (by assumption)) | (with_reducible refine Below.next ?_ (OldAs.below (by assumption))) | (focus (first | (simp; done) | (simp; omega)))))⟩
theorem Span_lo (a b l0 l1 l2 : Int) (w : World) (h0 : 0 ≤ l0) (h1 : 0 ≤ l1) (h2 : l0 ≤ l2) (h3 : l1 ≤ 1000000) (h4 : l2 ≤ 1000000) (hm : l0 + a % (l2 - l0 + 1) + b % (l1 + 1) ≤ l2) :
    Calls Try.prog 24 #[.int .i64 a, .int .i64 b, .agg #[.int .i64 l0, .int .i64 l1, .int .i64 l2]] w fun e w' => e = .returned (.agg #[.int .i64 (l0 + a % (l2 - l0 + 1)), .int .i64 (l0 + a % (l2 - l0 + 1) + b % (l1 + 1))]) ∧ Below w.heap.size w w' := by
  have a1 := Int.emod_nonneg a (by omega : l2 - l0 + 1 ≠ 0)
  have a2 := Int.emod_lt_of_pos a (by omega : 0 < l2 - l0 + 1)
  have b1 := Int.emod_nonneg b (by omega : l1 + 1 ≠ 0)
  have b2 := Int.emod_lt_of_pos b (by omega : 0 < l1 + 1)
  generalize hx : a % (l2 - l0 + 1) = x at *
  generalize hy : b % (l1 + 1) = y at *
  have W1 : IntKind.i64.wrap (l2 - l0) = l2 - l0 := wrapI (by omega) (by omega)
  have W2 : IntKind.i64.wrap (l2 - l0 + 1) = l2 - l0 + 1 := wrapI (by omega) (by omega)
  have W3 : IntKind.i64.wrap (l0 + x) = l0 + x := wrapI (by omega) (by omega)
  have W4 : IntKind.i64.wrap (l1 + 1) = l1 + 1 := wrapI (by omega) (by omega)
  have W5 : IntKind.i64.wrap (l0 + x + y) = l0 + x + y := wrapI (by omega) (by omega)
  have HM := hidI hx
  have HN := hidI hy
  clear hx hy
  go_enter Try.func24, Try.ntmps24
  go_wp2_with fail
  refine lin_begin 11 (by kernel_rfl) (by kernel_rfl) ?_
  (refine lin_take 0 (v := ?_) (by decide) rfl (by kernel_rfl) (by kernel_rfl) (by kernel_rfl) (fun _ _ _ h => h) (by rfl) (by (intro w hS hcl; first | (go_simp; done) | (go_simp; rfl))) ?_)
  (refine lin_take 1 (v := ?_) (by decide) rfl (by kernel_rfl) (by kernel_rfl) (by kernel_rfl) (fun _ _ _ h => h) (by rfl) (by (intro w hS hcl; first | (go_simp; done) | (go_simp; rfl))) ?_)
  (refine lin_take 2 (v := ?_) (by decide) rfl (by kernel_rfl) (by kernel_rfl) (by kernel_rfl) (fun _ _ _ h => h) (by rfl) (by (intro w hS hcl; first | (go_simp; done) | (go_simp; rfl))) ?_)
  (refine lin_take 3 (v := ?_) (by decide) rfl (by kernel_rfl) (by kernel_rfl) (by kernel_rfl) (fun _ _ _ h => h) (by rfl) (by (intro w hS hcl; first | (go_simp; done) | (go_simp; rfl))) ?_)
  (refine lin_take 4 (v := ?_) (by decide) rfl (by kernel_rfl) (by kernel_rfl) (by kernel_rfl) (fun _ _ _ h => h) (by rfl) (by (intro w hS hcl; first | (go_simp; done) | (go_simp; rfl))) ?_)
  (refine lin_take 5 (v := ?_) (by decide) rfl (by kernel_rfl) (by kernel_rfl) (by kernel_rfl) (fun _ _ _ h => h) (by rfl) (by (intro w hS hcl; first | (go_simp; done) | (go_simp; rfl))) ?_)
  (refine lin_take 6 (v := ?_) (by decide) rfl (by kernel_rfl) (by kernel_rfl) (by kernel_rfl) (fun _ _ _ h => h) (by rfl) (by (intro w hS hcl; first | (go_simp; done) | (go_simp; rfl))) ?_)
  (refine lin_take 7 (v := ?_) (by decide) rfl (by kernel_rfl) (by kernel_rfl) (by kernel_rfl) (fun _ _ _ h => h) (by rfl) (by (intro w hS hcl; first | (go_simp; done) | (go_simp; rfl))) ?_)
  (refine lin_take 8 (v := ?_) (by decide) rfl (by kernel_rfl) (by kernel_rfl) (by kernel_rfl) (fun _ _ _ h => h) (by rfl) (by (intro w hS hcl; first | (go_simp; done) | (go_simp; rfl))) ?_)
  (refine lin_call 9 (by decide) rfl (by kernel_rfl) (by kernel_rfl) (by kernel_rfl) (fun _ _ _ h => h) (by rfl) (by (intro w; first | (go_simp; done) | (go_simp; rfl))) (fun w1 hS _ => calls_eq (Mod_x HM.out _ (by omega) (by omega))) ?_)
  (refine lin_take 10 (v := ?_) (by decide) rfl (by kernel_rfl) (by kernel_rfl) (by kernel_rfl) (fun _ _ _ h => h) (by rfl) (by (intro w hS hcl; first | (go_simp; done) | (go_simp; rfl))) ?_)
  refine lin_last rfl (by kernel_rfl) (by kernel_rfl) (by rfl) (fun w1 hS hcl hfr K hK => ?_)
  have hc1 := hcl; have HB1 := hS.below; have ht : w.heap.size < w1.heap.size := (by have := HB1.size; (try simp only [World.size_alloc] at this); omega); have ht1 : w.heap.size + 1 < w1.heap.size := (by have := HB1.size; (try simp only [World.size_alloc] at this); omega); clear hcl
  go_wp2_with fail
  refine lin_begin 12 (by kernel_rfl) (by kernel_rfl) ?_
  (refine lin_take 0 (v := ?_) (by decide) rfl (by kernel_rfl) (by kernel_rfl) (by kernel_rfl) (fun _ _ _ h => h) (by rfl) (by (intro w hS hcl; first | (go_simp; done) | (go_simp; rfl))) ?_)
  (refine lin_take 1 (v := ?_) (by decide) rfl (by kernel_rfl) (by kernel_rfl) (by kernel_rfl) (fun _ _ _ h => h) (by rfl) (by (intro w hS hcl; first | (go_simp; done) | (go_simp; rfl))) ?_)
  (refine lin_take 2 (v := ?_) (by decide) rfl (by kernel_rfl) (by kernel_rfl) (by kernel_rfl) (fun _ _ _ h => h) (by rfl) (by (intro w hS hcl; first | (go_simp; done) | (go_simp; rfl))) ?_)
  (refine lin_take 3 (v := ?_) (by decide) rfl (by kernel_rfl) (by kernel_rfl) (by kernel_rfl) (fun _ _ _ h => h) (by rfl) (by (intro w hS hcl; first | (go_simp; done) | (go_simp; rfl))) ?_)
  (refine lin_take 4 (v := ?_) (by decide) rfl (by kernel_rfl) (by kernel_rfl) (by kernel_rfl) (fun _ _ _ h => h) (by rfl) (by (intro w hS hcl; first | (go_simp; done) | (go_simp; rfl))) ?_)
  (refine lin_take 5 (v := ?_) (by decide) rfl (by kernel_rfl) (by kernel_rfl) (by kernel_rfl) (fun _ _ _ h => h) (by rfl) (by (intro w hS hcl; first | (go_simp; done) | (go_simp; rfl))) ?_)
  (refine lin_call 6 (by decide) rfl (by kernel_rfl) (by kernel_rfl) (by kernel_rfl) (fun _ _ _ h => h) (by rfl) (by (intro w; first | (go_simp; done) | (go_simp; rfl))) (fun w1 hS _ => calls_eq (Mod_x HN.out _ (by omega) (by omega))) ?_)
  (refine lin_take 7 (v := ?_) (by decide) rfl (by kernel_rfl) (by kernel_rfl) (by kernel_rfl) (fun _ _ _ h => h) (by rfl) (by (intro w hS hcl; first | (go_simp; done) | (go_simp; rfl))) ?_)
  (refine lin_take 8 (v := ?_) (by decide) rfl (by kernel_rfl) (by kernel_rfl) (by kernel_rfl) (fun _ _ _ h => h) (by rfl) (by (intro w hS hcl; first | (go_simp; done) | (go_simp; rfl))) ?_)
  (refine lin_take 9 (v := ?_) (by decide) rfl (by kernel_rfl) (by kernel_rfl) (by kernel_rfl) (fun _ _ _ h => h) (by rfl) (by (intro w hS hcl; first | (go_simp; done) | (go_simp; rfl))) ?_)
  (refine lin_take 10 (v := ?_) (by decide) rfl (by kernel_rfl) (by kernel_rfl) (by kernel_rfl) (fun _ _ _ h => h) (by rfl) (by (intro w hS hcl; first | (go_simp; done) | (go_simp; rfl))) ?_)
  (refine lin_take 11 (v := ?_) (by decide) rfl (by kernel_rfl) (by kernel_rfl) (by kernel_rfl) (fun _ _ _ h => h) (by rfl) (by (intro w hS hcl; first | (go_simp; done) | (go_simp; rfl))) ?_)
  refine lin_last rfl (by kernel_rfl) (by kernel_rfl) (by rfl) (fun w1 hS hcl hfr K hK => ?_)
  have q0 : w1.cell? ⟨w.heap.size + 1, 0, none⟩ = some (.int .i64 0) := by (rw [hcl _ ht1, hc1 _ (by simp [World.size_alloc])]; go_simp)
  have q1 : w1.cell? ⟨w.heap.size + 1, 1, none⟩ = some (.int .i64 0) := by (rw [hcl _ ht1, hc1 _ (by simp [World.size_alloc])]; go_simp)
  clear hcl hc1
  go_wp2
  exact (bodyPost_ret (v := .agg #[.int .i64 (l0 + x), .int .i64 (l0 + x + y)]) (by simp [results, Try.results24, go_sem, q0, q1]) rfl) ⟨rfl, by (repeat (first | (with_reducible exact Below.refl _ _) | (with_reducible refine Below.nset ?_ ?_ _) | (with_reducible refine Below.nalloc ?_ _) | (with_reducible refine Below.ndrew ?_) | (with_reducible refine Below.ndrewN ?_ _) | (with_reducible refine Below.next ?_ (by assumption)) | (with_reducible refine Below.next ?_ (OldAs.below (by assumption))) | (focus (first | (simp; done) | (simp; omega)))))⟩
theorem Span_any (a b l0 l1 l2 : Int) (w : World) (h0 : 0 ≤ l0) (h1 : 0 ≤ l1) (h2 : l0 ≤ l2) (h3 : l1 ≤ 1000000) (h4 : l2 ≤ 1000000) :
    Calls Try.prog 24 #[.int .i64 a, .int .i64 b, .agg #[.int .i64 l0, .int .i64 l1, .int .i64 l2]] w fun e w' => e = .returned (.agg #[.int .i64 ((spanS a b l0 l1 l2).lo), .int .i64 ((spanS a b l0 l1 l2).hi)]) ∧ Below w.heap.size w w' := by
  unfold spanS
  rcases Int.lt_or_le l2 (l0 + a % (l2 - l0 + 1) + b % (l1 + 1)) with hm | hm
  · rw [Int.min_eq_right (Int.le_of_lt hm)]
    exact Span_hi a b l0 l1 l2 w h0 h1 h2 h3 h4 hm
  · rw [Int.min_eq_left hm]
    exact Span_lo a b l0 l1 l2 w h0 h1 h2 h3 h4 hm
end Go.Proofs.Ytcgokimagimamaa
/- Shapes and bodies that numbers describe: the walks. -/
namespace Go.Proofs.Ytcgokimagimamaa
open Go.RowKit
set_option maxHeartbeats 4000000
set_option maxRecDepth 100000
set_option linter.unusedSimpArgs false
set_option linter.unusedVariables false
theorem wp_gen {P : Program} {c : Code} {a : Act} {K : Exit → Act → World → Prop} {W : World} (Q : World → Prop) (hQ : Q W) (h : ∀ W, Q W → Code.wp P c K a W) : Code.wp P c K a W := h W hQ
/-- 'lin_last' with what comes behind as it stands. -/
theorem lin_final {P : Program} {ops : Array Oper} {Q : Exit → Act → World → Prop} {W : World} {t : Nat} {oi : Oper} {listed : Array Bool} {a : Act} (hi : ops[t]? = some oi) (hr : Region.ready .any ops listed = [t])
    (hd : Region.ready .any ops (listed.setIfInBounds t true) = []) (hw : Region.wanted oi (yielded ops a.tmps) = true)
    (h : ∀ w, OldAs W w → (∀ p : Addr, p.block < W.heap.size → w.cell? p = W.cell? p) → (∀ p : Addr, p.block < W.heap.size → w.frozen? p = W.frozen? p) →
      oi.wp P a w (fun a' w' => Q .normal a' w') Q) : Lin P ops Q W t 1 listed a :=
  lin_last hi hr hd hw fun w hS hc hf K hK => Oper.wp_mono (fun a w hq => hK a w hq) (h w hS hc hf)
theorem Span_x {a b l0 l1 l2 : Int} {r : Rng} (hr : spanS a b l0 l1 l2 = r) (w : World) (h0 : 0 ≤ l0) (h1 : 0 ≤ l1) (h2 : l0 ≤ l2) (h3 : l1 ≤ 1000000) (h4 : l2 ≤ 1000000) :
    Calls Try.prog 24 #[.int .i64 a, .int .i64 b, .agg #[.int .i64 l0, .int .i64 l1, .int .i64 l2]] w fun e w' => e = .returned (.agg #[.int .i64 r.lo, .int .i64 r.hi]) ∧ Below w.heap.size w w' := hr ▸ Span_any a b l0 l1 l2 w h0 h1 h2 h3 h4
theorem kept_cells {w W : World} {cs : Array Value} {t : TypeId} (h : Below (w.alloc (.cells cs t)).heap.size (w.alloc (.cells cs t)) W) {j : Nat} {v : Value} (hv : cs[j]? = some v) : W.cell? ⟨w.heap.size, j, none⟩ = some v := by
  rw [h.cell (by simp [World.size_alloc])]
  have e : (w.alloc (.cells cs t)).heap[w.heap.size]? = some (.cells cs t) := by show (w.heap.push _)[w.heap.size]? = _; simp
  unfold World.cell?
  rw [e]
  exact hv
theorem MadeBody_any (id : Int) (xs : List Int) (v : Value) (w : World) (h : Rd 1 (fun x => [.int .i64 x]) w v xs) (hl : xs.length ≤ 140737488355328) :
    Calls Try.prog 23 #[.int .i64 id, v] w fun e w' => e = .returned (.agg #[.int .i64 (madeBody id xs).id, .int .i64 (madeBody id xs).shrink.lo, .int .i64 (madeBody id xs).shrink.hi, .int .i64 (madeBody id xs).loss.lo, .int .i64 (madeBody id xs).loss.hi, .int .i64 (madeBody id xs).heat.lo, .int .i64 (madeBody id xs).heat.hi]) ∧ Below w.heap.size w w' := by
  simp only [madeBody]
  go_enter Try.func23, Try.ntmps23
  go_wp2_with fail
  have r0 : Rd 1 (fun x => [.int .i64 x]) (w.alloc (.cells #[.int .i64 0, .int .i64 0, .int .i64 0, .int .i64 0, .int .i64 0, .int .i64 0, .int .i64 0] 43)) v xs := h.alloc _
  (refine Calls.mono (At_any xs v 0 _ r0 hl) ?_; rintro e w' ⟨rfl, rfl⟩; go_wp2_with fail)
  (refine Calls.mono (At_any xs v 1 _ r0 hl) ?_; rintro e w' ⟨rfl, rfl⟩; go_wp2_with fail)
  (refine Calls.mono (Span_any (atS xs 0) (atS xs 1) 40 60 200 _ (by omega) (by omega) (by omega) (by omega) (by omega)) ?_; rintro e w1 ⟨rfl, hb⟩; have hd := (bcell3 hb).1; have hg := (bcell3 hb).2.1; have : w.heap.size < w1.heap.size := (by (have hq := hb.size; (try simp only [World.size_alloc, World.size_setCell] at hq); omega)); have hbk := hb; clear hb; go_wp2_with fail)
  have r1 := r0.below hbk
  (refine Calls.mono (At_any xs v 2 _ r1 hl) ?_; rintro e w' ⟨rfl, rfl⟩; go_wp2_with fail)
  (refine Calls.mono (At_any xs v 3 _ r1 hl) ?_; rintro e w' ⟨rfl, rfl⟩; go_wp2_with fail)
  (refine Calls.mono (Span_any (atS xs 2) (atS xs 3) 10 40 300 _ (by omega) (by omega) (by omega) (by omega) (by omega)) ?_; rintro e w2 ⟨rfl, hb⟩; have hd := (bcell3 hb).1; have hg := (bcell3 hb).2.1; have : w.heap.size < w2.heap.size := (by (have hq := hb.size; (try simp only [World.size_alloc, World.size_setCell] at hq); omega)); have hbk := hb; clear hb; go_wp2_with fail)
  have r2 := r1.below hbk
  (refine Calls.mono (At_any xs v 4 _ r2 hl) ?_; rintro e w' ⟨rfl, rfl⟩; go_wp2_with fail)
  (refine Calls.mono (At_any xs v 5 _ r2 hl) ?_; rintro e w' ⟨rfl, rfl⟩; go_wp2_with fail)
  (refine Calls.mono (Span_any (atS xs 4) (atS xs 5) 700 300 1300 _ (by omega) (by omega) (by omega) (by omega) (by omega)) ?_; rintro e w3 ⟨rfl, hb⟩; have hd := (bcell3 hb).1; have hg := (bcell3 hb).2.1; have : w.heap.size < w3.heap.size := (by (have hq := hb.size; (try simp only [World.size_alloc, World.size_setCell] at hq); omega)); have hbk := hb; clear hb; go_wp2_with fail)
  clear r0 r1 r2
  generalize spanS (atS xs 0) (atS xs 1) 40 60 200 = p
  generalize spanS (atS xs 2) (atS xs 3) 10 40 300 = q
  generalize spanS (atS xs 4) (atS xs 5) 700 300 1300 = r
  have HB : Below (w.alloc (.cells #[.int .i64 0, .int .i64 0, .int .i64 0, .int .i64 0, .int .i64 0, .int .i64 0, .int .i64 0] 43)).heap.size (w.alloc (.cells #[.int .i64 0, .int .i64 0, .int .i64 0, .int .i64 0, .int .i64 0, .int .i64 0, .int .i64 0] 43)) w3 := by (repeat (first | (with_reducible exact Below.refl _ _) | (with_reducible refine Below.nset ?_ ?_ _) | (with_reducible refine Below.nalloc ?_ _) | (with_reducible refine Below.ndrew ?_) | (with_reducible refine Below.ndrewN ?_ _) | (with_reducible refine Below.next ?_ (by assumption)) | (with_reducible refine Below.next ?_ (OldAs.below (by assumption))) | (focus (first | (simp; done) | (simp; omega)))))
  have HQ : w3.cell? ⟨w.heap.size, 0, none⟩ = some (.int .i64 (0)) ∧ w3.cell? ⟨w.heap.size, 1, none⟩ = some (.int .i64 (0)) ∧ w3.cell? ⟨w.heap.size, 2, none⟩ = some (.int .i64 (0)) ∧ w3.cell? ⟨w.heap.size, 3, none⟩ = some (.int .i64 (0)) ∧ w3.cell? ⟨w.heap.size, 4, none⟩ = some (.int .i64 (0)) ∧ w3.cell? ⟨w.heap.size, 5, none⟩ = some (.int .i64 (0)) ∧ w3.cell? ⟨w.heap.size, 6, none⟩ = some (.int .i64 (0)) := ⟨kept_cells HB rfl, kept_cells HB rfl, kept_cells HB rfl, kept_cells HB rfl, kept_cells HB rfl, kept_cells HB rfl, kept_cells HB rfl⟩
  obtain ⟨c0, c1, c2, c3, c4, c5, c6⟩ := HQ
  have HB0 : Below w.heap.size w w3 := by (repeat (first | (with_reducible exact Below.refl _ _) | (with_reducible refine Below.nset ?_ ?_ _) | (with_reducible refine Below.nalloc ?_ _) | (with_reducible refine Below.ndrew ?_) | (with_reducible refine Below.ndrewN ?_ _) | (with_reducible refine Below.next ?_ (by assumption)) | (with_reducible refine Below.next ?_ (OldAs.below (by assumption))) | (focus (first | (simp; done) | (simp; omega)))))
  clear HB hd hg
  exact (bodyPost_ret (v := .agg #[.int .i64 id, .int .i64 p.lo, .int .i64 p.hi, .int .i64 q.lo, .int .i64 q.hi, .int .i64 r.lo, .int .i64 r.hi]) (by simp [results, Try.results23, go_sem, c0, c1, c2, c3, c4, c5, c6]) rfl) ⟨rfl, Below.nset (Below.nset (Below.nset (Below.nset (Below.nset (Below.nset (Below.nset HB0 (Nat.le_refl _) _) (Nat.le_refl _) _) (Nat.le_refl _) _) (Nat.le_refl _) _) (Nat.le_refl _) _) (Nat.le_refl _) _) (Nat.le_refl _) _⟩
end Go.Proofs.Ytcgokimagimamaa
