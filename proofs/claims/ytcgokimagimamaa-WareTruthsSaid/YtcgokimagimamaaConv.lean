/- From my rows to the print's. -/
import Derived.Test.YtcgokimagimamaaF
import Derived.Test.YtcgokimagimamaaRowK
namespace Go.Proofs.Ytcgokimagimamaa.F
open Go.RowKit Go.Proofs.YtcgokimagimamaaW.PrintWords
set_option linter.unusedVariables false
theorem c_of_rd {α β : Type} {d : Kd α} {sz : Nat} {enc : β → List Value} {w : World} {v : Value} {xs : List β} (f : β → α) (hsz : d.sz = sz) (hl : xs.length ≤ 9223372036854775807) (hlen : ∀ x, (enc x).length = sz) (hK : ∀ x, d.K w (f x) (enc x)) (h : Rd sz enc w v xs) :
    ∃ A c, v = .slice A (xs.map f).length c ∧ (xs.map f).length ≤ c ∧ Kd.C d w A (xs.map f).length (xs.map f) := by
  subst hsz
  obtain ⟨A, c, rfl, hc, h⟩ := h
  refine ⟨A, c, by simp, by simpa using hc, rfl, by simpa using hl, fun hp => ?_⟩
  have hne : xs ≠ [] := by rintro rfl; simp at hp
  obtain ⟨b, o, rfl, hb, hx⟩ := h hne
  refine ⟨⟨b, o, none⟩, rfl, fun j p hj => ?_⟩
  rw [List.getElem?_map] at hj
  cases hxj : xs[j]? with
  | none => rw [hxj] at hj; cases hj
  | some y =>
    rw [hxj] at hj
    obtain rfl : f y = p := by simpa using hj
    refine ⟨enc y, hlen y, hK y, fun i u hu => ?_⟩
    rw [add_none, ← Nat.add_assoc]
    exact hx j y hxj i u hu
theorem c_ints {w : World} {v : Value} {xs : List Int} (hl : xs.length ≤ 9223372036854775807) (h : Rd 1 (fun x => [.int .i64 x]) w v xs) : ∃ A c, v = .slice A xs.length c ∧ xs.length ≤ c ∧ Kd.C (Kd.int .i64) w A xs.length xs := by
  have := c_of_rd (d := Kd.int .i64) id rfl hl (fun _ => rfl) (fun _ => rfl) h
  simpa using this
end Go.Proofs.Ytcgokimagimamaa.F
