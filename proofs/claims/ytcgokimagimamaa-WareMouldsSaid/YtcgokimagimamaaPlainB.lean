/- Layer 1 in plain Lean: what moulds are. -/
import Derived.Test.YtcgokimagimamaaPlain
namespace Go.Proofs.Ytcgokimagimamaa
theorem mould_none {b : Body} {dry : Rng} (ho : BodyOk b) (hm : mouldLo b dry > mouldHi b dry) {n : Int} (h1 : n ≤ 2000) :
    turnLo n b.shrink.hi < dry.lo ∨ turnHi n b.shrink.lo > dry.hi := by
  have h2 := ho.s2
  have h3 := ho.s3
  have key := mouldOk_iff (dry := dry) (by_ := b.shrink) (n := n) (by omega) (by omega)
  by_cases hk : mouldOk dry b.shrink n = true
  · have := key.1 hk
    simp only [mouldLo, mouldHi] at hm
    omega
  · simp only [mouldOk, Bool.and_eq_true, decide_eq_true_eq] at hk
    omega
theorem mould_in {b : Body} {dry : Rng} (ho : BodyOk b) {n : Int} (h1 : mouldLo b dry ≤ n) (h2 : n ≤ mouldHi b dry) : dry.lo ≤ turnLo n b.shrink.hi ∧ turnHi n b.shrink.lo ≤ dry.hi := by
  have h4 := ho.s2
  have h3 := ho.s3
  have key := (mouldOk_iff (dry := dry) (by_ := b.shrink) (n := n) (by omega) (by omega)).2 ⟨h1, by simp only [mouldHi] at h2; omega⟩
  simpa only [mouldOk, Bool.and_eq_true, decide_eq_true_eq] using key
theorem mould_below {b : Body} {dry : Rng} (ho : BodyOk b) : (mouldLo b dry - 1) * (1000 - b.shrink.hi) < 1000 * dry.lo := by
  have h3 := ho.s3
  have := (upDiv_le (n := 1000 * dry.lo) (d := 1000 - b.shrink.hi) (x := mouldLo b dry - 1) (by omega))
  unfold mouldLo at *
  omega
theorem mould_above {b : Body} {dry : Rng} (ho : BodyOk b) : mouldHi b dry = 2000 ∨ (mouldHi b dry + 1) * (1000 - b.shrink.lo) > 1000 * dry.hi := by
  have h3 := ho.s3
  have h2 := ho.s2
  by_cases hq : 2000 ≤ 1000 * dry.hi / (1000 - b.shrink.lo)
  · left
    simp only [mouldHi]
    omega
  · right
    have e : mouldHi b dry = 1000 * dry.hi / (1000 - b.shrink.lo) := by simp only [mouldHi]; omega
    rw [e]
    have := Int.lt_ediv_add_one_mul_self (1000 * dry.hi) (by omega : 0 < 1000 - b.shrink.lo)
    omega
theorem mould_nonneg {b : Body} {dry : Rng} (ho : BodyOk b) (hd : 0 ≤ dry.lo) : 0 ≤ mouldLo b dry := by
  have h3 := ho.s3
  have := (upDiv_le (n := 1000 * dry.lo) (d := 1000 - b.shrink.hi) (x := -1) (by omega))
  unfold mouldLo
  omega
theorem mould_most {b : Body} {dry : Rng} : mouldHi b dry ≤ 2000 := by simp only [mouldHi]; omega
end Go.Proofs.Ytcgokimagimamaa
