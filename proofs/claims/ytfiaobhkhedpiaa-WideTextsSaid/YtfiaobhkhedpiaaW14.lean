/- Walks of package wide: sums and differences, in every case. -/
import Derived.Test.YtfiaobhkhedpiaaW13
import Derived.Test.YtfiaobhkhedpiaaW3
import Derived.Test.YtfiaobhkhedpiaaW4
namespace Go.Proofs.Ytfiaobhkhedpiaa
open Go.RowKit Go.Lib

theorem Wd.not_fit_pos {v : Int} (h : ¬ Wd.fit v) (h0 : 0 ≤ v) (h1 : v < 340282366920938463463374607431768211456) : decide (9223372036854775808 ≤ Wd.hi v) = true := by
  unfold Wd.fit at h; exact Wd.size_ge v (by omega) h1
theorem Wd.not_fit_neg {v : Int} (h : ¬ Wd.fit v) (h0 : v < 0) (h1 : -340282366920938463463374607431768211456 ≤ v) : decide (9223372036854775808 ≤ Wd.hi v) = false := by
  unfold Wd.fit at h
  have : ¬ 9223372036854775808 ≤ Wd.hi v := by unfold Wd.hi; omega
  simpa using this

/-- the sum. -/
theorem Add_w (a b : Int) (ha : Wd.fit a) (hb : Wd.fit b) (w : World) :
    Calls Try.prog 46 #[Value.agg #[.int .u64 (Wd.hi (a)), .int .u64 (Wd.lo (a))], Value.agg #[.int .u64 (Wd.hi (b)), .int .u64 (Wd.lo (b))]] w fun e w' => e = .returned (.tuple #[Value.agg #[.int .u64 (Wd.hi (Wd.tr (a + b))), .int .u64 (Wd.lo (Wd.tr (a + b)))], .int .i64 (Wd.er (a + b))]) ∧ Below w.heap.size w w' := by
  have fa := ha
  have fb := hb
  unfold Wd.fit at fa fb
  by_cases h : Wd.fit (a + b)
  · rw [Wd.tr_of h, Wd.er_of h]
    by_cases na : a < 0 <;> by_cases nb : b < 0
    · exact Add_ttt a b (Wd.hi_ge a ha na) (Wd.hi_ge b hb nb) (Wd.hi_ge _ h (by omega)) w
    · exact Add_tf a b (Wd.hi_ge a ha na) (Wd.hi_lt b hb (by omega)) w
    · exact Add_ft a b (Wd.hi_lt a ha (by omega)) (Wd.hi_ge b hb nb) w
    · exact Add_fff a b (Wd.hi_lt a ha (by omega)) (Wd.hi_lt b hb (by omega)) (Wd.hi_lt _ h (by omega)) w
  · rw [Wd.tr_no h, Wd.er_no h]
    have h' := h
    unfold Wd.fit at h'
    by_cases na : a < 0 <;> by_cases nb : b < 0
    · exact Add_ttf a b (Wd.hi_ge a ha na) (Wd.hi_ge b hb nb) (Wd.not_fit_neg h (by omega) (by omega)) w
    · omega
    · omega
    · exact Add_fft a b (Wd.hi_lt a ha (by omega)) (Wd.hi_lt b hb (by omega)) (Wd.not_fit_pos h (by omega) (by omega)) w

/-- the difference. -/
theorem Sub_w (a b : Int) (ha : Wd.fit a) (hb : Wd.fit b) (w : World) :
    Calls Try.prog 48 #[Value.agg #[.int .u64 (Wd.hi (a)), .int .u64 (Wd.lo (a))], Value.agg #[.int .u64 (Wd.hi (b)), .int .u64 (Wd.lo (b))]] w fun e w' => e = .returned (.tuple #[Value.agg #[.int .u64 (Wd.hi (Wd.tr (a - b))), .int .u64 (Wd.lo (Wd.tr (a - b)))], .int .i64 (Wd.er (a - b))]) ∧ Below w.heap.size w w' := by
  have fa := ha
  have fb := hb
  unfold Wd.fit at fa fb
  by_cases h : Wd.fit (a - b)
  · rw [Wd.tr_of h, Wd.er_of h]
    by_cases na : a < 0 <;> by_cases nb : b < 0
    · exact Sub_tt a b (Wd.hi_ge a ha na) (Wd.hi_ge b hb nb) w
    · exact Sub_tft a b (Wd.hi_ge a ha na) (Wd.hi_lt b hb (by omega)) (Wd.hi_ge _ h (by omega)) w
    · exact Sub_ftf a b (Wd.hi_lt a ha (by omega)) (Wd.hi_ge b hb nb) (Wd.hi_lt _ h (by omega)) w
    · exact Sub_ff a b (Wd.hi_lt a ha (by omega)) (Wd.hi_lt b hb (by omega)) w
  · rw [Wd.tr_no h, Wd.er_no h]
    have h' := h
    unfold Wd.fit at h'
    by_cases na : a < 0 <;> by_cases nb : b < 0
    · omega
    · exact Sub_tff a b (Wd.hi_ge a ha na) (Wd.hi_lt b hb (by omega)) (Wd.not_fit_neg h (by omega) (by omega)) w
    · exact Sub_ftt a b (Wd.hi_lt a ha (by omega)) (Wd.hi_ge b hb nb) (Wd.not_fit_pos h (by omega) (by omega)) w
    · omega

end Go.Proofs.Ytfiaobhkhedpiaa
