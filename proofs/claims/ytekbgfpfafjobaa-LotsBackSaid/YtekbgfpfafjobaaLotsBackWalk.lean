/- The walk of LotsBack: it answers true at every two words of 64 bits. -/
import Derived.Test.YtekbgfpfafjobaaLotsPlain
namespace Go.Proofs.Ytekbgfpfafjobaa.Lots
open Go.RowKit

set_option maxHeartbeats 400000 in
theorem back_any (x y : Int) (x0 : 0 ≤ x) (x1 : x ≤ 18446744073709551615) (y0 : 0 ≤ y) (y1 : y ≤ 18446744073709551615) (w : World) :
    Calls Try.prog 3 #[.int .u64 x, .int .u64 y] w fun e w' => e = .returned (.bool true) ∧ Below w.heap.size w w' := by
  have h1 : (lst (nxt x) == x) = true := beq_iff_eq.2 (lst_nxt x x0 x1)
  have h2 : (nxt (lst x) == x) = true := beq_iff_eq.2 (nxt_lst x x0 x1)
  have h3 : ((nxt x == nxt y) == (x == y)) = true := by
    by_cases h : x = y
    · subst h; simp
    · have hn : ¬ nxt x = nxt y := fun e => h (by rw [← lst_nxt x x0 x1, ← lst_nxt y y0 y1, e])
      rw [beq_eq_false_iff_ne.2 h, beq_eq_false_iff_ne.2 hn]; rfl
  have H3 := Lib.hid h3
  clear h3 x0 x1 y0 y1
  go_enter Try.func3, Try.ntmps3
  go_wp2_with (first | (go_at_call 18; refine (live_any _).mono ?_; rintro e w' ⟨rfl, rfl⟩) | (go_at_call 20; refine (next_any _ _).mono ?_; rintro e w' ⟨rfl, rfl⟩) | (go_at_call 19; refine (last_any _ _).mono ?_; rintro e w' ⟨rfl, rfl⟩))
  go_ret
  exact ⟨by rw [H3.out]; rfl, Below.refl _ _⟩
end Go.Proofs.Ytekbgfpfafjobaa.Lots
