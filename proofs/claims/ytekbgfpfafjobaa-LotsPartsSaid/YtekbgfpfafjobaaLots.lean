/- What the small functions of package lots answer: Next, Last, one step done twice, many steps at once (Jump), and the chapter's example; no condition. -/
import Derived.Test.YtekbgfpfafjobaaRows
import Derived.WalkKit
import Derived.WalkSpells
import Derived.WalkLawsBesides
import Derived.Lib.Hide
namespace Go.Proofs.Ytekbgfpfafjobaa.Lots
open Go.RowKit

/-- A word of 64 bits, taken and added to. -/
def aff (t p x : Int) : Int := IntKind.u64.wrap (IntKind.u64.wrap (x * t) + p)
def nxt (x : Int) : Int := aff 6364136223846793005 1442695040888963407 x
def lst (x : Int) : Int := IntKind.u64.wrap (IntKind.u64.wrap (x - 1442695040888963407) * 13877824140714322085)
def sqt (t : Int) : Int := IntKind.u64.wrap (t * t)
def sqp (t p : Int) : Int := IntKind.u64.wrap (IntKind.u64.wrap (t * p) + p)

theorem next_any (x : Int) (w : World) :
    Calls Try.prog 20 #[.int .u64 x] w fun e w' => e = .returned (.int .u64 (nxt x)) ∧ w = w' := by
  go_enter Try.func20, Try.ntmps20
  go_wp2
  go_ret
  exact ⟨rfl, rfl⟩

theorem last_any (x : Int) (w : World) :
    Calls Try.prog 19 #[.int .u64 x] w fun e w' => e = .returned (.int .u64 (lst x)) ∧ w = w' := by
  go_enter Try.func19, Try.ntmps19
  go_wp2
  go_ret
  exact ⟨rfl, rfl⟩

theorem live_any (w : World) :
    Calls Try.prog 18 #[] w fun e w' => e = .returned (.bool true) ∧ w = w' := by
  have hl : (nxt 0 == 1442695040888963407) = true := by decide
  go_enter Try.func18, Try.ntmps18
  go_wp2_with (go_at_call 20; refine (next_any _ _).mono ?_; rintro e w' ⟨rfl, rfl⟩)
  go_ret
  exact ⟨rfl, rfl⟩

theorem twice_any (t p : Int) (w : World) :
    Calls Try.prog 48 #[.agg #[.int .u64 t, .int .u64 p]] w fun e w' => e = .returned (.agg #[.int .u64 (sqt t), .int .u64 (sqp t p)]) ∧ Below w.heap.size w w' := by
  go_enter Try.func48, Try.ntmps48
  go_wp2
  exact bodyPost_ret (v := .agg #[.int .u64 (sqt t), .int .u64 (sqp t p)]) (by simp [results, Try.results48, go_sem]; exact ⟨rfl, rfl⟩) rfl ⟨rfl, (((Below.refl _ _).alloc (Nat.le_refl _) _).alloc (by simp) _)⟩
end Go.Proofs.Ytekbgfpfafjobaa.Lots
