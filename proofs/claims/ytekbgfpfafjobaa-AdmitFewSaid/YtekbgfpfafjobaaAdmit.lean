/- What the functions of package admit answer, and those of its reference; no condition. -/
import Derived.Test.YtekbgfpfafjobaaRows
import Derived.WalkKit
import Derived.WalkSpells
import Derived.WalkLawsBesides
import Derived.Lib.Hide
import Derived.Defers
namespace Go.Proofs.Ytekbgfpfafjobaa.Admit
open Go.RowKit

/-- Why a gate may not be (0: it may). -/
def gateE (s a : Int) : Int := if a < 1 then 1 else if a > 1048576 then 1 else if s < 0 then 1 else if s > a then 1 else 0

theorem bcell {W w1 : World} (hb : Below W.heap.size W w1) : (∀ b o, b < W.heap.size → w1.cell? ⟨b, o, none⟩ = W.cell? ⟨b, o, none⟩) ∧ (∀ b o, b < W.heap.size → w1.frozen? ⟨b, o, none⟩ = W.frozen? ⟨b, o, none⟩) :=
  ⟨fun b o h => hb.cell (p := ⟨b, o, none⟩) h, fun b o h => hb.frozen (p := ⟨b, o, none⟩) h⟩

set_option maxHeartbeats 400000 in
theorem check_any (s a : Int) (w : World) :
    Calls Try.prog 31 #[.agg #[.int .i64 s], .int .i64 a] w fun e w' => e = .returned (.int .i64 (gateE s a)) ∧ Below w.heap.size w w' := by
  unfold gateE
  by_cases h1 : a < 1
  · rw [if_pos h1]
    go_enter Try.func31, Try.ntmps31
    go_wp2
    go_ret
    exact ⟨rfl, (Below.refl _ _).alloc (Nat.le_refl _) _⟩
  by_cases h2 : a > 1048576
  · rw [if_neg h1, if_pos h2]
    go_enter Try.func31, Try.ntmps31
    go_wp2
    go_ret
    exact ⟨rfl, (Below.refl _ _).alloc (Nat.le_refl _) _⟩
  by_cases h3 : s < 0
  · rw [if_neg h1, if_neg h2, if_pos h3]
    go_enter Try.func31, Try.ntmps31
    go_wp2
    go_ret
    exact ⟨rfl, (Below.refl _ _).alloc (Nat.le_refl _) _⟩
  by_cases h4 : s > a
  · rw [if_neg h1, if_neg h2, if_neg h3, if_pos h4]
    go_enter Try.func31, Try.ntmps31
    go_wp2
    go_ret
    exact ⟨rfl, (Below.refl _ _).alloc (Nat.le_refl _) _⟩
  · rw [if_neg h1, if_neg h2, if_neg h3, if_neg h4]
    go_enter Try.func31, Try.ntmps31
    go_wp2
    go_ret
    exact ⟨rfl, (Below.refl _ _).alloc (Nat.le_refl _) _⟩

set_option maxHeartbeats 400000 in
theorem refCheck_any (s a : Int) (w : World) :
    Calls Try.prog 36 #[.agg #[.int .i64 s], .int .i64 a] w fun e w' => e = .returned (.int .i64 (gateE s a)) ∧ Below w.heap.size w w' := by
  unfold gateE
  by_cases h1 : a < 1
  · rw [if_pos h1]
    go_enter Try.func36, Try.ntmps36
    go_wp2
    go_ret
    exact ⟨rfl, (Below.refl _ _).alloc (Nat.le_refl _) _⟩
  by_cases h2 : a > 1048576
  · rw [if_neg h1, if_pos h2]
    go_enter Try.func36, Try.ntmps36
    go_wp2
    go_ret
    exact ⟨rfl, (Below.refl _ _).alloc (Nat.le_refl _) _⟩
  by_cases h3 : s < 0
  · rw [if_neg h1, if_neg h2, if_pos h3]
    go_enter Try.func36, Try.ntmps36
    go_wp2
    go_ret
    exact ⟨rfl, (Below.refl _ _).alloc (Nat.le_refl _) _⟩
  by_cases h4 : s > a
  · rw [if_neg h1, if_neg h2, if_neg h3, if_pos h4]
    go_enter Try.func36, Try.ntmps36
    go_wp2
    go_ret
    exact ⟨rfl, (Below.refl _ _).alloc (Nat.le_refl _) _⟩
  · rw [if_neg h1, if_neg h2, if_neg h3, if_neg h4]
    go_enter Try.func36, Try.ntmps36
    go_wp2
    go_ret
    exact ⟨rfl, (Below.refl _ _).alloc (Nat.le_refl _) _⟩

set_option maxHeartbeats 400000 in
theorem kept_any (s a : Int) (w : World) :
    Calls Try.prog 30 #[.agg #[.int .i64 s], .int .i64 a] w fun e w' => e = .returned (.tuple #[.agg #[.int .i64 0], .int .i64 (gateE s a)]) ∧ Below w.heap.size w w' := by
  go_enter Try.func30, Try.ntmps30
  go_wp2_with fail
  refine (check_any _ _ _).mono ?_
  rintro e w1 ⟨rfl, hb⟩
  obtain ⟨hc, hf⟩ := bcell hb
  go_wp2_with fail
  go_outline
  go_ways
  exact bodyPost_ret (v := .tuple #[.agg #[.int .i64 0], .int .i64 (gateE s a)]) (by simp [results, Try.results30, go_sem, hc]) rfl ⟨rfl, ((((Below.refl _ _).alloc (Nat.le_refl _) _).alloc (by simp) _).trans (hb.mono (by simp; omega))).setCell (by simp) _⟩
end Go.Proofs.Ytekbgfpfafjobaa.Admit
