/- The reference's SameCounts answers true where both lists hold the same numbers; no condition on how long they are but the model's own. -/
import Derived.Test.YtekbgfpfafjobaaDraws
import Derived.Deep.QuietTactic
import Derived.BigQuiet
namespace Go.Proofs.Ytekbgfpfafjobaa.Lots
open Go.RowKit
set_option linter.unusedVariables false

theorem same_nil (A B : Option Addr) (c d : Nat) (w : World) :
    Calls Try.prog 27 #[.slice A 0 c, .slice B 0 d] w fun e w' => e = .returned (.bool true) ∧ Below w.heap.size w w' := by
  go_enter Try.func27, Try.ntmps27
  go_wp2_with fail
  refine wp_loop_rounds 1 ?_
  rw [rounds_succ]
  go_wp2_with fail
  go_ret
  exact ⟨rfl, Below.refl _ _⟩

/-- Where the loop stands: so many compared, orders drawn. -/
def SameAt (w : World) (n : Nat) (i : Value) (wr : World) : Prop := ∃ k m : Nat, k ≤ n ∧ i = .int .i64 k ∧ wr = w.drewN m

set_option maxHeartbeats 800000 in
theorem same_some (g h n c d : Nat) (xs : List Int) (w : World) (hn : n ≤ 100000) (hg : ∀ i, i < n → w.cell? ⟨g, i, none⟩ = some (.int .i64 (xs.getD i 0))) (hh : ∀ i, i < n → w.cell? ⟨h, i, none⟩ = some (.int .i64 (xs.getD i 0))) :
    Calls Try.prog 27 #[.slice (some ⟨g, 0, none⟩) n c, .slice (some ⟨h, 0, none⟩) n d] w fun e w' => e = .returned (.bool true) ∧ Below w.heap.size w w' := by
  have HG := Lib.hid hg
  have HH := Lib.hid hh
  clear hg hh
  have hnn : ((n : Int) != (n : Int)) = false := bne_self_eq_false _
  go_enter Try.func27, Try.ntmps27
  go_wp2_with fail
  go_loopw [13] (fun i wr => SameAt w n i wr) (fun i _ => n - (intOf i).toNat)
  case atStart => exact ⟨0, 0, Nat.zero_le _, rfl, rfl⟩
  case round =>
    obtain ⟨k, m, hk, rfl, rfl⟩ := hrel
    by_cases hlt : k < n
    · have h1 := HG.out k hlt
      have h2 := HH.out k hlt
      generalize xs.getD k 0 = x at h1 h2
      have hxx : (x != x) = false := bne_self_eq_false _
      have hkn : (k : Int) < (n : Int) := by omega
      have hk0 : (0 : Int) ≤ (k : Int) := by omega
      go_wp2_with fail
      go_quiet (fail)
      go_wp2_with fail
      go_roundw
      case rel => exact ⟨k + 1, _, by omega, by go_num, rfl⟩
      case measure => simp [intOf]; omega
    · obtain rfl : k = n := by omega
      go_wp2_with fail
      go_ret
      exact ⟨rfl, ⟨rfl, rfl, rfl, Nat.le_refl _, fun _ _ => rfl⟩⟩

/-- A row of the call's own, as it is read: nil, or its block and its numbers. -/
theorem row_reads {w : World} {base : Nat} {v : Value} {n : Nat} {xs : List Int} (h : w.ownsRow base 3 1 v n (xs.map (Value.int .i64))) (hn : xs.length = n) :
    (n = 0 ∧ ∃ A c, v = .slice A n c) ∨ ∃ g c, v = .slice (some ⟨g, 0, none⟩) n c ∧ base ≤ g ∧ g < w.heap.size ∧ ∀ i, i < n → w.cell? ⟨g, i, none⟩ = some (.int .i64 (xs.getD i 0)) := by
  have h0 := h
  rcases h.2 with ⟨rfl, rfl⟩ | ⟨g, cap, cur, rfl, hb, hg, _⟩
  · exact .inl ⟨rfl, _, _, rfl⟩
  · refine .inr ⟨g, cap, rfl, hb, (Array.getElem?_eq_some_iff.1 hg).1, fun i hi => ?_⟩
    rw [h0.cellAt i (by omega), List.getElem?_map, List.getElem?_eq_getElem (by omega), List.getD_eq_getElem?_getD, List.getElem?_eq_getElem (by omega)]
    rfl
theorem same_rows {w : World} {base base' : Nat} {v v' : Value} {n : Nat} {xs : List Int} (h : w.ownsRow base 3 1 v n (xs.map (Value.int .i64))) (h' : w.ownsRow base' 3 1 v' n (xs.map (Value.int .i64))) (hx : xs.length = n) (hn : n ≤ 100000) :
    Calls Try.prog 27 #[v, v'] w fun e w' => e = .returned (.bool true) ∧ Below w.heap.size w w' := by
  rcases row_reads h hx with ⟨rfl, A, c, rfl⟩ | ⟨g, c, rfl, _, _, hg⟩
  · rcases row_reads h' hx with ⟨_, B, d, rfl⟩ | ⟨g', d, rfl, _, _, hg'⟩
    · exact same_nil _ _ _ _ w
    · exact same_nil _ _ _ _ w
  · rcases row_reads h' hx with ⟨rfl, B, d, rfl⟩ | ⟨g', d, rfl, _, _, hg'⟩
    · exact same_nil _ _ _ _ w
    · exact same_some g g' n c d xs w hn hg hg'
end Go.Proofs.Ytekbgfpfafjobaa.Lots
