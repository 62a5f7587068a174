/- What the reference of package move answers; no condition. -/
import Derived.Test.YtekbgfpfafjobaaMovePlain2
namespace Go.Proofs.Ytekbgfpfafjobaa.Move
open Go.RowKit
set_option linter.unusedVariables false

theorem on_blk {w w1 : World} {g : Nat} {o : Obj} (h : w.heap[g]? = some o) (hb : Below w.heap.size w w1) : w1.heap[g]? = some o := (hb.block g (Array.getElem?_eq_some_iff.1 h).1).trans h
theorem two_blocks {w w1 : World} {c k : Int} (hb : Below ((w.alloc (.cells #[.int .i64 c, .int .i64 k] 53)).alloc (.cells #[.int .i64 0, .int .i64 0] 53)).heap.size ((w.alloc (.cells #[.int .i64 c, .int .i64 k] 53)).alloc (.cells #[.int .i64 0, .int .i64 0] 53)) w1) :
    w1.heap[w.heap.size]? = some (.cells #[.int .i64 c, .int .i64 k] 53 (0, 0)) ∧ w1.heap[w.heap.size + 1]? = some (.cells #[.int .i64 0, .int .i64 0] 53 (0, 0)) ∧ Below w.heap.size w w1 := by
  have m0 := heap_alloc_new w (.cells #[.int .i64 c, .int .i64 k] 53)
  have m1 := heap_alloc_new (w.alloc (.cells #[.int .i64 c, .int .i64 k] 53)) (.cells #[.int .i64 0, .int .i64 0] 53)
  simp only [World.size_alloc] at m1
  refine ⟨?_, ?_, (((Below.refl _ _).alloc (Nat.le_refl _) _).alloc (by simp <;> omega) _).trans (hb.mono (by simp <;> omega))⟩
  · rw [hb.block _ (by simp <;> omega), Below.heap_alloc _ _ _ (by simp <;> omega)]; exact m0
  · rw [hb.block _ (by simp <;> omega)]; exact m1
theorem one_blk {w w1 : World} {c k : Int} (hb : Below (w.alloc (.cells #[.int .i64 c, .int .i64 k] 53)).heap.size (w.alloc (.cells #[.int .i64 c, .int .i64 k] 53)) w1) :
    w1.heap[w.heap.size]? = some (.cells #[.int .i64 c, .int .i64 k] 53 (0, 0)) ∧ Below w.heap.size w w1 :=
  ⟨by rw [hb.block _ (by simp)]; exact heap_alloc_new w _, ((Below.refl _ _).alloc (Nat.le_refl _) _).trans (hb.mono (by simp))⟩

set_option maxHeartbeats 1600000 in
theorem refStep_bad (c k s b e : Int) (w : World) (h : ¬ StepOk c k s b e) :
    Calls Try.prog 41 #[.agg #[.int .i64 c, .int .i64 k], .int .i64 s, .int .i64 b, .int .i64 e] w fun r w' => r = .returned (.tuple #[.agg #[.int .i64 0, .int .i64 0], .int .i64 0, .bool false, .bool false, .int .i64 1]) ∧ Below w.heap.size w w' := by
  have H := Lib.hid h
  clear h
  rcases moveE_01 c k s with hm | hm
  · have Hm := Lib.hid hm
    clear hm
    by_cases h0 : b < 1
    · skip
      go_enter Try.func41, Try.ntmps41
      go_wp2_with fail
      refine (refCheck_any _ _ _ _).mono ?_
      rw [Hm.out]
      rintro r w1 ⟨rfl, b1⟩
      obtain ⟨m0, m1, be⟩ := two_blocks b1
      clear b1
      obtain ⟨c0, c1, f0, f1⟩ := two_cells m0
      obtain ⟨d0, d1, g0, g1⟩ := two_cells m1
      have M1 := Lib.hid m1
      clear m0 m1
      go_wp2_with fail
      have n1 := two_set1 (two_set0 M1.out (.int .i64 0)) (.int .i64 0)
      obtain ⟨x0, x1, _, _⟩ := two_cells n1
      exact bodyPost_ret (v := .tuple #[.agg #[.int .i64 0, .int .i64 0], .int .i64 0, .bool false, .bool false, .int .i64 1]) (by simp [results, Try.results41, go_sem, x0, x1]) rfl ⟨rfl, (be.setCell (by simp) _).setCell (by simp) _⟩
    by_cases h1 : b > 1024
    · skip
      go_enter Try.func41, Try.ntmps41
      go_wp2_with fail
      refine (refCheck_any _ _ _ _).mono ?_
      rw [Hm.out]
      rintro r w1 ⟨rfl, b1⟩
      obtain ⟨m0, m1, be⟩ := two_blocks b1
      clear b1
      obtain ⟨c0, c1, f0, f1⟩ := two_cells m0
      obtain ⟨d0, d1, g0, g1⟩ := two_cells m1
      have M1 := Lib.hid m1
      clear m0 m1
      go_wp2_with fail
      have n1 := two_set1 (two_set0 M1.out (.int .i64 0)) (.int .i64 0)
      obtain ⟨x0, x1, _, _⟩ := two_cells n1
      exact bodyPost_ret (v := .tuple #[.agg #[.int .i64 0, .int .i64 0], .int .i64 0, .bool false, .bool false, .int .i64 1]) (by simp [results, Try.results41, go_sem, x0, x1]) rfl ⟨rfl, (be.setCell (by simp) _).setCell (by simp) _⟩
    by_cases h2 : e < 1
    · skip
      go_enter Try.func41, Try.ntmps41
      go_wp2_with fail
      refine (refCheck_any _ _ _ _).mono ?_
      rw [Hm.out]
      rintro r w1 ⟨rfl, b1⟩
      obtain ⟨m0, m1, be⟩ := two_blocks b1
      clear b1
      obtain ⟨c0, c1, f0, f1⟩ := two_cells m0
      obtain ⟨d0, d1, g0, g1⟩ := two_cells m1
      have M1 := Lib.hid m1
      clear m0 m1
      go_wp2_with fail
      have n1 := two_set1 (two_set0 M1.out (.int .i64 0)) (.int .i64 0)
      obtain ⟨x0, x1, _, _⟩ := two_cells n1
      exact bodyPost_ret (v := .tuple #[.agg #[.int .i64 0, .int .i64 0], .int .i64 0, .bool false, .bool false, .int .i64 1]) (by simp [results, Try.results41, go_sem, x0, x1]) rfl ⟨rfl, (be.setCell (by simp) _).setCell (by simp) _⟩
    by_cases h3 : e > 1024
    · skip
      go_enter Try.func41, Try.ntmps41
      go_wp2_with fail
      refine (refCheck_any _ _ _ _).mono ?_
      rw [Hm.out]
      rintro r w1 ⟨rfl, b1⟩
      obtain ⟨m0, m1, be⟩ := two_blocks b1
      clear b1
      obtain ⟨c0, c1, f0, f1⟩ := two_cells m0
      obtain ⟨d0, d1, g0, g1⟩ := two_cells m1
      have M1 := Lib.hid m1
      clear m0 m1
      go_wp2_with fail
      have n1 := two_set1 (two_set0 M1.out (.int .i64 0)) (.int .i64 0)
      obtain ⟨x0, x1, _, _⟩ := two_cells n1
      exact bodyPost_ret (v := .tuple #[.agg #[.int .i64 0, .int .i64 0], .int .i64 0, .bool false, .bool false, .int .i64 1]) (by simp [results, Try.results41, go_sem, x0, x1]) rfl ⟨rfl, (be.setCell (by simp) _).setCell (by simp) _⟩
    exact absurd ⟨moveOk_of Hm.out, ⟨by omega, by omega⟩, ⟨by omega, by omega⟩⟩ H.out
  · have Hm := Lib.hid hm
    clear hm
    go_enter Try.func41, Try.ntmps41
    go_wp2_with fail
    refine (refCheck_any _ _ _ _).mono ?_
    rw [Hm.out]
    rintro r w1 ⟨rfl, b1⟩
    obtain ⟨m0, m1, be⟩ := two_blocks b1
    clear b1
    obtain ⟨c0, c1, f0, f1⟩ := two_cells m0
    obtain ⟨d0, d1, g0, g1⟩ := two_cells m1
    have M1 := Lib.hid m1
    clear m0 m1
    go_wp2_with fail
    have n1 := two_set1 (two_set0 M1.out (.int .i64 0)) (.int .i64 0)
    obtain ⟨x0, x1, _, _⟩ := two_cells n1
    exact bodyPost_ret (v := .tuple #[.agg #[.int .i64 0, .int .i64 0], .int .i64 0, .bool false, .bool false, .int .i64 1]) (by simp [results, Try.results41, go_sem, x0, x1]) rfl ⟨rfl, (be.setCell (by simp) _).setCell (by simp) _⟩

set_option maxHeartbeats 1600000 in
theorem refSteps_bad (c k s b : Int) (w : World) (h : ¬ (MoveOk c k s ∧ numOk b)) :
    Calls Try.prog 44 #[.agg #[.int .i64 c, .int .i64 k], .int .i64 s, .int .i64 b] w fun r w' => r = .returned (.tuple #[.int .i64 0, .int .i64 1]) ∧ Below w.heap.size w w' := by
  have H := Lib.hid h
  clear h
  rcases moveE_01 c k s with hm | hm
  · have Hm := Lib.hid hm
    clear hm
    by_cases h0 : b < 1
    · skip
      go_enter Try.func44, Try.ntmps44
      go_wp2_with fail
      refine (refCheck_any _ _ _ _).mono ?_
      rw [Hm.out]
      rintro r w1 ⟨rfl, b1⟩
      obtain ⟨m0, be⟩ := one_blk b1
      clear b1
      obtain ⟨c0, c1, f0, f1⟩ := two_cells m0
      clear m0
      go_wp2_with fail
      go_ret2
      exact ⟨rfl, be⟩
    by_cases h1 : b > 1024
    · skip
      go_enter Try.func44, Try.ntmps44
      go_wp2_with fail
      refine (refCheck_any _ _ _ _).mono ?_
      rw [Hm.out]
      rintro r w1 ⟨rfl, b1⟩
      obtain ⟨m0, be⟩ := one_blk b1
      clear b1
      obtain ⟨c0, c1, f0, f1⟩ := two_cells m0
      clear m0
      go_wp2_with fail
      go_ret2
      exact ⟨rfl, be⟩
    exact absurd ⟨moveOk_of Hm.out, ⟨by omega, by omega⟩⟩ H.out
  · have Hm := Lib.hid hm
    clear hm
    go_enter Try.func44, Try.ntmps44
    go_wp2_with fail
    refine (refCheck_any _ _ _ _).mono ?_
    rw [Hm.out]
    rintro r w1 ⟨rfl, b1⟩
    obtain ⟨m0, be⟩ := one_blk b1
    clear b1
    obtain ⟨c0, c1, f0, f1⟩ := two_cells m0
    clear m0
    go_wp2_with fail
    go_ret2
    exact ⟨rfl, be⟩

set_option maxHeartbeats 1600000 in
theorem refJour_bad (c k s b e : Int) (w : World) (h : ¬ StepOk c k s b e) :
    Calls Try.prog 45 #[.agg #[.int .i64 c, .int .i64 k], .int .i64 s, .int .i64 b, .int .i64 e] w fun r w' => r = .returned (.tuple #[.int .i64 0, .int .i64 1]) ∧ Below w.heap.size w w' := by
  have H := Lib.hid h
  clear h
  rcases moveE_01 c k s with hm | hm
  · have Hm := Lib.hid hm
    clear hm
    by_cases h0 : b < 1
    · skip
      go_enter Try.func45, Try.ntmps45
      go_wp2_with fail
      refine (refCheck_any _ _ _ _).mono ?_
      rw [Hm.out]
      rintro r w1 ⟨rfl, b1⟩
      obtain ⟨m0, be⟩ := one_blk b1
      clear b1
      obtain ⟨c0, c1, f0, f1⟩ := two_cells m0
      clear m0
      go_wp2_with fail
      go_ret2
      exact ⟨rfl, be⟩
    by_cases h1 : b > 1024
    · skip
      go_enter Try.func45, Try.ntmps45
      go_wp2_with fail
      refine (refCheck_any _ _ _ _).mono ?_
      rw [Hm.out]
      rintro r w1 ⟨rfl, b1⟩
      obtain ⟨m0, be⟩ := one_blk b1
      clear b1
      obtain ⟨c0, c1, f0, f1⟩ := two_cells m0
      clear m0
      go_wp2_with fail
      go_ret2
      exact ⟨rfl, be⟩
    by_cases h2 : e < 1
    · skip
      go_enter Try.func45, Try.ntmps45
      go_wp2_with fail
      refine (refCheck_any _ _ _ _).mono ?_
      rw [Hm.out]
      rintro r w1 ⟨rfl, b1⟩
      obtain ⟨m0, be⟩ := one_blk b1
      clear b1
      obtain ⟨c0, c1, f0, f1⟩ := two_cells m0
      clear m0
      go_wp2_with fail
      go_ret2
      exact ⟨rfl, be⟩
    by_cases h3 : e > 1024
    · skip
      go_enter Try.func45, Try.ntmps45
      go_wp2_with fail
      refine (refCheck_any _ _ _ _).mono ?_
      rw [Hm.out]
      rintro r w1 ⟨rfl, b1⟩
      obtain ⟨m0, be⟩ := one_blk b1
      clear b1
      obtain ⟨c0, c1, f0, f1⟩ := two_cells m0
      clear m0
      go_wp2_with fail
      go_ret2
      exact ⟨rfl, be⟩
    exact absurd ⟨moveOk_of Hm.out, ⟨by omega, by omega⟩, ⟨by omega, by omega⟩⟩ H.out
  · have Hm := Lib.hid hm
    clear hm
    go_enter Try.func45, Try.ntmps45
    go_wp2_with fail
    refine (refCheck_any _ _ _ _).mono ?_
    rw [Hm.out]
    rintro r w1 ⟨rfl, b1⟩
    obtain ⟨m0, be⟩ := one_blk b1
    clear b1
    obtain ⟨c0, c1, f0, f1⟩ := two_cells m0
    clear m0
    go_wp2_with fail
    go_ret2
    exact ⟨rfl, be⟩

/-- Where the reference's loop of a step stands: so many slots gone by. -/
def StepAt (w : World) (c k N : Int) (o : Value) (wr : World) : Prop :=
  ∃ n : Int, o = .int .i64 n ∧ 0 ≤ n ∧ n ≤ N ∧ wr.heap[w.heap.size]? = some (.cells #[.int .i64 (c + n), .int .i64 k] 53 (0, 0)) ∧ wr.heap[w.heap.size + 1]? = some (.cells #[.int .i64 0, .int .i64 0] 53 (0, 0)) ∧ Below w.heap.size w wr

set_option maxHeartbeats 3200000 in
theorem refStep_end (c k s b e N : Int) (w : World) (h : StepOk c k s b e) (hN : N = stN c s b) (hE : (c + N == s) = true) :
    Calls Try.prog 41 #[.agg #[.int .i64 c, .int .i64 k], .int .i64 s, .int .i64 b, .int .i64 e] w fun r w' => r = .returned (.tuple #[.agg #[.int .i64 (c + N), .int .i64 (c + N)], .int .i64 N, .bool true, .bool true, .int .i64 0]) ∧ Below w.heap.size w w' := by
  have hm := Lib.hid (moveE_ok h.1)
  obtain ⟨⟨h1, h2, h3, h4, h5⟩, ⟨h6, h7⟩, ⟨h8, h9⟩⟩ := h
  have hNb : 0 ≤ N ∧ N ≤ b ∧ c + N ≤ s := by rw [hN]; unfold stN; split <;> omega
  have HNe : Hid (N = b ∨ c + N = s) := by show _ ∨ _; rw [hN]; unfold stN; split <;> omega
  clear hN
  go_enter Try.func41, Try.ntmps41
  go_wp2_with fail
  refine (refCheck_any _ _ _ _).mono ?_
  rw [hm.out]
  rintro r w1 ⟨rfl, b1⟩
  obtain ⟨m0, m1, be⟩ := two_blocks b1
  clear b1
  have M0 := Lib.hid m0
  have M1 := Lib.hid m1
  clear m0 m1
  go_wp2_with fail
  go_loopw [13] (fun o wr => StepAt w c k N o wr) (fun o _ => (N - intOf o).toNat)
  case atStart => exact ⟨0, rfl, by omega, by omega, by rw [Int.add_zero]; exact M0.out, M1.out, be⟩
  case round =>
    obtain ⟨n, rfl, n0, n1, m0, m1, be⟩ := hrel
    clear M0 M1
    obtain ⟨c0, c1, f0, f1⟩ := two_cells m0
    obtain ⟨d0, d1, g0, g1⟩ := two_cells m1
    have M0 := Lib.hid m0
    have M1 := Lib.hid m1
    clear m0 m1
    by_cases hlt : n < N
    · have hbb : n < b := by omega
      have hss : c + n < s := by omega
      have HS := Lib.hid (two_set0 M0.out (.int .i64 (c + n + 1)))
      have HT := Lib.hid (two_far (i := 0) M1.out (show w.heap.size + 1 ≠ w.heap.size by omega) (.int .i64 (c + n + 1)))
      go_wp2_with fail
      go_roundw
      case rel => exact ⟨n + 1, rfl, by omega, by omega, by rw [show c + (n + 1) = c + n + 1 from by omega]; exact HS.out, HT.out, be.setCell (Nat.le_refl _) _⟩
      case measure => simp [intOf]; omega
    · obtain rfl : n = N := by omega
      by_cases hnb : n < b
      · have hce : c + n = s := by
          rcases HNe.out with h | h
          · omega
          · exact h
        have hns : ¬ c + n < s := by omega
        clear hce HNe
        go_wp2_with fail
        have n1' := two_set1 (two_set0 (two_far (i := 1) M1.out (show w.heap.size + 1 ≠ w.heap.size by omega) (.int .i64 (c + n))) (.int .i64 (c + n))) (.int .i64 (c + n))
        obtain ⟨x0, x1, _, _⟩ := two_cells n1'
        exact bodyPost_ret (v := .tuple #[.agg #[.int .i64 (c + n), .int .i64 (c + n)], .int .i64 n, .bool true, .bool true, .int .i64 0]) (by simp [results, Try.results41, go_sem, x0, x1]) rfl ⟨rfl, ((be.setCell (Nat.le_refl _) _).setCell (by simp) _).setCell (by simp) _⟩
      · clear HNe
        go_wp2_with fail
        have n1' := two_set1 (two_set0 (two_far (i := 1) M1.out (show w.heap.size + 1 ≠ w.heap.size by omega) (.int .i64 (c + n))) (.int .i64 (c + n))) (.int .i64 (c + n))
        obtain ⟨x0, x1, _, _⟩ := two_cells n1'
        exact bodyPost_ret (v := .tuple #[.agg #[.int .i64 (c + n), .int .i64 (c + n)], .int .i64 n, .bool true, .bool true, .int .i64 0]) (by simp [results, Try.results41, go_sem, x0, x1]) rfl ⟨rfl, ((be.setCell (Nat.le_refl _) _).setCell (by simp) _).setCell (by simp) _⟩

set_option maxHeartbeats 3200000 in
theorem refStep_kept (c k s b e N : Int) (w : World) (h : StepOk c k s b e) (hN : N = stN c s b) (hE : (c + N == s) = false) (hk : e ≤ c + N - k) :
    Calls Try.prog 41 #[.agg #[.int .i64 c, .int .i64 k], .int .i64 s, .int .i64 b, .int .i64 e] w fun r w' => r = .returned (.tuple #[.agg #[.int .i64 (c + N), .int .i64 (c + N)], .int .i64 N, .bool true, .bool false, .int .i64 0]) ∧ Below w.heap.size w w' := by
  have hm := Lib.hid (moveE_ok h.1)
  obtain ⟨⟨h1, h2, h3, h4, h5⟩, ⟨h6, h7⟩, ⟨h8, h9⟩⟩ := h
  have hNb : 0 ≤ N ∧ N ≤ b ∧ c + N ≤ s := by rw [hN]; unfold stN; split <;> omega
  have HNe : Hid (N = b ∨ c + N = s) := by show _ ∨ _; rw [hN]; unfold stN; split <;> omega
  clear hN
  go_enter Try.func41, Try.ntmps41
  go_wp2_with fail
  refine (refCheck_any _ _ _ _).mono ?_
  rw [hm.out]
  rintro r w1 ⟨rfl, b1⟩
  obtain ⟨m0, m1, be⟩ := two_blocks b1
  clear b1
  have M0 := Lib.hid m0
  have M1 := Lib.hid m1
  clear m0 m1
  go_wp2_with fail
  go_loopw [13] (fun o wr => StepAt w c k N o wr) (fun o _ => (N - intOf o).toNat)
  case atStart => exact ⟨0, rfl, by omega, by omega, by rw [Int.add_zero]; exact M0.out, M1.out, be⟩
  case round =>
    obtain ⟨n, rfl, n0, n1, m0, m1, be⟩ := hrel
    clear M0 M1
    obtain ⟨c0, c1, f0, f1⟩ := two_cells m0
    obtain ⟨d0, d1, g0, g1⟩ := two_cells m1
    have M0 := Lib.hid m0
    have M1 := Lib.hid m1
    clear m0 m1
    by_cases hlt : n < N
    · have hbb : n < b := by omega
      have hss : c + n < s := by omega
      have HS := Lib.hid (two_set0 M0.out (.int .i64 (c + n + 1)))
      have HT := Lib.hid (two_far (i := 0) M1.out (show w.heap.size + 1 ≠ w.heap.size by omega) (.int .i64 (c + n + 1)))
      go_wp2_with fail
      go_roundw
      case rel => exact ⟨n + 1, rfl, by omega, by omega, by rw [show c + (n + 1) = c + n + 1 from by omega]; exact HS.out, HT.out, be.setCell (Nat.le_refl _) _⟩
      case measure => simp [intOf]; omega
    · obtain rfl : n = N := by omega
      by_cases hnb : n < b
      · have hce : c + n = s := by
          rcases HNe.out with h | h
          · omega
          · exact h
        exact absurd hce (fun h => by rw [h] at hE; simp at hE)
      · clear HNe
        go_wp2_with fail
        have n1' := two_set1 (two_set0 (two_far (i := 1) M1.out (show w.heap.size + 1 ≠ w.heap.size by omega) (.int .i64 (c + n))) (.int .i64 (c + n))) (.int .i64 (c + n))
        obtain ⟨x0, x1, _, _⟩ := two_cells n1'
        exact bodyPost_ret (v := .tuple #[.agg #[.int .i64 (c + n), .int .i64 (c + n)], .int .i64 n, .bool true, .bool false, .int .i64 0]) (by simp [results, Try.results41, go_sem, x0, x1]) rfl ⟨rfl, ((be.setCell (Nat.le_refl _) _).setCell (by simp) _).setCell (by simp) _⟩

set_option maxHeartbeats 3200000 in
theorem refStep_on (c k s b e N : Int) (w : World) (h : StepOk c k s b e) (hN : N = stN c s b) (hE : (c + N == s) = false) (hk : ¬ e ≤ c + N - k) :
    Calls Try.prog 41 #[.agg #[.int .i64 c, .int .i64 k], .int .i64 s, .int .i64 b, .int .i64 e] w fun r w' => r = .returned (.tuple #[.agg #[.int .i64 (c + N), .int .i64 (k)], .int .i64 N, .bool false, .bool false, .int .i64 0]) ∧ Below w.heap.size w w' := by
  have hm := Lib.hid (moveE_ok h.1)
  obtain ⟨⟨h1, h2, h3, h4, h5⟩, ⟨h6, h7⟩, ⟨h8, h9⟩⟩ := h
  have hNb : 0 ≤ N ∧ N ≤ b ∧ c + N ≤ s := by rw [hN]; unfold stN; split <;> omega
  have HNe : Hid (N = b ∨ c + N = s) := by show _ ∨ _; rw [hN]; unfold stN; split <;> omega
  clear hN
  go_enter Try.func41, Try.ntmps41
  go_wp2_with fail
  refine (refCheck_any _ _ _ _).mono ?_
  rw [hm.out]
  rintro r w1 ⟨rfl, b1⟩
  obtain ⟨m0, m1, be⟩ := two_blocks b1
  clear b1
  have M0 := Lib.hid m0
  have M1 := Lib.hid m1
  clear m0 m1
  go_wp2_with fail
  go_loopw [13] (fun o wr => StepAt w c k N o wr) (fun o _ => (N - intOf o).toNat)
  case atStart => exact ⟨0, rfl, by omega, by omega, by rw [Int.add_zero]; exact M0.out, M1.out, be⟩
  case round =>
    obtain ⟨n, rfl, n0, n1, m0, m1, be⟩ := hrel
    clear M0 M1
    obtain ⟨c0, c1, f0, f1⟩ := two_cells m0
    obtain ⟨d0, d1, g0, g1⟩ := two_cells m1
    have M0 := Lib.hid m0
    have M1 := Lib.hid m1
    clear m0 m1
    by_cases hlt : n < N
    · have hbb : n < b := by omega
      have hss : c + n < s := by omega
      have HS := Lib.hid (two_set0 M0.out (.int .i64 (c + n + 1)))
      have HT := Lib.hid (two_far (i := 0) M1.out (show w.heap.size + 1 ≠ w.heap.size by omega) (.int .i64 (c + n + 1)))
      go_wp2_with fail
      go_roundw
      case rel => exact ⟨n + 1, rfl, by omega, by omega, by rw [show c + (n + 1) = c + n + 1 from by omega]; exact HS.out, HT.out, be.setCell (Nat.le_refl _) _⟩
      case measure => simp [intOf]; omega
    · obtain rfl : n = N := by omega
      by_cases hnb : n < b
      · have hce : c + n = s := by
          rcases HNe.out with h | h
          · omega
          · exact h
        exact absurd hce (fun h => by rw [h] at hE; simp at hE)
      · clear HNe
        go_wp2_with fail
        have n1' := two_set1 (two_set0 M1.out (.int .i64 (c + n))) (.int .i64 k)
        obtain ⟨x0, x1, _, _⟩ := two_cells n1'
        exact bodyPost_ret (v := .tuple #[.agg #[.int .i64 (c + n), .int .i64 k], .int .i64 n, .bool false, .bool false, .int .i64 0]) (by simp [results, Try.results41, go_sem, x0, x1] <;> omega) rfl ⟨rfl, (be.setCell (by simp) _).setCell (by simp) _⟩

theorem refStep_ok (c k s b e : Int) (w : World) (h : StepOk c k s b e) :
    Calls Try.prog 41 #[.agg #[.int .i64 c, .int .i64 k], .int .i64 s, .int .i64 b, .int .i64 e] w fun r w' => r = .returned (.tuple #[.agg #[.int .i64 (stC c s b), .int .i64 (stK c k s b e)], .int .i64 (stN c s b), .bool (stJ c k s b e), .bool (stE c s b), .int .i64 0]) ∧ Below w.heap.size w w' := by
  have h2 : stC c s b = c + stN c s b := rfl
  cases hE : (c + stN c s b == s) with
  | true =>
    have h3 : stE c s b = true := hE
    have h4 : stJ c k s b e = true := by unfold stJ; rw [h3]; rfl
    have h5 : stK c k s b e = c + stN c s b := by unfold stK; rw [if_pos h4, h2]
    rw [h3, h4, h5, h2]
    exact refStep_end c k s b e _ w h rfl hE
  | false =>
    have h3 : stE c s b = false := hE
    by_cases hk : e ≤ c + stN c s b - k
    · have h4 : stJ c k s b e = true := by unfold stJ; rw [h3, h2, decide_eq_true hk]; rfl
      have h5 : stK c k s b e = c + stN c s b := by unfold stK; rw [if_pos h4, h2]
      rw [h3, h4, h5, h2]
      exact refStep_kept c k s b e _ w h rfl hE hk
    · have h4 : stJ c k s b e = false := by unfold stJ; rw [h3, h2, decide_eq_false hk]; rfl
      have h5 : stK c k s b e = k := by unfold stK; rw [h4]; exact if_neg (by decide)
      rw [h3, h4, h5, h2]
      exact refStep_on c k s b e _ w h rfl hE hk
end Go.Proofs.Ytekbgfpfafjobaa.Move
