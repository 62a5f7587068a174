/- What Journals of package move answers, and the chapter's example; no condition. -/
import Derived.Test.YtekbgfpfafjobaaMovePlain
namespace Go.Proofs.Ytekbgfpfafjobaa.Move
open Go.RowKit

set_option maxHeartbeats 400000 in
theorem jour_bad (c k s b e : Int) (w : World) (h : ¬ StepOk c k s b e) :
    Calls Try.prog 39 #[.agg #[.int .i64 c, .int .i64 k], .int .i64 s, .int .i64 b, .int .i64 e] w fun r w' => r = .returned (.tuple #[.int .i64 0, .int .i64 1]) ∧ Below w.heap.size w w' := by
  have hm := may_two_bad h
  have Hm := Lib.hid hm
  clear hm h
  go_enter Try.func39, Try.ntmps39
  go_wp2_with fail
  refine (may_two _ _ _ _ b e _ (by simp) (by simp [go_sem]) (by simp [go_sem])).mono ?_
  rw [Hm.out]
  rintro r w1 ⟨rfl, b1⟩
  go_wp2_with fail
  go_ret2
  exact ⟨rfl, (((Below.refl _ _).alloc (Nat.le_refl _) _).alloc (by simp) _).trans (b1.mono (by simp <;> omega))⟩

theorem jour_block {w w1 : World} {c k b e : Int} (hb : Below ((w.alloc (.cells #[.int .i64 c, .int .i64 k] 53)).alloc (.cells #[.int .i64 b, .int .i64 e] 3)).heap.size ((w.alloc (.cells #[.int .i64 c, .int .i64 k] 53)).alloc (.cells #[.int .i64 b, .int .i64 e] 3)) w1) :
    w1.heap[w.heap.size]? = some (.cells #[.int .i64 c, .int .i64 k] 53 (0, 0)) ∧ Below w.heap.size w w1 := by
  have m0 := heap_alloc_new w (.cells #[.int .i64 c, .int .i64 k] 53)
  refine ⟨?_, (((Below.refl _ _).alloc (Nat.le_refl _) _).alloc (by simp <;> omega) _).trans (hb.mono (by simp <;> omega))⟩
  rw [hb.block _ (by simp <;> omega), Below.heap_alloc _ _ _ (by simp <;> omega)]; exact m0

/-- Where a walk of the journalled steps stands: so many told, the rest still to come. -/
def JourAt (w : World) (s b e total : Int) (o : Value) (wr : World) : Prop :=
  ∃ n c k : Int, o = .int .i64 n ∧ wr.heap[w.heap.size]? = some (.cells #[.int .i64 c, .int .i64 k] 53 (0, 0)) ∧ Below w.heap.size w wr ∧ 0 ≤ n ∧ n ≤ c ∧ 0 ≤ k ∧ k ≤ c ∧ c ≤ s ∧ n + J s b e c k = total

set_option maxHeartbeats 1600000 in
theorem jour_ok (c k s b e : Int) (w : World) (h : StepOk c k s b e) :
    Calls Try.prog 39 #[.agg #[.int .i64 c, .int .i64 k], .int .i64 s, .int .i64 b, .int .i64 e] w fun r w' => r = .returned (.tuple #[.int .i64 (J s b e c k), .int .i64 0]) ∧ Below w.heap.size w w' := by
  have hm := may_two_ok h
  have Hm := Lib.hid hm
  clear hm
  obtain ⟨⟨h1, h2, h3, h4, h5⟩, ⟨h6, h7⟩, ⟨h8, h9⟩⟩ := h
  go_enter Try.func39, Try.ntmps39
  go_wp2_with fail
  refine (may_two _ _ _ _ b e _ (by simp) (by simp [go_sem]) (by simp [go_sem])).mono ?_
  rw [Hm.out]
  rintro r w1 ⟨rfl, b1⟩
  obtain ⟨m0, be⟩ := jour_block b1
  clear b1
  have Hm0 := Lib.hid m0
  clear m0
  generalize hT : J s b e c k = T
  have HT := Lib.hid hT
  clear hT
  go_wp2_with fail
  go_loopw [11, 12] (fun o _ wr => JourAt w s b e T o wr) (fun o _ _ => (300 - intOf o).toNat)
  case atStart => exact ⟨0, c, k, rfl, Hm0.out, be, by omega, by omega, h3, h4, h5, by rw [HT.out]; omega⟩
  case round =>
    obtain ⟨n, c, k, rfl, m0, be, n0, n1, k0, k1, c1, ht⟩ := hrel
    have Ht := Lib.hid ht
    clear ht Hm0 Hm
    obtain ⟨q0, q1, f0, f1⟩ := two_cells m0
    have M0 := Lib.hid m0
    clear m0
    by_cases hlt : c < s
    · have hJ := J_next h6 h8 (s - c).toNat c k rfl k1 hlt
      have hin := next_in (e := e) (k := k) hlt h6
      have hmost := ahead_most h6 h7 h8 h9 k1
      have hpos := ahead_mul (e := e) (c := c) (k := k) h6
      by_cases hu : upT (k + e - c) b < 1
      · have ha : ahead b e c k = 1 := if_pos hu
        rw [ha, Int.one_mul] at hmost hpos
        by_cases ho : s < c + b
        · have hn : next s b e c k = s := by unfold next; rw [ha, Int.one_mul]; exact if_pos ho
          rw [hn] at hJ hin
          have HJ := Lib.hid hJ
          clear hJ hn ha
          go_wp2_with fail
          refine (up_any _ _ _ (by omega) (by omega) (by omega) (by omega)).mono ?_
          rintro r w2 ⟨rfl, rfl⟩
          go_wp2_with fail
          go_roundw
          case rel => exact ⟨n + 1, s, s, rfl, two_set1 (two_set0 M0.out _) _, (be.setCell (Nat.le_refl _) _).setCell (Nat.le_refl _) _, by omega, by omega, by omega, by omega, by omega, by have := HJ.out; have := Ht.out; omega⟩
          case measure => simp [intOf]; omega
        · have hn : next s b e c k = c + b := by unfold next; rw [ha, Int.one_mul]; exact if_neg ho
          rw [hn] at hJ hin
          have HJ := Lib.hid hJ
          clear hJ hn ha
          go_wp2_with fail
          refine (up_any _ _ _ (by omega) (by omega) (by omega) (by omega)).mono ?_
          rintro r w2 ⟨rfl, rfl⟩
          go_wp2_with fail
          go_roundw
          case rel => exact ⟨n + 1, c + b, c + b, rfl, two_set1 (two_set0 M0.out _) _, (be.setCell (Nat.le_refl _) _).setCell (Nat.le_refl _) _, by omega, by omega, by omega, by omega, by omega, by have := HJ.out; have := Ht.out; omega⟩
          case measure => simp [intOf]; omega
      · have ha : ahead b e c k = upT (k + e - c) b := if_neg hu
        rw [ha] at hmost hpos
        by_cases ho : s < c + upT (k + e - c) b * b
        · have hn : next s b e c k = s := by unfold next; rw [ha]; exact if_pos ho
          rw [hn] at hJ hin
          have HJ := Lib.hid hJ
          clear hJ hn ha
          go_wp2_with fail
          refine (up_any _ _ _ (by omega) (by omega) (by omega) (by omega)).mono ?_
          rintro r w2 ⟨rfl, rfl⟩
          go_wp2_with fail
          go_roundw
          case rel => exact ⟨n + 1, s, s, rfl, two_set1 (two_set0 M0.out _) _, (be.setCell (Nat.le_refl _) _).setCell (Nat.le_refl _) _, by omega, by omega, by omega, by omega, by omega, by have := HJ.out; have := Ht.out; omega⟩
          case measure => simp [intOf]; omega
        · have hn : next s b e c k = c + upT (k + e - c) b * b := by unfold next; rw [ha]; exact if_neg ho
          rw [hn] at hJ hin
          have HJ := Lib.hid hJ
          clear hJ hn ha
          go_wp2_with fail
          refine (up_any _ _ _ (by omega) (by omega) (by omega) (by omega)).mono ?_
          rintro r w2 ⟨rfl, rfl⟩
          go_wp2_with fail
          go_roundw
          case rel => exact ⟨n + 1, c + upT (k + e - c) b * b, c + upT (k + e - c) b * b, rfl, two_set1 (two_set0 M0.out _) _, (be.setCell (Nat.le_refl _) _).setCell (Nat.le_refl _) _, by omega, by omega, by omega, by omega, by omega, by have := HJ.out; have := Ht.out; omega⟩
          case measure => simp [intOf]; omega
    · have hJ : n = T := by have := Ht.out; rw [J_done hlt] at this; omega
      have HJ := Lib.hid hJ
      clear hJ
      go_wp2_with fail
      go_ret2
      exact ⟨by rw [HJ.out, ← HT.out]; rfl, be⟩
end Go.Proofs.Ytekbgfpfafjobaa.Move
