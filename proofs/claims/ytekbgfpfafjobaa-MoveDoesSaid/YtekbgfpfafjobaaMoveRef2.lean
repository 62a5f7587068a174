/- What Back, Steps and Journals of move's reference answer; no condition. -/
import Derived.Test.YtekbgfpfafjobaaMoveRef
namespace Go.Proofs.Ytekbgfpfafjobaa.Move
open Go.RowKit
set_option linter.unusedVariables false

set_option maxHeartbeats 400000 in
theorem refBack_bad (c k s : Int) (w : World) (h : moveE c k s = 1) :
    Calls Try.prog 43 #[.agg #[.int .i64 c, .int .i64 k], .int .i64 s] w fun r w' => r = .returned (.tuple #[.agg #[.int .i64 0, .int .i64 0], .int .i64 1]) ∧ Below w.heap.size w w' := by
  go_enter Try.func43, Try.ntmps43
  go_wp2_with fail
  refine (refCheck_any _ _ _ _).mono ?_
  rw [h]
  rintro r w1 ⟨rfl, b1⟩
  clear h
  obtain ⟨m0, m1, be⟩ := two_blocks b1
  clear b1
  obtain ⟨c0, c1, f0, f1⟩ := two_cells m0
  obtain ⟨d0, d1, g0, g1⟩ := two_cells m1
  have M1 := Lib.hid m1
  clear m0 m1
  go_wp2_with fail
  have n1 := two_set1 (two_set0 M1.out (.int .i64 0)) (.int .i64 0)
  obtain ⟨x0, x1, _, _⟩ := two_cells n1
  exact bodyPost_ret (v := .tuple #[.agg #[.int .i64 0, .int .i64 0], .int .i64 1]) (by simp [results, Try.results43, go_sem, x0, x1]) rfl ⟨rfl, (be.setCell (by simp) _).setCell (by simp) _⟩
set_option maxHeartbeats 400000 in
theorem refBack_ok (c k s : Int) (w : World) (h : moveE c k s = 0) :
    Calls Try.prog 43 #[.agg #[.int .i64 c, .int .i64 k], .int .i64 s] w fun r w' => r = .returned (.tuple #[.agg #[.int .i64 k, .int .i64 k], .int .i64 0]) ∧ Below w.heap.size w w' := by
  go_enter Try.func43, Try.ntmps43
  go_wp2_with fail
  refine (refCheck_any _ _ _ _).mono ?_
  rw [h]
  rintro r w1 ⟨rfl, b1⟩
  clear h
  obtain ⟨m0, m1, be⟩ := two_blocks b1
  clear b1
  obtain ⟨c0, c1, f0, f1⟩ := two_cells m0
  obtain ⟨d0, d1, g0, g1⟩ := two_cells m1
  have M1 := Lib.hid m1
  clear m0 m1
  go_wp2_with fail
  have n1 := two_set1 (two_set0 (two_far (i := 0) M1.out (show w.heap.size + 1 ≠ w.heap.size by omega) (.int .i64 k)) (.int .i64 k)) (.int .i64 k)
  obtain ⟨x0, x1, _, _⟩ := two_cells n1
  exact bodyPost_ret (v := .tuple #[.agg #[.int .i64 k, .int .i64 k], .int .i64 0]) (by simp [results, Try.results43, go_sem, x0, x1]) rfl ⟨rfl, ((be.setCell (Nat.le_refl _) _).setCell (by simp) _).setCell (by simp) _⟩

/-- Where the reference's count stands: so many told, the rest (as f tells it) still to come. -/
def CountAt (w : World) (s T : Int) (f : Int → Int → Int) (o : Value) (wr : World) : Prop :=
  ∃ n C K : Int, o = .int .i64 n ∧ wr.heap[w.heap.size]? = some (.cells #[.int .i64 C, .int .i64 K] 53 (0, 0)) ∧ Below w.heap.size w wr ∧ Hid (MoveOk C K s) ∧ 0 ≤ n ∧ n ≤ C ∧ C ≤ s ∧ Hid (n + f C K = T)

set_option maxHeartbeats 1600000 in
theorem refSteps_ok (c k s b : Int) (w : World) (h : MoveOk c k s ∧ numOk b) :
    Calls Try.prog 44 #[.agg #[.int .i64 c, .int .i64 k], .int .i64 s, .int .i64 b] w fun r w' => r = .returned (.tuple #[.int .i64 (S s b c), .int .i64 0]) ∧ Below w.heap.size w w' := by
  have hm := Lib.hid (moveE_ok h.1)
  have HO := Lib.hid h.1
  obtain ⟨⟨h1, h2, h3, h4, h5⟩, ⟨h6, h7⟩⟩ := h
  obtain ⟨T, hT⟩ : ∃ T, S s b c = T := ⟨_, rfl⟩
  have HT := Lib.hid hT
  clear hT
  go_enter Try.func44, Try.ntmps44
  go_wp2_with fail
  refine (refCheck_any _ _ _ _).mono ?_
  rw [hm.out]
  rintro r w1 ⟨rfl, b1⟩
  obtain ⟨m0, be⟩ := one_blk b1
  clear b1
  obtain ⟨c0, c1, f0, f1⟩ := two_cells m0
  have M0 := Lib.hid m0
  clear m0
  go_wp2_with fail
  go_loopw [8] (fun o wr => CountAt w s T (fun C _ => S s b C) o wr) (fun o _ => (300 - intOf o).toNat)
  case atStart => exact ⟨0, c, k, rfl, M0.out, be, HO, by omega, by omega, h5, Lib.hid (by show 0 + S s b c = T; rw [HT.out]; omega)⟩
  case round =>
    obtain ⟨n, C, K, rfl, m0, be, HO, n0, n1, cs, HS⟩ := hrel
    clear M0 c0 c1 f0 f1
    obtain ⟨c0, c1, f0, f1⟩ := two_cells m0
    have M0 := Lib.hid m0
    clear m0
    have hS : n + S s b C = T := HS.out
    by_cases hlt : C < s
    · have hst := S_step hlt h6
      have hu := stC_up hlt h6
      have hle := step_leaves (b := b) (e := 1) ⟨HO.out, ⟨h6, h7⟩, ⟨by omega, by omega⟩⟩
      have HS2 : Hid (n + 1 + (fun C _ => S s b C) (stC C s b) (stK C K s b 1) = T) := by show n + 1 + S s b (stC C s b) = T; omega
      have HL := Lib.hid hle.1
      clear hS HS hst hle
      have HC := Lib.hid (refStep_ok C K s b 1 · ⟨HO.out, ⟨h6, h7⟩, ⟨by omega, by omega⟩⟩)
      generalize stC C s b = C' at *
      generalize stK C K s b 1 = K' at *
      generalize stJ C K s b 1 = j at *
      generalize stE C s b = E at *
      generalize stN C s b = N at *
      go_wp2_with fail
      refine (HC.out _).mono ?_
      rintro r w4 ⟨rfl, b4⟩
      have m4 := on_blk M0.out b4
      have p4 := be.trans (b4.mono be.size)
      obtain ⟨c4, d4, f4, g4⟩ := two_cells m4
      have M4 := Lib.hid (two_set1 (two_set0 m4 (.int .i64 C')) (.int .i64 K'))
      clear m4 M0 b4 be HC c0 c1 f0 f1
      go_wp2_with fail
      go_roundw
      case rel => exact ⟨n + 1, C', K', rfl, M4.out, (p4.setCell (Nat.le_refl _) _).setCell (Nat.le_refl _) _, HL, by omega, by omega, hu.2, HS2⟩
      case measure => simp [intOf]; omega
    · have hn : n = T := by rw [S_done h6 hlt cs] at hS; omega
      have HN := Lib.hid hn
      clear hn hS HS
      go_wp2_with fail
      go_ret2
      exact ⟨by rw [HN.out, ← HT.out]; rfl, be⟩

/-- The number in a block's first cell: for a measure. -/
def intAt (w : World) (b : Nat) : Int := intOf ((w.cell? ⟨b, 0, none⟩).getD undef)
theorem intAt_of {w : World} {b : Nat} {k : IntKind} {x : Int} {v : Value} {t : TypeId} (h : w.heap[b]? = some (.cells #[.int k x, v] t (0, 0))) : intAt w b = x := by
  unfold intAt
  rw [(two_cells h).1]
  rfl

set_option maxHeartbeats 1600000 in
theorem refJour_ok (c k s b e : Int) (w : World) (h : StepOk c k s b e) :
    Calls Try.prog 45 #[.agg #[.int .i64 c, .int .i64 k], .int .i64 s, .int .i64 b, .int .i64 e] w fun r w' => r = .returned (.tuple #[.int .i64 (J s b e c k), .int .i64 0]) ∧ Below w.heap.size w w' := by
  have hm := Lib.hid (moveE_ok h.1)
  have HO := Lib.hid h.1
  obtain ⟨⟨h1, h2, h3, h4, h5⟩, ⟨h6, h7⟩, ⟨h8, h9⟩⟩ := h
  obtain ⟨T, hT⟩ : ∃ T, J s b e c k = T := ⟨_, rfl⟩
  have HT := Lib.hid hT
  clear hT
  go_enter Try.func45, Try.ntmps45
  go_wp2_with fail
  refine (refCheck_any _ _ _ _).mono ?_
  rw [hm.out]
  rintro r w1 ⟨rfl, b1⟩
  obtain ⟨m0, be⟩ := one_blk b1
  clear b1
  obtain ⟨c0, c1, f0, f1⟩ := two_cells m0
  have M0 := Lib.hid m0
  clear m0
  go_wp2_with fail
  go_loopw [10] (fun o wr => CountAt w s T (fun C K => J s b e C K) o wr) (fun _ wr => (s - intAt wr w.heap.size).toNat)
  case atStart => exact ⟨0, c, k, rfl, M0.out, be, HO, by omega, by omega, h5, Lib.hid (by show 0 + J s b e c k = T; rw [HT.out]; omega)⟩
  case round =>
    obtain ⟨n, C, K, rfl, m0, be, HO, n0, n1, cs, HS⟩ := hrel
    clear M0 c0 c1 f0 f1
    obtain ⟨c0, c1, f0, f1⟩ := two_cells m0
    have I0 := Lib.hid (intAt_of m0)
    have M0 := Lib.hid m0
    clear m0
    have hS : n + J s b e C K = T := HS.out
    by_cases hlt : C < s
    · have hst := J_step e K hlt h6
      have hu := stC_up hlt h6
      have hle := step_leaves (b := b) (e := e) ⟨HO.out, ⟨h6, h7⟩, ⟨h8, h9⟩⟩
      have HL := Lib.hid hle.1
      have HC := Lib.hid (refStep_ok C K s b e · ⟨HO.out, ⟨h6, h7⟩, ⟨h8, h9⟩⟩)
      clear HS hle
      generalize stC C s b = C' at *
      generalize stK C K s b e = K' at *
      generalize stJ C K s b e = j at *
      generalize stE C s b = E at *
      generalize stN C s b = N at *
      cases j with
      | true =>
        rw [if_pos rfl] at hst
        have HS2 : Hid (n + 1 + (fun C K => J s b e C K) C' K' = T) := by show n + 1 + J s b e C' K' = T; omega
        clear hS hst
        go_wp2_with fail
        refine (HC.out _).mono ?_
        rintro r w4 ⟨rfl, b4⟩
        have m4 := on_blk M0.out b4
        have l4 : w.heap.size < w4.heap.size := (Array.getElem?_eq_some_iff.1 m4).1
        have p4 := be.trans (b4.mono be.size)
        have m5 := two_set1 (two_set0 m4 (.int .i64 C')) (.int .i64 K')
        have p5 := (p4.setCell (p := ⟨w.heap.size, 0, none⟩) (Nat.le_refl _) (.int .i64 C')).setCell (p := ⟨w.heap.size, 1, none⟩) (Nat.le_refl _) (.int .i64 K')
        have m6 := (Below.heap_alloc _ (.cells #[.int .i64 C', .int .i64 K'] 53) _ (Array.getElem?_eq_some_iff.1 m5).1).trans m5
        have p6 := p5.alloc p5.size (.cells #[.int .i64 C', .int .i64 K'] 53)
        obtain ⟨c4, d4, f4, g4⟩ := two_cells m4
        have I6 := Lib.hid (intAt_of m6)
        have M6 := Lib.hid m6
        have P6 := Lib.hid p6
        clear m4 m5 m6 p4 p5 p6 M0 b4 be HC c0 c1 f0 f1
        go_wp2_with fail
        go_roundw
        case rel => exact ⟨n + 1, C', K', rfl, M6.out, P6.out, HL, by omega, by omega, hu.2, HS2⟩
        case measure => rw [I6.out, I0.out]; omega
      | false =>
        rw [if_neg (by decide)] at hst
        have HS2 : Hid (n + (fun C K => J s b e C K) C' K' = T) := by show n + J s b e C' K' = T; omega
        clear hS hst
        go_wp2_with fail
        refine (HC.out _).mono ?_
        rintro r w4 ⟨rfl, b4⟩
        have m4 := on_blk M0.out b4
        have l4 : w.heap.size < w4.heap.size := (Array.getElem?_eq_some_iff.1 m4).1
        have p4 := be.trans (b4.mono be.size)
        have m5 := two_set1 (two_set0 m4 (.int .i64 C')) (.int .i64 K')
        have p5 := (p4.setCell (p := ⟨w.heap.size, 0, none⟩) (Nat.le_refl _) (.int .i64 C')).setCell (p := ⟨w.heap.size, 1, none⟩) (Nat.le_refl _) (.int .i64 K')
        have m6 := (Below.heap_alloc _ (.cells #[.int .i64 C', .int .i64 K'] 53) _ (Array.getElem?_eq_some_iff.1 m5).1).trans m5
        have p6 := p5.alloc p5.size (.cells #[.int .i64 C', .int .i64 K'] 53)
        obtain ⟨c4, d4, f4, g4⟩ := two_cells m4
        have I6 := Lib.hid (intAt_of m6)
        have M6 := Lib.hid m6
        have P6 := Lib.hid p6
        clear m4 m5 m6 p4 p5 p6 M0 b4 be HC c0 c1 f0 f1
        go_wp2_with fail
        go_roundw
        case rel => exact ⟨n, C', K', rfl, M6.out, P6.out, HL, by omega, by omega, hu.2, HS2⟩
        case measure => rw [I6.out, I0.out]; omega
    · have hn : n = T := by rw [J_done hlt] at hS; omega
      have HN := Lib.hid hn
      clear hn hS HS
      go_wp2_with fail
      go_ret2
      exact ⟨by rw [HN.out, ← HT.out]; rfl, be⟩
end Go.Proofs.Ytekbgfpfafjobaa.Move
