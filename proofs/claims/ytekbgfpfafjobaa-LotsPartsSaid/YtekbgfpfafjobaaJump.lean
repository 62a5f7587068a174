/- What Jump answers: as many next ones as are told, through a word of 64 bits; no condition. -/
import Derived.Test.YtekbgfpfafjobaaLotsPlain
import Derived.ScopeJumps
namespace Go.Proofs.Ytekbgfpfafjobaa.Lots
open Go.RowKit

/-- Where a jump stands at its label: the number, how many are left, and the step that is done at once. -/
def JumpAt (w : World) (r : Int) (a : Act) (w' : World) : Prop :=
  ∃ (x n t p : Int) (u2 u3 u6 u7 u8 u9 u10 u11 u12 u13 u14 u15 u16 u17 u18 u19 u20 u21 u22 u23 : Value),
    a = { tmps := #[.int .u64 x, .int .u64 n, u2, u3, .int .u64 0, .pointer (some ⟨w.heap.size, 0, none⟩), u6, u7, u8, u9, u10, u11, u12, u13, u14, u15, u16, u17, u18, u19, u20, u21, u22, u23], defers := [] }
    ∧ w'.heap[w.heap.size]? = some (.cells #[.int .u64 t, .int .u64 p] 64 (0, 0)) ∧ Below w.heap.size w w' ∧ w.heap.size < w'.heap.size ∧ 0 ≤ n ∧ n ≤ 18446744073709551615 ∧ ita n.toNat t p x = r

theorem cell2 {w : World} {b : Nat} {u v : Value} (h : w.heap[b]? = some (.cells #[u, v] 64 (0, 0))) : w.cell? ⟨b, 0, none⟩ = some u ∧ w.cell? ⟨b, 1, none⟩ = some v ∧ w.frozen? ⟨b, 0, none⟩ = false ∧ w.frozen? ⟨b, 1, none⟩ = false := by
  refine ⟨by simp [World.cell?, h], by simp [World.cell?, h], by simp [World.frozen?, h], by simp [World.frozen?, h]⟩
theorem set2 {w : World} {b : Nat} {u v : Value} (h : w.heap[b]? = some (.cells #[u, v] 64 (0, 0))) (u' v' : Value) : ((w.setCell ⟨b, 0, none⟩ u').setCell ⟨b, 1, none⟩ v').heap[b]? = some (.cells #[u', v'] 64 (0, 0)) := by
  simp [World.setCell, Array.getElem?_modify, h]
theorem size2 (w : World) (b : Nat) (u v : Value) : ((w.setCell ⟨b, 0, none⟩ u).setCell ⟨b, 1, none⟩ v).heap.size = w.heap.size := by simp [World.setCell]

/-- One round behind: the relation anew. -/
theorem jump_next {w w1 : World} {r x n t p : Int} (u2 u3 u6 u7 u8 u9 u10 u11 u12 u13 u14 u15 u16 u17 u18 u19 u20 u21 u22 u23 u v : Value)
    (hblk : w1.heap[w.heap.size]? = some (.cells #[u, v] 64 (0, 0))) (hb : Below w.heap.size w w1) (h0 : 0 ≤ n) (h1 : n ≤ 18446744073709551615) (hr : ita n.toNat t p x = r) :
    JumpAt w r { tmps := #[.int .u64 x, .int .u64 n, u2, u3, .int .u64 0, .pointer (some ⟨w.heap.size, 0, none⟩), u6, u7, u8, u9, u10, u11, u12, u13, u14, u15, u16, u17, u18, u19, u20, u21, u22, u23], defers := [] }
      ((w1.setCell ⟨w.heap.size, 0, none⟩ (.int .u64 t)).setCell ⟨w.heap.size, 1, none⟩ (.int .u64 p)) :=
  ⟨x, n, t, p, u2, u3, u6, u7, u8, u9, u10, u11, u12, u13, u14, u15, u16, u17, u18, u19, u20, u21, u22, u23, rfl, set2 hblk _ _, (hb.setCell (Nat.le_refl _) _).setCell (Nat.le_refl _) _, by rw [size2]; exact (Array.getElem?_eq_some_iff.1 hblk).1, h0, h1, hr⟩

theorem jump_less (n : Int) (h0 : 0 ≤ n) (hz : ¬ n = 0) : (intOf (Value.int .u64 (n / 2))).toNat < (intOf (Value.int .u64 n)).toNat := by
  simp only [intOf]
  omega

set_option maxHeartbeats 400000 in
theorem jump_any (x n : Int) (hn : 0 ≤ n) (hn1 : n ≤ 18446744073709551615) (w : World) :
    Calls Try.prog 21 #[.int .u64 x, .int .u64 n] w fun e w' => e = .returned (.int .u64 (ita n.toNat 6364136223846793005 1442695040888963407 x)) ∧ Below w.heap.size w w' := by
  go_enter Try.func21, Try.ntmps21
  go_wp2
  refine wp_scope_jumps 0 (JumpAt w (ita n.toNat 6364136223846793005 1442695040888963407 x)) (fun a' _ => (intOf (a'.tmps.getD 1 undef)).toNat) rfl ?_ ?_
  · by_cases hz : n = 0
    · subst hz
      go_wp2_with fail
      go_step3
      go_wp2_with fail
      simp only [Exit.jump]
      go_ret
      exact ⟨rfl, (Below.refl _ _).alloc (Nat.le_refl _) _⟩
    · have e0 : (n == 0) = false := beq_eq_false_iff_ne.2 hz
      have hb0 : Below w.heap.size w (w.alloc (.cells #[.int .u64 6364136223846793005, .int .u64 1442695040888963407] 64)) := (Below.refl _ _).alloc (Nat.le_refl _) _
      have hk0 := heap_alloc_new w (.cells #[.int .u64 6364136223846793005, .int .u64 1442695040888963407] 64)
      have Hk0 := Lib.hid hk0
      clear hk0
      by_cases ho : n % 2 = 1
      · have e1 : (bits BinOp.and IntKind.u64 n 1 == 1) = true := by rw [and_one_u64 n hn hn1]; exact beq_iff_eq.2 ho
        go_wp2_with fail
        go_step3
        go_wp2_with fail
        refine (twice_any _ _ _).mono ?_
        rintro e w1 ⟨rfl, hb⟩
        have hblk1 : w1.heap[w.heap.size]? = _ := (hb.block _ (by simp)).trans Hk0.out
        obtain ⟨gc0, gc1, gf0, gf1⟩ := cell2 hblk1
        have Hblk1 := Lib.hid hblk1
        clear hblk1
        go_wp2_with fail
        go_step3
        refine ⟨rfl, jump_next _ _ _ _ _ _ _ _ _ _ _ _ _ _ _ _ _ _ _ _ _ _ Hblk1.out (hb0.trans (hb.mono (by simp))) (by omega) (by omega) ?_⟩
        exact ita_odd n _ _ x ho hn
      · have e1 : (bits BinOp.and IntKind.u64 n 1 == 1) = false := by rw [and_one_u64 n hn hn1]; exact beq_eq_false_iff_ne.2 ho
        go_wp2_with fail
        go_step3
        go_wp2_with fail
        refine (twice_any _ _ _).mono ?_
        rintro e w1 ⟨rfl, hb⟩
        have hblk1 : w1.heap[w.heap.size]? = _ := (hb.block _ (by simp)).trans Hk0.out
        obtain ⟨gc0, gc1, gf0, gf1⟩ := cell2 hblk1
        have Hblk1 := Lib.hid hblk1
        clear hblk1
        go_wp2_with fail
        go_step3
        refine ⟨rfl, jump_next _ _ _ _ _ _ _ _ _ _ _ _ _ _ _ _ _ _ _ _ _ _ Hblk1.out (hb0.trans (hb.mono (by simp))) (by omega) (by omega) ?_⟩
        exact ita_even n _ _ x ho hn
  · rintro a' w' ⟨x, n, t, p, u2, u3, u6, u7, u8, u9, u10, u11, u12, u13, u14, u15, u16, u17, u18, u19, u20, u21, u22, u23, rfl, hblk, hbel, hlt, h0, h1, hr⟩
    obtain ⟨hc0, hc1, hf0, hf1⟩ := cell2 hblk
    have Hr := Lib.hid hr
    clear hr
    have Hblk := Lib.hid hblk
    clear hblk
    by_cases hz : n = 0
    · subst hz
      go_wp2_with fail
      simp only [Exit.jump]
      go_ret
      exact ⟨by rw [← Hr.out]; rfl, hbel⟩
    · have e0 : (n == 0) = false := beq_eq_false_iff_ne.2 hz
      by_cases ho : n % 2 = 1
      · have e1 : (bits BinOp.and IntKind.u64 n 1 == 1) = true := by rw [and_one_u64 n h0 h1]; exact beq_iff_eq.2 ho
        go_wp2_with fail
        refine (twice_any _ _ _).mono ?_
        rintro e w1 ⟨rfl, hb⟩
        have hblk1 : w1.heap[w.heap.size]? = _ := (hb.block _ hlt).trans Hblk.out
        obtain ⟨gc0, gc1, gf0, gf1⟩ := cell2 hblk1
        have Hblk1 := Lib.hid hblk1
        clear hblk1
        go_wp2_with fail
        go_step3
        refine ⟨rfl, jump_next _ _ _ _ _ _ _ _ _ _ _ _ _ _ _ _ _ _ _ _ _ _ Hblk1.out (hbel.trans (hb.mono (Nat.le_of_lt hlt))) (by omega) (by omega) ?_, jump_less n h0 hz⟩
        exact (ita_odd n t p x ho h0).trans Hr.out
      · have e1 : (bits BinOp.and IntKind.u64 n 1 == 1) = false := by rw [and_one_u64 n h0 h1]; exact beq_eq_false_iff_ne.2 ho
        go_wp2_with fail
        refine (twice_any _ _ _).mono ?_
        rintro e w1 ⟨rfl, hb⟩
        have hblk1 : w1.heap[w.heap.size]? = _ := (hb.block _ hlt).trans Hblk.out
        obtain ⟨gc0, gc1, gf0, gf1⟩ := cell2 hblk1
        have Hblk1 := Lib.hid hblk1
        clear hblk1
        go_wp2_with fail
        go_step3
        refine ⟨rfl, jump_next _ _ _ _ _ _ _ _ _ _ _ _ _ _ _ _ _ _ _ _ _ _ Hblk1.out (hbel.trans (hb.mono (Nat.le_of_lt hlt))) (by omega) (by omega) ?_, jump_less n h0 hz⟩
        exact (ita_even n t p x ho h0).trans Hr.out
theorem jump_calls (x n : Int) (w : World) (hn : 0 ≤ n) (hn1 : n ≤ 18446744073709551615) :
    Calls Try.prog 21 #[.int .u64 x, .int .u64 n] w fun e w' => e = .returned (.int .u64 (jmp x n)) ∧ Below w.heap.size w w' := jump_any x n hn hn1 w

theorem by_two {a b c : World} (h : Below a.heap.size a b) (k : Below b.heap.size b c) : Below a.heap.size a c := h.trans (k.mono h.size)
theorem by_three {a b c d : World} (h1 : Below a.heap.size a b) (h2 : Below b.heap.size b c) (h3 : Below c.heap.size c d) : Below a.heap.size a d := by_two (by_two h1 h2) h3
theorem by_six {a b c d e f g : World} (h1 : Below a.heap.size a b) (h2 : Below b.heap.size b c) (h3 : Below c.heap.size c d) (h4 : Below d.heap.size d e) (h5 : Below e.heap.size e f) (h6 : Below f.heap.size f g) : Below a.heap.size a g :=
  by_two (by_three h1 h2 h3) (by_three h4 h5 h6)


end Go.Proofs.Ytekbgfpfafjobaa.Lots
