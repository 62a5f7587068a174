/- The walk of AdmitAll: it answers true at every gate, every two allowances, moving or not. -/
import Derived.Test.YtekbgfpfafjobaaAdmitRef
namespace Go.Proofs.Ytekbgfpfafjobaa.Admit
open Go.RowKit
set_option linter.unusedVariables false

theorem askB_ok {s a : Int} (h : gateE s a = 0) (m : Bool) : askB s m a = if m = false then true else decide (s < a) := by
  unfold askB; rw [if_neg (by omega)]
theorem askS_ok {s a : Int} (h : gateE s a = 0) (m : Bool) : askS s m a = if m = false then 0 else if s < a then s + 1 else s := by
  unfold askS; rw [if_neg (by omega)]

set_option maxHeartbeats 400000 in
theorem all_bad (s a r : Int) (m : Bool) (w : World) (h : gateE s a = 1) :
    Calls Try.prog 8 #[.int .i64 s, .int .i64 a, .int .i64 r, .bool m] w fun e w' => e = .returned (.bool true) ∧ Below w.heap.size w w' := by
  have hb : askB s m a = false := if_pos h
  have hs : askS s m a = 0 := if_pos h
  go_enter Try.func8, Try.ntmps8
  go_wp2_with fail
  refine (live_any _).mono ?_
  rintro e w1 ⟨rfl, b1⟩
  go_wp2_with fail
  refine (ask_any _ _ _ _).mono ?_
  rw [hb, hs, h]
  rintro e w2 ⟨rfl, b2⟩
  clear hb hs h
  go_wp2_with fail
  go_ret
  have p1 := b1.alloc b1.size (.cells #[.int .i64 s] 39)
  have p2 := p1.trans (b2.mono p1.size)
  exact ⟨rfl, p2.alloc p2.size _⟩

set_option maxHeartbeats 800000 in
theorem all_free_less (s a r : Int) (m : Bool) (w : World) (h : gateE s a = 0) (hm : m = false) (hr : r < a) :
    Calls Try.prog 8 #[.int .i64 s, .int .i64 a, .int .i64 r, .bool m] w fun e w' => e = .returned (.bool true) ∧ Below w.heap.size w w' := by
  have hb : askB s m a = true := by rw [askB_ok h, if_pos hm]
  have hs : askS s m a = 0 := by rw [askS_ok h, if_pos hm]
  have kb : askB s false a = true := by rw [askB_ok h, if_pos rfl]
  have ks : askS s false a = 0 := by rw [askS_ok h, if_pos rfl]
  obtain ⟨g1, g2, g3, g4⟩ := gateE_ok h
  obtain rfl : m = false := by cases m <;> simp_all
  go_enter Try.func8, Try.ntmps8
  go_wp2_with fail
  refine (live_any _).mono ?_
  rintro e w1 ⟨rfl, b1⟩
  have k1 := Cel.new w1 s
  have p1 := b1.alloc b1.size (.cells #[.int .i64 s] 39)
  go_wp2_with fail
  refine (ask_any _ _ _ _).mono ?_
  rw [hb, hs, h]
  rintro e w2 ⟨rfl, b2⟩
  have k2 := (k1.below b2).alloc (.cells #[.int .i64 0] 39)
  have q2 := Cel.new w2 0
  have p2 := (p1.trans (b2.mono p1.size)).alloc (Nat.le_trans p1.size b2.size) (.cells #[.int .i64 0] 39)
  obtain ⟨c1, l1⟩ := k1.below b2
  have K2 := Lib.hid k2
  have Q2 := Lib.hid q2
  clear k1 k2 q2 b1 b2 p1 hb hs
  go_wp2_with fail
  refine (ask_any _ _ _ _).mono ?_
  rw [kb, ks, h]
  rintro e w3 ⟨rfl, b3⟩
  obtain ⟨c2, l2⟩ := K2.out.below b3
  obtain ⟨c3, l3⟩ := Q2.out.below b3
  have k3 := (K2.out.below b3).alloc (.cells #[.int .i64 0] 39)
  have p3 := (p2.trans (b3.mono p2.size)).alloc (Nat.le_trans p2.size b3.size) (.cells #[.int .i64 0] 39)
  have K3 := Lib.hid k3
  clear k3 b3 p2 kb ks K2 Q2 c1 l1 h
  go_wp2_with fail
  go_ret
  exact ⟨rfl, p3⟩

set_option maxHeartbeats 800000 in
theorem all_free_much (s a r : Int) (m : Bool) (w : World) (h : gateE s a = 0) (hm : m = false) (hr : ¬ r < a) (hr2 : r > 1048576) :
    Calls Try.prog 8 #[.int .i64 s, .int .i64 a, .int .i64 r, .bool m] w fun e w' => e = .returned (.bool true) ∧ Below w.heap.size w w' := by
  have hb : askB s m a = true := by rw [askB_ok h, if_pos hm]
  have hs : askS s m a = 0 := by rw [askS_ok h, if_pos hm]
  have kb : askB s false a = true := by rw [askB_ok h, if_pos rfl]
  have ks : askS s false a = 0 := by rw [askS_ok h, if_pos rfl]
  obtain ⟨g1, g2, g3, g4⟩ := gateE_ok h
  obtain rfl : m = false := by cases m <;> simp_all
  go_enter Try.func8, Try.ntmps8
  go_wp2_with fail
  refine (live_any _).mono ?_
  rintro e w1 ⟨rfl, b1⟩
  have k1 := Cel.new w1 s
  have p1 := b1.alloc b1.size (.cells #[.int .i64 s] 39)
  go_wp2_with fail
  refine (ask_any _ _ _ _).mono ?_
  rw [hb, hs, h]
  rintro e w2 ⟨rfl, b2⟩
  have k2 := (k1.below b2).alloc (.cells #[.int .i64 0] 39)
  have q2 := Cel.new w2 0
  have p2 := (p1.trans (b2.mono p1.size)).alloc (Nat.le_trans p1.size b2.size) (.cells #[.int .i64 0] 39)
  obtain ⟨c1, l1⟩ := k1.below b2
  have K2 := Lib.hid k2
  have Q2 := Lib.hid q2
  clear k1 k2 q2 b1 b2 p1 hb hs
  go_wp2_with fail
  refine (ask_any _ _ _ _).mono ?_
  rw [kb, ks, h]
  rintro e w3 ⟨rfl, b3⟩
  obtain ⟨c2, l2⟩ := K2.out.below b3
  obtain ⟨c3, l3⟩ := Q2.out.below b3
  have k3 := (K2.out.below b3).alloc (.cells #[.int .i64 0] 39)
  have p3 := (p2.trans (b3.mono p2.size)).alloc (Nat.le_trans p2.size b3.size) (.cells #[.int .i64 0] 39)
  have K3 := Lib.hid k3
  clear k3 b3 p2 kb ks K2 Q2 c1 l1 h
  go_wp2_with fail
  go_ret
  exact ⟨rfl, p3⟩

set_option maxHeartbeats 800000 in
theorem all_free_also (s a r : Int) (m : Bool) (w : World) (h : gateE s a = 0) (hm : m = false) (hr : ¬ r < a) (hr2 : ¬ r > 1048576) :
    Calls Try.prog 8 #[.int .i64 s, .int .i64 a, .int .i64 r, .bool m] w fun e w' => e = .returned (.bool true) ∧ Below w.heap.size w w' := by
  have hb : askB s m a = true := by rw [askB_ok h, if_pos hm]
  have hs : askS s m a = 0 := by rw [askS_ok h, if_pos hm]
  have kb : askB s false a = true := by rw [askB_ok h, if_pos rfl]
  have ks : askS s false a = 0 := by rw [askS_ok h, if_pos rfl]
  obtain ⟨g1, g2, g3, g4⟩ := gateE_ok h
  obtain rfl : m = false := by cases m <;> simp_all
  have hg : gateE s r = 0 := gateE_of (by omega) (by omega) (by omega) (by omega)
  have jb : askB s false r = true := by rw [askB_ok hg, if_pos rfl]
  go_enter Try.func8, Try.ntmps8
  go_wp2_with fail
  refine (live_any _).mono ?_
  rintro e w1 ⟨rfl, b1⟩
  have k1 := Cel.new w1 s
  have p1 := b1.alloc b1.size (.cells #[.int .i64 s] 39)
  go_wp2_with fail
  refine (ask_any _ _ _ _).mono ?_
  rw [hb, hs, h]
  rintro e w2 ⟨rfl, b2⟩
  have k2 := (k1.below b2).alloc (.cells #[.int .i64 0] 39)
  have q2 := Cel.new w2 0
  have p2 := (p1.trans (b2.mono p1.size)).alloc (Nat.le_trans p1.size b2.size) (.cells #[.int .i64 0] 39)
  obtain ⟨c1, l1⟩ := k1.below b2
  have K2 := Lib.hid k2
  have Q2 := Lib.hid q2
  clear k1 k2 q2 b1 b2 p1 hb hs
  go_wp2_with fail
  refine (ask_any _ _ _ _).mono ?_
  rw [kb, ks, h]
  rintro e w3 ⟨rfl, b3⟩
  obtain ⟨c2, l2⟩ := K2.out.below b3
  obtain ⟨c3, l3⟩ := Q2.out.below b3
  have k3 := (K2.out.below b3).alloc (.cells #[.int .i64 0] 39)
  have p3 := (p2.trans (b3.mono p2.size)).alloc (Nat.le_trans p2.size b3.size) (.cells #[.int .i64 0] 39)
  have K3 := Lib.hid k3
  clear k3 b3 p2 kb ks K2 Q2 c1 l1 h
  go_wp2_with fail
  refine (ask_any _ _ _ _).mono ?_
  rw [jb, hg]
  rintro e w4 ⟨rfl, b4⟩
  have p4 := p3.trans (b4.mono p3.size)
  clear hg jb
  go_wp2_with fail
  go_ret
  exact ⟨rfl, p4.alloc p4.size _⟩

set_option maxHeartbeats 800000 in
theorem all_in_less (s a r : Int) (m : Bool) (w : World) (h : gateE s a = 0) (hm : ¬ m = false) (hlt : s < a) (hr : r < a) :
    Calls Try.prog 8 #[.int .i64 s, .int .i64 a, .int .i64 r, .bool m] w fun e w' => e = .returned (.bool true) ∧ Below w.heap.size w w' := by
  have hb : askB s m a = true := by rw [askB_ok h, if_neg hm, decide_eq_true hlt]
  have hs : askS s m a = (s + 1) := by rw [askS_ok h, if_neg hm, if_pos hlt]
  have kb : askB s false a = true := by rw [askB_ok h, if_pos rfl]
  have ks : askS s false a = 0 := by rw [askS_ok h, if_pos rfl]
  obtain ⟨g1, g2, g3, g4⟩ := gateE_ok h
  obtain rfl : m = true := by cases m <;> simp_all
  go_enter Try.func8, Try.ntmps8
  go_wp2_with fail
  refine (live_any _).mono ?_
  rintro e w1 ⟨rfl, b1⟩
  have k1 := Cel.new w1 s
  have p1 := b1.alloc b1.size (.cells #[.int .i64 s] 39)
  go_wp2_with fail
  refine (ask_any _ _ _ _).mono ?_
  rw [hb, hs, h]
  rintro e w2 ⟨rfl, b2⟩
  have k2 := (k1.below b2).alloc (.cells #[.int .i64 (s + 1)] 39)
  have q2 := Cel.new w2 (s + 1)
  have p2 := (p1.trans (b2.mono p1.size)).alloc (Nat.le_trans p1.size b2.size) (.cells #[.int .i64 (s + 1)] 39)
  obtain ⟨c1, l1⟩ := k1.below b2
  have K2 := Lib.hid k2
  have Q2 := Lib.hid q2
  clear k1 k2 q2 b1 b2 p1 hb hs
  go_wp2_with fail
  refine (ask_any _ _ _ _).mono ?_
  rw [kb, ks, h]
  rintro e w3 ⟨rfl, b3⟩
  obtain ⟨c2, l2⟩ := K2.out.below b3
  obtain ⟨c3, l3⟩ := Q2.out.below b3
  have k3 := (K2.out.below b3).alloc (.cells #[.int .i64 0] 39)
  have p3 := (p2.trans (b3.mono p2.size)).alloc (Nat.le_trans p2.size b3.size) (.cells #[.int .i64 0] 39)
  have K3 := Lib.hid k3
  clear k3 b3 p2 kb ks K2 Q2 c1 l1 h
  go_wp2_with fail
  go_ret
  exact ⟨rfl, p3⟩

set_option maxHeartbeats 800000 in
theorem all_in_much (s a r : Int) (m : Bool) (w : World) (h : gateE s a = 0) (hm : ¬ m = false) (hlt : s < a) (hr : ¬ r < a) (hr2 : r > 1048576) :
    Calls Try.prog 8 #[.int .i64 s, .int .i64 a, .int .i64 r, .bool m] w fun e w' => e = .returned (.bool true) ∧ Below w.heap.size w w' := by
  have hb : askB s m a = true := by rw [askB_ok h, if_neg hm, decide_eq_true hlt]
  have hs : askS s m a = (s + 1) := by rw [askS_ok h, if_neg hm, if_pos hlt]
  have kb : askB s false a = true := by rw [askB_ok h, if_pos rfl]
  have ks : askS s false a = 0 := by rw [askS_ok h, if_pos rfl]
  obtain ⟨g1, g2, g3, g4⟩ := gateE_ok h
  obtain rfl : m = true := by cases m <;> simp_all
  go_enter Try.func8, Try.ntmps8
  go_wp2_with fail
  refine (live_any _).mono ?_
  rintro e w1 ⟨rfl, b1⟩
  have k1 := Cel.new w1 s
  have p1 := b1.alloc b1.size (.cells #[.int .i64 s] 39)
  go_wp2_with fail
  refine (ask_any _ _ _ _).mono ?_
  rw [hb, hs, h]
  rintro e w2 ⟨rfl, b2⟩
  have k2 := (k1.below b2).alloc (.cells #[.int .i64 (s + 1)] 39)
  have q2 := Cel.new w2 (s + 1)
  have p2 := (p1.trans (b2.mono p1.size)).alloc (Nat.le_trans p1.size b2.size) (.cells #[.int .i64 (s + 1)] 39)
  obtain ⟨c1, l1⟩ := k1.below b2
  have K2 := Lib.hid k2
  have Q2 := Lib.hid q2
  clear k1 k2 q2 b1 b2 p1 hb hs
  go_wp2_with fail
  refine (ask_any _ _ _ _).mono ?_
  rw [kb, ks, h]
  rintro e w3 ⟨rfl, b3⟩
  obtain ⟨c2, l2⟩ := K2.out.below b3
  obtain ⟨c3, l3⟩ := Q2.out.below b3
  have k3 := (K2.out.below b3).alloc (.cells #[.int .i64 0] 39)
  have p3 := (p2.trans (b3.mono p2.size)).alloc (Nat.le_trans p2.size b3.size) (.cells #[.int .i64 0] 39)
  have K3 := Lib.hid k3
  clear k3 b3 p2 kb ks K2 Q2 c1 l1 h
  go_wp2_with fail
  go_ret
  exact ⟨rfl, p3⟩

set_option maxHeartbeats 800000 in
theorem all_in_also (s a r : Int) (m : Bool) (w : World) (h : gateE s a = 0) (hm : ¬ m = false) (hlt : s < a) (hr : ¬ r < a) (hr2 : ¬ r > 1048576) :
    Calls Try.prog 8 #[.int .i64 s, .int .i64 a, .int .i64 r, .bool m] w fun e w' => e = .returned (.bool true) ∧ Below w.heap.size w w' := by
  have hb : askB s m a = true := by rw [askB_ok h, if_neg hm, decide_eq_true hlt]
  have hs : askS s m a = (s + 1) := by rw [askS_ok h, if_neg hm, if_pos hlt]
  have kb : askB s false a = true := by rw [askB_ok h, if_pos rfl]
  have ks : askS s false a = 0 := by rw [askS_ok h, if_pos rfl]
  obtain ⟨g1, g2, g3, g4⟩ := gateE_ok h
  obtain rfl : m = true := by cases m <;> simp_all
  have hg : gateE s r = 0 := gateE_of (by omega) (by omega) (by omega) (by omega)
  have jb : askB s true r = true := by rw [askB_ok hg, if_neg (by decide), decide_eq_true (by omega)]
  go_enter Try.func8, Try.ntmps8
  go_wp2_with fail
  refine (live_any _).mono ?_
  rintro e w1 ⟨rfl, b1⟩
  have k1 := Cel.new w1 s
  have p1 := b1.alloc b1.size (.cells #[.int .i64 s] 39)
  go_wp2_with fail
  refine (ask_any _ _ _ _).mono ?_
  rw [hb, hs, h]
  rintro e w2 ⟨rfl, b2⟩
  have k2 := (k1.below b2).alloc (.cells #[.int .i64 (s + 1)] 39)
  have q2 := Cel.new w2 (s + 1)
  have p2 := (p1.trans (b2.mono p1.size)).alloc (Nat.le_trans p1.size b2.size) (.cells #[.int .i64 (s + 1)] 39)
  obtain ⟨c1, l1⟩ := k1.below b2
  have K2 := Lib.hid k2
  have Q2 := Lib.hid q2
  clear k1 k2 q2 b1 b2 p1 hb hs
  go_wp2_with fail
  refine (ask_any _ _ _ _).mono ?_
  rw [kb, ks, h]
  rintro e w3 ⟨rfl, b3⟩
  obtain ⟨c2, l2⟩ := K2.out.below b3
  obtain ⟨c3, l3⟩ := Q2.out.below b3
  have k3 := (K2.out.below b3).alloc (.cells #[.int .i64 0] 39)
  have p3 := (p2.trans (b3.mono p2.size)).alloc (Nat.le_trans p2.size b3.size) (.cells #[.int .i64 0] 39)
  have K3 := Lib.hid k3
  clear k3 b3 p2 kb ks K2 Q2 c1 l1 h
  go_wp2_with fail
  refine (ask_any _ _ _ _).mono ?_
  rw [jb, hg]
  rintro e w4 ⟨rfl, b4⟩
  have p4 := p3.trans (b4.mono p3.size)
  clear hg jb
  go_wp2_with fail
  go_ret
  exact ⟨rfl, p4.alloc p4.size _⟩

set_option maxHeartbeats 800000 in
theorem all_full_less (s a r : Int) (m : Bool) (w : World) (h : gateE s a = 0) (hm : ¬ m = false) (hlt : ¬ s < a) (hr : r < a) :
    Calls Try.prog 8 #[.int .i64 s, .int .i64 a, .int .i64 r, .bool m] w fun e w' => e = .returned (.bool true) ∧ Below w.heap.size w w' := by
  have hb : askB s m a = false := by rw [askB_ok h, if_neg hm, decide_eq_false hlt]
  have hs : askS s m a = s := by rw [askS_ok h, if_neg hm, if_neg hlt]
  have kb : askB s false a = true := by rw [askB_ok h, if_pos rfl]
  have ks : askS s false a = 0 := by rw [askS_ok h, if_pos rfl]
  obtain ⟨g1, g2, g3, g4⟩ := gateE_ok h
  obtain rfl : m = true := by cases m <;> simp_all
  go_enter Try.func8, Try.ntmps8
  go_wp2_with fail
  refine (live_any _).mono ?_
  rintro e w1 ⟨rfl, b1⟩
  have k1 := Cel.new w1 s
  have p1 := b1.alloc b1.size (.cells #[.int .i64 s] 39)
  go_wp2_with fail
  refine (ask_any _ _ _ _).mono ?_
  rw [hb, hs, h]
  rintro e w2 ⟨rfl, b2⟩
  have k2 := (k1.below b2).alloc (.cells #[.int .i64 s] 39)
  have q2 := Cel.new w2 s
  have p2 := (p1.trans (b2.mono p1.size)).alloc (Nat.le_trans p1.size b2.size) (.cells #[.int .i64 s] 39)
  obtain ⟨c1, l1⟩ := k1.below b2
  have K2 := Lib.hid k2
  have Q2 := Lib.hid q2
  clear k1 k2 q2 b1 b2 p1 hb hs
  go_wp2_with fail
  refine (ask_any _ _ _ _).mono ?_
  rw [kb, ks, h]
  rintro e w3 ⟨rfl, b3⟩
  obtain ⟨c2, l2⟩ := K2.out.below b3
  obtain ⟨c3, l3⟩ := Q2.out.below b3
  have k3 := (K2.out.below b3).alloc (.cells #[.int .i64 0] 39)
  have p3 := (p2.trans (b3.mono p2.size)).alloc (Nat.le_trans p2.size b3.size) (.cells #[.int .i64 0] 39)
  have K3 := Lib.hid k3
  clear k3 b3 p2 kb ks K2 Q2 c1 l1 h
  go_wp2_with fail
  go_ret
  exact ⟨rfl, p3⟩

set_option maxHeartbeats 800000 in
theorem all_full_much (s a r : Int) (m : Bool) (w : World) (h : gateE s a = 0) (hm : ¬ m = false) (hlt : ¬ s < a) (hr : ¬ r < a) (hr2 : r > 1048576) :
    Calls Try.prog 8 #[.int .i64 s, .int .i64 a, .int .i64 r, .bool m] w fun e w' => e = .returned (.bool true) ∧ Below w.heap.size w w' := by
  have hb : askB s m a = false := by rw [askB_ok h, if_neg hm, decide_eq_false hlt]
  have hs : askS s m a = s := by rw [askS_ok h, if_neg hm, if_neg hlt]
  have kb : askB s false a = true := by rw [askB_ok h, if_pos rfl]
  have ks : askS s false a = 0 := by rw [askS_ok h, if_pos rfl]
  obtain ⟨g1, g2, g3, g4⟩ := gateE_ok h
  obtain rfl : m = true := by cases m <;> simp_all
  go_enter Try.func8, Try.ntmps8
  go_wp2_with fail
  refine (live_any _).mono ?_
  rintro e w1 ⟨rfl, b1⟩
  have k1 := Cel.new w1 s
  have p1 := b1.alloc b1.size (.cells #[.int .i64 s] 39)
  go_wp2_with fail
  refine (ask_any _ _ _ _).mono ?_
  rw [hb, hs, h]
  rintro e w2 ⟨rfl, b2⟩
  have k2 := (k1.below b2).alloc (.cells #[.int .i64 s] 39)
  have q2 := Cel.new w2 s
  have p2 := (p1.trans (b2.mono p1.size)).alloc (Nat.le_trans p1.size b2.size) (.cells #[.int .i64 s] 39)
  obtain ⟨c1, l1⟩ := k1.below b2
  have K2 := Lib.hid k2
  have Q2 := Lib.hid q2
  clear k1 k2 q2 b1 b2 p1 hb hs
  go_wp2_with fail
  refine (ask_any _ _ _ _).mono ?_
  rw [kb, ks, h]
  rintro e w3 ⟨rfl, b3⟩
  obtain ⟨c2, l2⟩ := K2.out.below b3
  obtain ⟨c3, l3⟩ := Q2.out.below b3
  have k3 := (K2.out.below b3).alloc (.cells #[.int .i64 0] 39)
  have p3 := (p2.trans (b3.mono p2.size)).alloc (Nat.le_trans p2.size b3.size) (.cells #[.int .i64 0] 39)
  have K3 := Lib.hid k3
  clear k3 b3 p2 kb ks K2 Q2 c1 l1 h
  go_wp2_with fail
  go_ret
  exact ⟨rfl, p3⟩

set_option maxHeartbeats 800000 in
theorem all_full_also (s a r : Int) (m : Bool) (w : World) (h : gateE s a = 0) (hm : ¬ m = false) (hlt : ¬ s < a) (hr : ¬ r < a) (hr2 : ¬ r > 1048576) :
    Calls Try.prog 8 #[.int .i64 s, .int .i64 a, .int .i64 r, .bool m] w fun e w' => e = .returned (.bool true) ∧ Below w.heap.size w w' := by
  have hb : askB s m a = false := by rw [askB_ok h, if_neg hm, decide_eq_false hlt]
  have hs : askS s m a = s := by rw [askS_ok h, if_neg hm, if_neg hlt]
  have kb : askB s false a = true := by rw [askB_ok h, if_pos rfl]
  have ks : askS s false a = 0 := by rw [askS_ok h, if_pos rfl]
  obtain ⟨g1, g2, g3, g4⟩ := gateE_ok h
  obtain rfl : m = true := by cases m <;> simp_all
  have hg : gateE s r = 0 := gateE_of (by omega) (by omega) (by omega) (by omega)
  go_enter Try.func8, Try.ntmps8
  go_wp2_with fail
  refine (live_any _).mono ?_
  rintro e w1 ⟨rfl, b1⟩
  have k1 := Cel.new w1 s
  have p1 := b1.alloc b1.size (.cells #[.int .i64 s] 39)
  go_wp2_with fail
  refine (ask_any _ _ _ _).mono ?_
  rw [hb, hs, h]
  rintro e w2 ⟨rfl, b2⟩
  have k2 := (k1.below b2).alloc (.cells #[.int .i64 s] 39)
  have q2 := Cel.new w2 s
  have p2 := (p1.trans (b2.mono p1.size)).alloc (Nat.le_trans p1.size b2.size) (.cells #[.int .i64 s] 39)
  obtain ⟨c1, l1⟩ := k1.below b2
  have K2 := Lib.hid k2
  have Q2 := Lib.hid q2
  clear k1 k2 q2 b1 b2 p1 hb hs
  go_wp2_with fail
  refine (ask_any _ _ _ _).mono ?_
  rw [kb, ks, h]
  rintro e w3 ⟨rfl, b3⟩
  obtain ⟨c2, l2⟩ := K2.out.below b3
  obtain ⟨c3, l3⟩ := Q2.out.below b3
  have k3 := (K2.out.below b3).alloc (.cells #[.int .i64 0] 39)
  have p3 := (p2.trans (b3.mono p2.size)).alloc (Nat.le_trans p2.size b3.size) (.cells #[.int .i64 0] 39)
  have K3 := Lib.hid k3
  clear k3 b3 p2 kb ks K2 Q2 c1 l1 h
  go_wp2_with fail
  refine (ask_any _ _ _ _).mono ?_
  rw [hg]
  rintro e w4 ⟨rfl, b4⟩
  have p4 := p3.trans (b4.mono p3.size)
  clear hg
  go_wp2_with fail
  go_ret
  exact ⟨rfl, p4.alloc p4.size _⟩

theorem all_any (s a r : Int) (m : Bool) (w : World) :
    Calls Try.prog 8 #[.int .i64 s, .int .i64 a, .int .i64 r, .bool m] w fun e w' => e = .returned (.bool true) ∧ Below w.heap.size w w' := by
  rcases gateE_01 s a with h | h
  · by_cases hr : r < a
    · by_cases hm : m = false
      · exact all_free_less s a r m w h hm hr
      · by_cases hlt : s < a
        · exact all_in_less s a r m w h hm hlt hr
        · exact all_full_less s a r m w h hm hlt hr
    · by_cases hr2 : r > 1048576
      · by_cases hm : m = false
        · exact all_free_much s a r m w h hm hr hr2
        · by_cases hlt : s < a
          · exact all_in_much s a r m w h hm hlt hr hr2
          · exact all_full_much s a r m w h hm hlt hr hr2
      · by_cases hm : m = false
        · exact all_free_also s a r m w h hm hr hr2
        · by_cases hlt : s < a
          · exact all_in_also s a r m w h hm hlt hr hr2
          · exact all_full_also s a r m w h hm hlt hr hr2
  · exact all_bad s a r m w h
end Go.Proofs.Ytekbgfpfafjobaa.Admit
