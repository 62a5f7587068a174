/- The walk of AdmitFew: it answers true at every allowance and every list of octets. -/
import Derived.Test.YtekbgfpfafjobaaAdmitRef
namespace Go.Proofs.Ytekbgfpfafjobaa.Admit
open Go.RowKit
set_option linter.unusedVariables false

theorem askB_okk {s a : Int} {m : Bool} (h : gateE s a = 0) : askB s m a = if m = false then true else decide (s < a) := by
  unfold askB; rw [if_neg (by omega)]
theorem askS_okk {s a : Int} {m : Bool} (h : gateE s a = 0) : askS s m a = if m = false then 0 else if s < a then s + 1 else s := by
  unfold askS; rw [if_neg (by omega)]

/-- A slice of octets, as it is read. -/
def Octets (w : World) (A : Option Addr) (len : Nat) (zs : List Int) : Prop :=
  0 < len → ∃ ad, A = some ad ∧ ad.block < w.heap.size ∧ ∀ i, i < len → w.cell? (ad.add i) = some (.int .u8 (zs.getD i 0)) ∧ 0 ≤ zs.getD i 0 ∧ zs.getD i 0 ≤ 255
theorem add_block (ad : Addr) (i : Nat) : (ad.add i).block = ad.block := by unfold Addr.add; split <;> rfl
theorem octet_at {w wr : World} {ad : Addr} {v : Int} {i : Nat} (h : w.cell? (ad.add i) = some (.int .u8 v)) (hb : ad.block < w.heap.size) (be : Below w.heap.size w wr) : wr.cell? (ad.add i) = some (.int .u8 v) :=
  (be.cell (p := ad.add i) (by rw [add_block]; exact hb)).trans h

/-- Where the law's loop stands: so many octets read; the gate counts as the law does. -/
def FewAt (w : World) (B : Nat) (a : Int) (len : Nat) (o i : Value) (wr : World) : Prop :=
  ∃ (s : Int) (t : Nat), o = .int .i64 s ∧ i = .int .i64 t ∧ wr.heap[B]? = some (.cells #[.int .i64 s] 39 (0, 0)) ∧ Below w.heap.size w wr ∧ 0 ≤ s ∧ s ≤ a ∧ t ≤ len
theorem on_block {w w1 : World} {g : Nat} {o : Obj} (h : w.heap[g]? = some o) (hb : Below w.heap.size w w1) : w1.heap[g]? = some o := (hb.block g (Array.getElem?_eq_some_iff.1 h).1).trans h

set_option maxRecDepth 100000 in
set_option maxHeartbeats 3200000 in
theorem few_ok (a : Int) (A : Option Addr) (len cap : Nat) (zs : List Int) (w : World) (hr : Octets w A len zs) (hlen : len ≤ 300) (h : gateE 0 a = 0) :
    Calls Try.prog 9 #[.int .i64 a, .slice A len cap] w fun r w' => r = .returned (.bool true) ∧ Below w.heap.size w w' := by
  obtain ⟨a1, a2, _, _⟩ := gateE_ok h
  clear h
  have HR := Lib.hid hr
  clear hr
  go_enter Try.func9, Try.ntmps9
  go_wp2_with fail
  refine (live_any _).mono ?_
  rintro r w1 ⟨rfl, b1⟩
  have m0 := heap_alloc_new w1 (.cells #[.int .i64 0] 39)
  have p1 := b1.alloc b1.size (.cells #[.int .i64 0] 39)
  have LB : w.heap.size ≤ w1.heap.size := b1.size
  have HG : Hid (∀ s : Int, 0 ≤ s → s ≤ a → gateE s a = 0) := fun s h0 h1 => gateE_of a1 a2 h0 h1
  clear b1
  go_wp2_with fail
  have M0 := Lib.hid m0
  clear m0
  go_loopw [7, 26] (fun o i wr => FewAt w w1.heap.size a len o i wr) (fun _ i _ => (len - intOf i).toNat)
  case atStart => exact ⟨0, 0, rfl, rfl, M0.out, p1, by omega, by omega, by omega⟩
  case round =>
    obtain ⟨s, t, rfl, rfl, m0, be, s0, s1, tl⟩ := hrel
    clear M0 p1
    generalize w1.heap.size = B at *
    have c0 := cell_of_one m0
    have f0 := free_of_one m0
    have M0 := Lib.hid m0
    clear m0
    by_cases hlt : t < len
    · obtain ⟨ad, rfl, hb, hx⟩ := HR.out (by omega)
      obtain ⟨hx1, v0, v1⟩ := hx t hlt
      have hc := octet_at hx1 hb be
      generalize zs.getD t 0 = v at hc v0 v1
      clear hx hx1 HR
      by_cases h7 : v % 7 = 0
      · have h7b : (v % 7 == 0) = true := beq_iff_eq.2 h7
        by_cases h5 : v % 5 = 0
        · have h5b : decide (0 < v % 5) = false := decide_eq_false (by omega)
          clear h7 h5
          have AskB : askB 0 false a = true := by rw [askB_okk (HG.out 0 (by omega) (by omega)), if_pos rfl]
          have AskS : askS 0 false a = 0 := by rw [askS_okk (HG.out 0 (by omega) (by omega)), if_pos rfl]
          go_wp2_with fail
          refine (kept_any _ _ _).mono ?_
          rw [HG.out s (by omega) (by omega)]
          rintro r w4 ⟨rfl, b4⟩
          have m4 := on_block M0.out b4
          have p4 := be.trans (b4.mono be.size)
          have l4 : B < w4.heap.size := (Array.getElem?_eq_some_iff.1 m4).1
          have m5 := one_setCell (u := .int .i64 0) m4
          have p5 := p4.setCell (p := ⟨B, 0, none⟩) LB (.int .i64 0)
          have m6 := (Below.heap_alloc _ (.cells #[.int .i64 0] 39) _ (Array.getElem?_eq_some_iff.1 m5).1).trans m5
          have p6 := p5.alloc p5.size (.cells #[.int .i64 0] 39)
          have c4 := cell_of_one m4
          have f4 := free_of_one m4
          have M6 := Lib.hid m6
          have P6 := Lib.hid p6
          clear c0 f0 M0 b4 be m4 p4 m5 p5 m6 p6
          go_wp2_with fail
          refine (ask_any _ _ _ _).mono ?_
          rw [AskB, AskS, HG.out 0 (by omega) (by omega)]
          rintro r w7 ⟨rfl, b7⟩
          have m7 := on_block M6.out b7
          have p7 := P6.out.trans (b7.mono P6.out.size)
          have l7 : B < w7.heap.size := (Array.getElem?_eq_some_iff.1 m7).1
          have m8 := one_setCell (u := .int .i64 0) m7
          have p8 := p7.setCell (p := ⟨B, 0, none⟩) LB (.int .i64 0)
          have m9 := (Below.heap_alloc _ (.cells #[.int .i64 0] 39) _ (Array.getElem?_eq_some_iff.1 m8).1).trans m8
          have p9 := p8.alloc p8.size (.cells #[.int .i64 0] 39)
          have c7 := cell_of_one m7
          have f7 := free_of_one m7
          have c9 := cell_of_one m9
          have M9 := Lib.hid m9
          have P9 := Lib.hid p9
          clear c4 f4 M6 P6 b7 m7 p7 m8 p8 m9 p9 AskB AskS
          go_wp2_with fail
          refine (check_any _ _ _).mono ?_
          rw [HG.out 0 (by omega) (by omega)]
          rintro r wa ⟨rfl, ba⟩
          have ma := on_block M9.out ba
          have pa := P9.out.trans (ba.mono P9.out.size)
          clear c7 f7 c9 M9 P9 ba
          have MA := Lib.hid ma
          clear ma
          go_wp2_with fail
          go_roundw
          case rel => exact ⟨0, t + 1, rfl, by go_num, MA.out, pa, by omega, by omega, by omega⟩
          case measure => simp [intOf]; omega
        · have h5b : decide (0 < v % 5) = true := decide_eq_true (by omega)
          clear h7 h5
          have ha0 : decide (0 < a) = true := decide_eq_true (by omega)
          have AskB : askB 0 true a = true := by rw [askB_okk (HG.out 0 (by omega) (by omega)), if_neg (by decide), decide_eq_true (by omega)]
          have AskS : askS 0 true a = 1 := by rw [askS_okk (HG.out 0 (by omega) (by omega)), if_neg (by decide), if_pos (by omega)] <;> rfl
          go_wp2_with fail
          refine (kept_any _ _ _).mono ?_
          rw [HG.out s (by omega) (by omega)]
          rintro r w4 ⟨rfl, b4⟩
          have m4 := on_block M0.out b4
          have p4 := be.trans (b4.mono be.size)
          have l4 : B < w4.heap.size := (Array.getElem?_eq_some_iff.1 m4).1
          have m5 := one_setCell (u := .int .i64 0) m4
          have p5 := p4.setCell (p := ⟨B, 0, none⟩) LB (.int .i64 0)
          have m6 := (Below.heap_alloc _ (.cells #[.int .i64 0] 39) _ (Array.getElem?_eq_some_iff.1 m5).1).trans m5
          have p6 := p5.alloc p5.size (.cells #[.int .i64 0] 39)
          have c4 := cell_of_one m4
          have f4 := free_of_one m4
          have M6 := Lib.hid m6
          have P6 := Lib.hid p6
          clear c0 f0 M0 b4 be m4 p4 m5 p5 m6 p6
          go_wp2_with fail
          refine (ask_any _ _ _ _).mono ?_
          rw [AskB, AskS, HG.out 0 (by omega) (by omega)]
          rintro r w7 ⟨rfl, b7⟩
          have m7 := on_block M6.out b7
          have p7 := P6.out.trans (b7.mono P6.out.size)
          have l7 : B < w7.heap.size := (Array.getElem?_eq_some_iff.1 m7).1
          have m8 := one_setCell (u := .int .i64 1) m7
          have p8 := p7.setCell (p := ⟨B, 0, none⟩) LB (.int .i64 1)
          have m9 := (Below.heap_alloc _ (.cells #[.int .i64 1] 39) _ (Array.getElem?_eq_some_iff.1 m8).1).trans m8
          have p9 := p8.alloc p8.size (.cells #[.int .i64 1] 39)
          have c7 := cell_of_one m7
          have f7 := free_of_one m7
          have c9 := cell_of_one m9
          have M9 := Lib.hid m9
          have P9 := Lib.hid p9
          clear c4 f4 M6 P6 b7 m7 p7 m8 p8 m9 p9 AskB AskS
          go_wp2_with fail
          refine (check_any _ _ _).mono ?_
          rw [HG.out 1 (by omega) (by omega)]
          rintro r wa ⟨rfl, ba⟩
          have ma := on_block M9.out ba
          have pa := P9.out.trans (ba.mono P9.out.size)
          clear c7 f7 c9 M9 P9 ba
          have MA := Lib.hid ma
          clear ma
          go_wp2_with fail
          go_roundw
          case rel => exact ⟨1, t + 1, rfl, by go_num, MA.out, pa, by omega, by omega, by omega⟩
          case measure => simp [intOf]; omega
      · have h7b : (v % 7 == 0) = false := beq_eq_false_iff_ne.2 h7
        by_cases h5 : v % 5 = 0
        · have h5b : decide (0 < v % 5) = false := decide_eq_false (by omega)
          clear h7 h5
          have AskB : askB s false a = true := by rw [askB_okk (HG.out s (by omega) (by omega)), if_pos rfl]
          have AskS : askS s false a = 0 := by rw [askS_okk (HG.out s (by omega) (by omega)), if_pos rfl]
          go_wp2_with fail
          refine (ask_any _ _ _ _).mono ?_
          rw [AskB, AskS, HG.out s (by omega) (by omega)]
          rintro r w7 ⟨rfl, b7⟩
          have m7 := on_block M0.out b7
          have p7 := be.trans (b7.mono be.size)
          have l7 : B < w7.heap.size := (Array.getElem?_eq_some_iff.1 m7).1
          have m8 := one_setCell (u := .int .i64 0) m7
          have p8 := p7.setCell (p := ⟨B, 0, none⟩) LB (.int .i64 0)
          have m9 := (Below.heap_alloc _ (.cells #[.int .i64 0] 39) _ (Array.getElem?_eq_some_iff.1 m8).1).trans m8
          have p9 := p8.alloc p8.size (.cells #[.int .i64 0] 39)
          have c7 := cell_of_one m7
          have f7 := free_of_one m7
          have c9 := cell_of_one m9
          have M9 := Lib.hid m9
          have P9 := Lib.hid p9
          clear c0 f0 M0 be b7 m7 p7 m8 p8 m9 p9 AskB AskS
          go_wp2_with fail
          refine (check_any _ _ _).mono ?_
          rw [HG.out 0 (by omega) (by omega)]
          rintro r wa ⟨rfl, ba⟩
          have ma := on_block M9.out ba
          have pa := P9.out.trans (ba.mono P9.out.size)
          clear c7 f7 c9 M9 P9 ba
          have MA := Lib.hid ma
          clear ma
          go_wp2_with fail
          go_roundw
          case rel => exact ⟨0, t + 1, rfl, by go_num, MA.out, pa, by omega, by omega, by omega⟩
          case measure => simp [intOf]; omega
        · have h5b : decide (0 < v % 5) = true := decide_eq_true (by omega)
          clear h7 h5
          by_cases hsa : s < a
          · have hyy : 0 ≤ v := v0
            have AskB : askB s true a = true := by rw [askB_okk (HG.out s (by omega) (by omega)), if_neg (by decide), decide_eq_true (by omega)]
            have AskS : askS s true a = (s + 1) := by rw [askS_okk (HG.out s (by omega) (by omega)), if_neg (by decide), if_pos (by omega)]
            go_wp2_with fail
            refine (ask_any _ _ _ _).mono ?_
            rw [AskB, AskS, HG.out s (by omega) (by omega)]
            rintro r w7 ⟨rfl, b7⟩
            have m7 := on_block M0.out b7
            have p7 := be.trans (b7.mono be.size)
            have l7 : B < w7.heap.size := (Array.getElem?_eq_some_iff.1 m7).1
            have m8 := one_setCell (u := .int .i64 (s + 1)) m7
            have p8 := p7.setCell (p := ⟨B, 0, none⟩) LB (.int .i64 (s + 1))
            have m9 := (Below.heap_alloc _ (.cells #[.int .i64 (s + 1)] 39) _ (Array.getElem?_eq_some_iff.1 m8).1).trans m8
            have p9 := p8.alloc p8.size (.cells #[.int .i64 (s + 1)] 39)
            have c7 := cell_of_one m7
            have f7 := free_of_one m7
            have c9 := cell_of_one m9
            have M9 := Lib.hid m9
            have P9 := Lib.hid p9
            clear c0 f0 M0 be b7 m7 p7 m8 p8 m9 p9 AskB AskS
            go_wp2_with fail
            refine (check_any _ _ _).mono ?_
            rw [HG.out (s + 1) (by omega) (by omega)]
            rintro r wa ⟨rfl, ba⟩
            have ma := on_block M9.out ba
            have pa := P9.out.trans (ba.mono P9.out.size)
            clear c7 f7 c9 M9 P9 ba
            have MA := Lib.hid ma
            clear ma
            go_wp2_with fail
            go_roundw
            case rel => exact ⟨(s + 1), t + 1, rfl, by go_num, MA.out, pa, by omega, by omega, by omega⟩
            case measure => simp [intOf]; omega
          · have hyy : 0 ≤ v := v0
            have AskB : askB s true a = false := by rw [askB_okk (HG.out s (by omega) (by omega)), if_neg (by decide), decide_eq_false (by omega)]
            have AskS : askS s true a = s := by rw [askS_okk (HG.out s (by omega) (by omega)), if_neg (by decide), if_neg (by omega)]
            go_wp2_with fail
            refine (ask_any _ _ _ _).mono ?_
            rw [AskB, AskS, HG.out s (by omega) (by omega)]
            rintro r w7 ⟨rfl, b7⟩
            have m7 := on_block M0.out b7
            have p7 := be.trans (b7.mono be.size)
            have l7 : B < w7.heap.size := (Array.getElem?_eq_some_iff.1 m7).1
            have m8 := one_setCell (u := .int .i64 s) m7
            have p8 := p7.setCell (p := ⟨B, 0, none⟩) LB (.int .i64 s)
            have m9 := (Below.heap_alloc _ (.cells #[.int .i64 s] 39) _ (Array.getElem?_eq_some_iff.1 m8).1).trans m8
            have p9 := p8.alloc p8.size (.cells #[.int .i64 s] 39)
            have c7 := cell_of_one m7
            have f7 := free_of_one m7
            have c9 := cell_of_one m9
            have M9 := Lib.hid m9
            have P9 := Lib.hid p9
            clear c0 f0 M0 be b7 m7 p7 m8 p8 m9 p9 AskB AskS
            go_wp2_with fail
            refine (check_any _ _ _).mono ?_
            rw [HG.out s (by omega) (by omega)]
            rintro r wa ⟨rfl, ba⟩
            have ma := on_block M9.out ba
            have pa := P9.out.trans (ba.mono P9.out.size)
            clear c7 f7 c9 M9 P9 ba
            have MA := Lib.hid ma
            clear ma
            go_wp2_with fail
            go_roundw
            case rel => exact ⟨s, t + 1, rfl, by go_num, MA.out, pa, by omega, by omega, by omega⟩
            case measure => simp [intOf]; omega
    · have ht : t = len := by omega
      subst ht
      go_wp2_with fail
      go_ret
      exact ⟨rfl, be⟩

set_option maxRecDepth 100000 in
set_option maxHeartbeats 800000 in
theorem few_long (a : Int) (A : Option Addr) (len cap : Nat) (w : World) (hlen : ¬ len ≤ 300) :
    Calls Try.prog 9 #[.int .i64 a, .slice A len cap] w fun r w' => r = .returned (.bool true) ∧ Below w.heap.size w w' := by
  have hd : (300 : Int) < (len : Int) := by omega
  go_enter Try.func9, Try.ntmps9
  go_wp2_with fail
  refine (live_any _).mono ?_
  rintro r w1 ⟨rfl, b1⟩
  go_wp2_with fail
  go_ret
  exact ⟨rfl, b1⟩

/-- Where the law's loop stands ahead of its first round. -/
def FewStart (w : World) (B : Nat) (o i : Value) (wr : World) : Prop :=
  o = .int .i64 0 ∧ i = .int .i64 0 ∧ wr.heap[B]? = some (.cells #[.int .i64 0] 39 (0, 0)) ∧ Below w.heap.size w wr

set_option maxRecDepth 100000 in
set_option maxHeartbeats 3200000 in
theorem few_bad (a : Int) (A : Option Addr) (len cap : Nat) (zs : List Int) (w : World) (hr : Octets w A len zs) (hlen : len ≤ 300) (h : gateE 0 a = 1) :
    Calls Try.prog 9 #[.int .i64 a, .slice A len cap] w fun r w' => r = .returned (.bool true) ∧ Below w.heap.size w w' := by
  have HG := Lib.hid h
  clear h
  have HR := Lib.hid hr
  clear hr
  go_enter Try.func9, Try.ntmps9
  go_wp2_with fail
  refine (live_any _).mono ?_
  rintro r w1 ⟨rfl, b1⟩
  have m0 := heap_alloc_new w1 (.cells #[.int .i64 0] 39)
  have p1 := b1.alloc b1.size (.cells #[.int .i64 0] 39)
  have LB : w.heap.size ≤ w1.heap.size := b1.size
  clear b1
  go_wp2_with fail
  have M0 := Lib.hid m0
  clear m0
  go_loopw [7, 26] (fun o i wr => FewStart w w1.heap.size o i wr) (fun _ _ _ => 0)
  case atStart => exact ⟨rfl, rfl, M0.out, p1⟩
  case round =>
    obtain ⟨rfl, rfl, m0, be⟩ := hrel
    clear M0 p1
    generalize w1.heap.size = B at *
    have c0 := cell_of_one m0
    have f0 := free_of_one m0
    have M0 := Lib.hid m0
    clear m0
    by_cases hlt : 0 < len
    · obtain ⟨ad, rfl, hb, hx⟩ := HR.out hlt
      obtain ⟨hx1, v0, v1⟩ := hx 0 hlt
      have hc := octet_at hx1 hb be
      generalize zs.getD 0 0 = v at hc v0 v1
      clear hx hx1 HR
      rw [Addr.add_zero'] at hc
      have hlt2 : (0 : Int) < (len : Int) := by omega
      by_cases h7 : v % 7 = 0
      · have h7b : (v % 7 == 0) = true := beq_iff_eq.2 h7
        clear h7
        go_wp2_with fail
        refine (kept_any _ _ _).mono ?_
        rw [HG.out]
        rintro r w4 ⟨rfl, b4⟩
        have m4 := on_block M0.out b4
        have p4 := be.trans (b4.mono be.size)
        have l4 : B < w4.heap.size := (Array.getElem?_eq_some_iff.1 m4).1
        have c4 := cell_of_one m4
        have p6 := p4.alloc p4.size (.cells #[.int .i64 0] 39)
        have P6 := Lib.hid p6
        clear c0 f0 M0 b4 be p4 m4 p6
        go_wp2_with fail
        refine (check_any _ _ _).mono ?_
        rw [HG.out]
        rintro r wa ⟨rfl, ba⟩
        have pa := P6.out.trans (ba.mono P6.out.size)
        go_wp2_with fail
        go_ret
        exact ⟨rfl, pa⟩
      · have h7b : (v % 7 == 0) = false := beq_eq_false_iff_ne.2 h7
        clear h7
        by_cases h5 : v % 5 = 0
        · have h5b : decide (0 < v % 5) = false := decide_eq_false (by omega)
          clear h5
          go_wp2_with fail
          refine (ask_any _ _ _ _).mono ?_
          rw [show askB 0 false a = false from if_pos HG.out, show askS 0 false a = 0 from if_pos HG.out, HG.out]
          rintro r w4 ⟨rfl, b4⟩
          have p4 := be.trans (b4.mono be.size)
          go_wp2_with fail
          go_ret
          exact ⟨rfl, p4.alloc p4.size _⟩
        · have h5b : decide (0 < v % 5) = true := decide_eq_true (by omega)
          clear h5
          go_wp2_with fail
          refine (ask_any _ _ _ _).mono ?_
          rw [show askB 0 true a = false from if_pos HG.out, show askS 0 true a = 0 from if_pos HG.out, HG.out]
          rintro r w4 ⟨rfl, b4⟩
          have p4 := be.trans (b4.mono be.size)
          go_wp2_with fail
          go_ret
          exact ⟨rfl, p4.alloc p4.size _⟩
    · obtain rfl : len = 0 := by omega
      go_wp2_with fail
      go_ret
      exact ⟨rfl, be⟩

theorem few_any (a : Int) (A : Option Addr) (len cap : Nat) (zs : List Int) (w : World) (hr : Octets w A len zs) :
    Calls Try.prog 9 #[.int .i64 a, .slice A len cap] w fun r w' => r = .returned (.bool true) ∧ Below w.heap.size w w' := by
  by_cases hlen : len ≤ 300
  · rcases gateE_01 0 a with h | h
    · exact few_ok a A len cap zs w hr hlen h
    · exact few_bad a A len cap zs w hr hlen h
  · exact few_long a A len cap w hlen
end Go.Proofs.Ytekbgfpfafjobaa.Admit
