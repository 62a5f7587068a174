/- What Lot and Lots of package lots answer, where they are not refused, and where they are; no condition. -/
import Derived.Test.YtekbgfpfafjobaaLotsPlain
import Derived.OwnWalk
namespace Go.Proofs.Ytekbgfpfafjobaa.Lots
open Go.RowKit

/-- A lot below a number; so many of them. -/
def lotV (x b : Int) : Int := nxt x / 8589934592 % b
def dr : Nat → Int → Int → List Int
  | 0, _, _ => []
  | d + 1, x, b => lotV x b :: dr d (nxt x) b
theorem nxt_range (x : Int) : 0 ≤ nxt x ∧ nxt x ≤ 18446744073709551615 := aff_range _ _ _
theorem lotV_range {x b : Int} (h : 1 ≤ b) : 0 ≤ lotV x b ∧ lotV x b < b := ⟨Int.emod_nonneg _ (by omega), Int.emod_lt_of_pos _ (by omega)⟩
theorem dr_length (d : Nat) : ∀ (x b : Int), (dr d x b).length = d := by
  induction d with
  | zero => intro x b; rfl
  | succ d ih => intro x b; show (dr d (nxt x) b).length + 1 = d + 1; rw [ih]
theorem dr_two (n : Nat) : ∀ (m : Nat) (x b : Int), dr (n + m) x b = dr n x b ++ dr m (jmp x (n : Int)) b := by
  induction n with
  | zero => intro m x b; rw [Nat.zero_add]; rfl
  | succ n ih =>
    intro m x b
    rw [show n + 1 + m = (n + m) + 1 from by omega]
    show lotV x b :: dr (n + m) (nxt x) b = lotV x b :: (dr n (nxt x) b ++ _)
    rw [ih]
    congr 3
theorem dr_snoc (n : Nat) (x b : Int) : dr (n + 1) x b = dr n x b ++ [lotV (jmp x (n : Int)) b] := dr_two n 1 x b
theorem dr_in (d : Nat) : ∀ (x b : Int), 1 ≤ b → ∀ k, k < d → 0 ≤ (dr d x b).getD k 0 ∧ (dr d x b).getD k 0 < b := by
  induction d with
  | zero => intro x b hb k hk; omega
  | succ d ih =>
    intro x b hb k hk
    cases k with
    | zero => exact lotV_range hb
    | succ k => exact ih (nxt x) b hb k (by omega)

/-- May lots be below this number? -/
def BoundOk (b : Int) : Prop := 1 ≤ b ∧ b ≤ 2147483648
theorem bound_yes (b : Int) (w : World) (h : BoundOk b) : Calls Try.prog 49 #[.int .i64 b] w fun e w' => e = .returned (.bool true) ∧ w = w' := by
  obtain ⟨h1, h2⟩ := h
  go_enter Try.func49, Try.ntmps49
  go_wp2
  go_ret
  exact ⟨rfl, rfl⟩
theorem bound_no (b : Int) (w : World) (h : ¬ BoundOk b) : Calls Try.prog 49 #[.int .i64 b] w fun e w' => e = .returned (.bool false) ∧ w = w' := by
  have H := Lib.hid h
  clear h
  by_cases h1 : b < 1
  · go_enter Try.func49, Try.ntmps49
    go_wp2
    go_ret
    exact ⟨rfl, rfl⟩
  · have h2 : b > 2147483648 := by
      have h3 := H.out
      unfold BoundOk at h3
      omega
    have hd : decide (b ≤ 2147483648) = false := decide_eq_false (by omega)
    go_enter Try.func49, Try.ntmps49
    go_wp2
    go_ret
    exact ⟨rfl, rfl⟩

theorem lot_yes (x b : Int) (w : World) (h : BoundOk b) : Calls Try.prog 22 #[.int .u64 x, .int .i64 b] w fun e w' => e = .returned (.tuple #[.int .i64 (lotV x b), .int .u64 (nxt x), .int .i64 0]) ∧ w = w' := by
  have H := Lib.hid h
  obtain ⟨h1, h2⟩ := h
  have hr := nxt_range x
  have hl := lotV_range (x := x) h1
  unfold lotV at *
  go_enter Try.func22, Try.ntmps22
  go_wp2_with fail
  refine (bound_yes _ _ H.out).mono ?_
  rintro e w' ⟨rfl, rfl⟩
  go_wp2_with fail
  refine (next_any _ _).mono ?_
  rintro e w' ⟨rfl, rfl⟩
  go_wp2_with fail
  go_ret3
  exact ⟨rfl, rfl⟩

/-- May so many lots be drawn below this number? -/
def LotsOk (n b : Int) : Prop := BoundOk b ∧ 0 ≤ n ∧ n ≤ 4096
set_option maxHeartbeats 400000 in
theorem lots_no (x n b : Int) (w : World) (h : ¬ LotsOk n b) : Calls Try.prog 24 #[.int .u64 x, .int .i64 n, .int .i64 b] w fun e w' => e = .returned (.tuple #[.slice none 0 0, .int .u64 0, .int .i64 1]) ∧ w = w' := by
  have H := Lib.hid h
  clear h
  by_cases hb : BoundOk b
  · have HB := Lib.hid hb
    clear hb
    by_cases h1 : n < 0
    · go_enter Try.func24, Try.ntmps24
      go_wp2_with fail
      refine (bound_yes _ _ HB.out).mono ?_
      rintro e w' ⟨rfl, rfl⟩
      go_wp2_with fail
      go_ret3
      exact ⟨rfl, rfl⟩
    · have h2 : n > 4096 := by
        refine Int.not_le.1 fun hle => H.out ⟨HB.out, by omega, hle⟩
      go_enter Try.func24, Try.ntmps24
      go_wp2_with fail
      refine (bound_yes _ _ HB.out).mono ?_
      rintro e w' ⟨rfl, rfl⟩
      go_wp2_with fail
      go_ret3
      exact ⟨rfl, rfl⟩
  · go_enter Try.func24, Try.ntmps24
    go_wp2_with fail
    refine (bound_no _ _ hb).mono ?_
    rintro e w' ⟨rfl, rfl⟩
    go_wp2_with fail
    go_ret3
    exact ⟨rfl, rfl⟩

theorem info3 : (Try.prog.info? 3).map (fun i => (i.zero, i.size, i.bytes)) = some (some (.int .i64 0), 1, 8) := by kernel_rfl

theorem row_base {w : World} {base : Nat} {e : TypeId} {size n : Nat} {v : Value} {xs : List Value} (h : w.ownsRow base e size v n xs) (k : Nat) (hk : v.ownBlock = some k) : base ≤ k := by
  rcases h.2 with ⟨rfl, _⟩ | ⟨g, cap, cur, rfl, hb, _⟩
  · simp [Value.ownBlock] at hk
  · have : g = k := by simpa [Value.ownBlock] using hk
    omega

/-- Where the loop of Lots stands: so many drawn. -/
def LotsAt (w : World) (x b n : Int) (o y i : Value) (wr : World) : Prop :=
  ∃ k : Nat, (k : Int) ≤ n ∧ i = .int .i64 k ∧ y = .int .u64 (jmp x k) ∧ wr.ownsRow w.heap.size 3 1 o k ((dr k x b).map (Value.int .i64)) ∧ Below w.heap.size w wr

set_option maxHeartbeats 1600000 in
theorem lots_yes (x n b : Int) (w : World) (h : LotsOk n b) : Calls Try.prog 24 #[.int .u64 x, .int .i64 n, .int .i64 b] w fun e w' => ∃ v, e = .returned (.tuple #[v, .int .u64 (jmp x n), .int .i64 0]) ∧ w'.ownsRow w.heap.size 3 1 v n.toNat ((dr n.toNat x b).map (Value.int .i64)) ∧ Below w.heap.size w w' := by
  obtain ⟨HB, n0, n1⟩ := h
  have HB := Lib.hid HB
  obtain ⟨i0, hi, hz0, hz1, hz2⟩ := info_parts info3
  go_enter Try.func24, Try.ntmps24
  go_wp2_with fail
  refine (bound_yes _ _ HB.out).mono ?_
  rintro e w' ⟨rfl, rfl⟩
  go_wp2_with fail
  go_loopw [6, 0, 24] (fun o y i wr => LotsAt w x b n o y i wr) (fun _ _ i _ => (n - intOf i).toNat)
  case atStart => exact ⟨0, n0, rfl, rfl, World.ownsRow_nil _ _ _ _, Below.refl _ _⟩
  case round =>
    obtain ⟨k, hk, rfl, rfl, hown, be⟩ := hrel
    by_cases hlt : (k : Int) < n
    · go_wp2_with fail
      refine (lot_yes _ _ _ HB.out).mono ?_
      rintro e w' ⟨rfl, rfl⟩
      generalize hl : lotV (jmp x k) b = l
      have Hl := Lib.hid hl
      clear hl
      have hs := jmp_succ x k
      have Hs := Lib.hid hs
      clear hs
      have hlen : ((dr k x b).map (Value.int .i64)).length = k := by rw [List.length_map, dr_length]
      have Hlen := Lib.hid hlen
      clear hlen
      go_wp2_with (first | (at_builtin; refine wpList_append_own _ rfl _ _ 32 rfl w.heap.size 3 i0 (.int .i64 0) 1 8 Try.underlying32 hi hz0 hz1 hz2 rfl (by decide) _ _ _ rfl (hown.alloc _) ⟨wr.heap.size, 0, none⟩ 1 1 [.int .i64 l] rfl rfl ?c1 ?c2 ?c3 ?c4 ?c5 ?_))
      case c1 =>
        intro j u hj
        match j, hj with
        | 0, hj => simp at hj; subst hj; simp [Addr.add]
      case c2 => intro u hu; simp at hu; subst hu; rfl
      case c3 => unfold maxLen; omega
      case c4 => omega
      case c5 => have := be.size; simp; omega
      intro v' w1 hown' hgrow _
      have hb1 : Below w.heap.size w w1 := (be.alloc be.size _).grown hgrow (Nat.le_trans be.size (by simp)) (fun j hj => row_base hown j hj)
      have hrow : w1.ownsRow w.heap.size 3 1 v' (k + 1) ((dr (k + 1) x b).map (Value.int .i64)) := by
        rw [dr_snoc, List.map_append, Hl.out]
        exact hown'
      have HR := Lib.hid hrow
      have HB1 := Lib.hid hb1
      clear hown' hgrow hown be hrow hb1
      go_wp2_with fail
      go_roundw
      case rel => exact ⟨k + 1, by omega, by go_num, by rw [Hs.out]; go_num, HR.out, HB1.out⟩
      case measure => simp [intOf]; omega
    · have hkn : n = k := by omega
      subst hkn
      go_wp2_with fail
      go_ret3
      exact ⟨_, rfl, hown, be⟩
end Go.Proofs.Ytekbgfpfafjobaa.Lots
