/- LotsOne: below 1 all lots are 0; a lot below a number is, below a divisor of that, its remainder; no condition beyond the law's own guards. -/
import Derived.Test.YtekbgfpfafjobaaPLotsOnex2
import Derived.Laws.Bits64
import Derived.OpenShut
namespace Go.Proofs.Ytekbgfpfafjobaa.Pure
open Go.RowKit Go.Proofs.Ytekbgfpfafjobaa.PLotsOne Go.Proofs.YtekbgfpfafjobaaW.PrintWords Go.Proofs.YtekbgfpfafjobaaW.PrintLast

def nx (x : Int) : Int := IntKind.u64.wrap ((IntKind.u64.wrap (x * 6364136223846793005)) + 1442695040888963407)
def lotF (x b : Int) : Int := wrap64 (Int.tmod (nx x / 8589934592) (IntKind.u64.wrap b))
def dr : Nat → Int → Int → List Int
  | 0, _, _ => []
  | d + 1, x, b => lotF x b :: dr d (nx x) b
def en : Nat → Int → Int
  | 0, x => x
  | d + 1, x => en d (nx x)

theorem nx_range (x : Int) : 0 ≤ nx x ∧ nx x ≤ 18446744073709551615 := by unfold nx; rw [IntKind.wrap_u64]; omega
theorem next_is (x : Int) : lots_Next.f x = some (nx x) := rfl
theorem wrap_b (b : Int) (h0 : 1 ≤ b) (h1 : b ≤ 2147483648) : IntKind.u64.wrap b = b := by rw [IntKind.wrap_u64]; omega
theorem bound_yes (b : Int) (h0 : 1 ≤ b) (h1 : b ≤ 2147483648) : lots_bound.f b = some true := by
  unfold lots_bound.f
  rw [if_pos h0, decide_eq_true h1]
theorem lot_yes (x b : Int) (h0 : 1 ≤ b) (h1 : b ≤ 2147483648) : lots_Lot.f x b = some (lotF x b, nx x, 0) := by
  unfold lots_Lot.f
  rw [bound_yes b h0 h1, next_is]
  simp only [Option.bind_some, if_true]
  rw [if_neg (by rw [wrap_b b h0 h1]; omega)]
  rfl
theorem wrap_up (i : Int) (h0 : 0 ≤ i) (h1 : i ≤ 4096) : wrap64 (i + 1) = i + 1 := by
  unfold wrap64
  omega
theorem lots_loop (b : Int) (h0 : 1 ≤ b) (h1 : b ≤ 2147483648) (n : Int) (hn : n ≤ 4096) (d : Nat) : ∀ (k : Nat) (x : Int) (acc : List Int) (i : Int), 0 ≤ i → n - i = d → acc.length + d ≤ 4096 → d < k →
    lots_Lots.l0 k x b acc n i = some (acc ++ dr d x b, en d x, 0) := by
  induction d with
  | zero =>
    intro k x acc i hi hd hl hk
    obtain ⟨k, rfl⟩ : ∃ m, k = m + 1 := ⟨k - 1, by omega⟩
    simp only [lots_Lots.l0]
    rw [if_neg (by omega)]
    simp [dr, en]
  | succ d ih =>
    intro k x acc i hi hd hl hk
    obtain ⟨k, rfl⟩ : ∃ m, k = m + 1 := ⟨k - 1, by omega⟩
    simp only [lots_Lots.l0]
    rw [if_pos (by omega), lot_yes x b h0 h1]
    simp only [Option.bind_some, if_true]
    rw [if_pos (by omega), wrap_up i hi (by omega), ih k (nx x) (acc ++ [lotF x b]) (i + 1) (by omega) (by omega) (by simp; omega) (by omega)]
    simp [dr, en]
theorem lots_yes (k : Nat) (hk : 4096 < k) (x n b : Int) (h0 : 1 ≤ b) (h1 : b ≤ 2147483648) (n0 : 0 ≤ n) (n1 : n ≤ 4096) : lots_Lots.f (k + 1) x n b = some (dr n.toNat x b, en n.toNat x, 0) := by
  unfold lots_Lots.f
  rw [bound_yes b h0 h1]
  simp only [Option.bind_some, if_true]
  rw [if_neg (by omega), decide_eq_false (by omega)]
  simp only [lots_Lots.j0]
  rw [if_neg (by decide), lots_loop b h0 h1 n n1 n.toNat k x [] 0 (by omega) (by omega) (by simp; omega) (by omega), List.nil_append]
theorem dr_length (d : Nat) : ∀ (x b : Int), (dr d x b).length = d := by
  induction d with
  | zero => intro x b; rfl
  | succ d ih => intro x b; show (dr d (nx x) b).length + 1 = d + 1; rw [ih]
theorem live_is : cuvettelaw12_live.f = some true := rfl

theorem lot_plain (x b : Int) (h0 : 1 ≤ b) (h1 : b ≤ 2147483648) : lotF x b = nx x / 8589934592 % b := by
  unfold lotF
  have hr := nx_range x
  rw [wrap_b b h0 h1, Int.tmod_eq_emod_of_nonneg (by omega)]
  have h2 := Int.emod_nonneg (nx x / 8589934592) (show b ≠ 0 from by omega)
  have h3 := Int.emod_lt_of_pos (nx x / 8589934592) (show 0 < b from by omega)
  unfold wrap64
  omega
theorem rd_cons (a : Int) (l : List Int) (i : Nat) : rd (a :: l) ((i : Int) + 1) = rd l (i : Int) := by
  unfold rd
  rw [show ((i : Int) + 1).toNat = i + 1 from by omega, show (i : Int).toNat = i from by omega]
  rfl
/-- What is drawn at a place, below a number. -/
def at_ : Nat → Int → Int
  | 0, x => nx x / 8589934592
  | i + 1, x => at_ i (nx x)
theorem rd_dr (i : Nat) : ∀ (d : Nat) (x b : Int), i < d → 1 ≤ b → b ≤ 2147483648 → rd (dr d x b) (i : Int) = at_ i x % b := by
  induction i with
  | zero =>
    intro d x b hd h0 h1
    obtain ⟨d, rfl⟩ : ∃ m, d = m + 1 := ⟨d - 1, by omega⟩
    show lotF x b = _
    rw [lot_plain x b h0 h1]; rfl
  | succ i ih =>
    intro d x b hd h0 h1
    obtain ⟨d, rfl⟩ : ∃ m, d = m + 1 := ⟨d - 1, by omega⟩
    show rd (lotF x b :: dr d (nx x) b) ((i + 1 : Nat) : Int) = _
    rw [show ((i + 1 : Nat) : Int) = (i : Int) + 1 from by omega, rd_cons, ih d (nx x) b (by omega) h0 h1]; rfl

theorem one_loop (x : Int) (n : Nat) (by_ t : Int) (hn : n ≤ 500) (a0 : 1 ≤ by_) (a1 : by_ ≤ 32768) (m1 : by_ * t ≤ 1073741824) (m0 : 1 ≤ by_ * t) (d : Nat) : ∀ (k : Nat) (i : Nat), (n : Int) - i = d → d < k →
    cuvettelaw12_LotsOne.l0 k by_ true (dr n x (by_ * t)) (dr n x by_) (dr n x 1) (n : Int) (i : Int) = some true := by
  induction d with
  | zero =>
    intro k i hd hk
    obtain ⟨k, rfl⟩ : ∃ m, k = m + 1 := ⟨k - 1, by omega⟩
    simp only [cuvettelaw12_LotsOne.l0]
    rw [if_neg (by omega)]
  | succ d ih =>
    intro k i hd hk
    obtain ⟨k, rfl⟩ : ∃ m, k = m + 1 := ⟨k - 1, by omega⟩
    have e1 := rd_dr i n x 1 (by omega) (by omega) (by omega)
    have e2 := rd_dr i n x by_ (by omega) (by omega) (by omega)
    have e3 := rd_dr i n x (by_ * t) (by omega) (by omega) (by omega)
    have z : at_ i x % 1 = 0 := by omega
    have hm : (at_ i x % (by_ * t)).tmod by_ = at_ i x % by_ := by
      rw [Int.tmod_eq_emod_of_nonneg (Int.emod_nonneg _ (by omega)), Int.emod_emod_of_dvd _ (Int.dvd_mul_right ..)]
    simp only [cuvettelaw12_LotsOne.l0, dr_length]
    rw [if_pos (by omega), if_pos (by omega), if_pos (by omega), e1, z, if_pos rfl, if_pos (by omega), if_pos (by omega), if_neg (by omega), e2, e3, hm, if_pos rfl, wrap_up i (by omega) (by omega), show ((i : Int) + 1) = ((i + 1 : Nat) : Int) from by omega]
    exact ih k (i + 1) (by omega) (by omega)

theorem out (k : Nat) (x n b t : Int) (u : Bool) : cuvettelaw12_LotsOne.j0 (k + 1) x n b t u true = some u := by
  simp only [cuvettelaw12_LotsOne.j0]
  rw [if_pos trivial]

theorem LotsOne : cuvettelaw12_LotsOne.Pure := by
  intro x n by_ t _ _ _ _
  obtain ⟨K, hK⟩ : ∃ K : Nat, 4096 < K := ⟨4097, by omega⟩
  refine ⟨K + 1 + 1, ?_⟩
  unfold cuvettelaw12_LotsOne.f
  rw [live_is]
  simp only [Option.bind_some, if_true]
  by_cases g1 : by_ < 1
  · rw [if_pos g1]; exact out _ _ _ _ _ _
  by_cases g2 : t < 1
  · rw [if_neg g1, if_pos g2]; exact out _ _ _ _ _ _
  by_cases g3 : by_ > 32768
  · rw [if_neg g1, if_neg g2, if_pos g3]; exact out _ _ _ _ _ _
  by_cases g4 : t > 32768
  · rw [if_neg g1, if_neg g2, if_neg g3, if_pos g4]; exact out _ _ _ _ _ _
  by_cases g5 : n < 0
  · rw [if_neg g1, if_neg g2, if_neg g3, if_neg g4, if_pos g5]; exact out _ _ _ _ _ _
  rw [if_neg g1, if_neg g2, if_neg g3, if_neg g4, if_neg g5]
  by_cases g6 : n > 500
  · rw [decide_eq_true g6]; exact out _ _ _ _ _ _
  rw [decide_eq_false g6]
  have m1 : by_ * t ≤ 32768 * 32768 := Int.mul_le_mul (by omega) (by omega) (by omega) (by omega)
  have m0 : 1 * 1 ≤ by_ * t := Int.mul_le_mul (by omega) (by omega) (by omega) (by omega)
  obtain ⟨n, rfl⟩ := Int.eq_ofNat_of_zero_le (show 0 ≤ n from by omega)
  simp only [cuvettelaw12_LotsOne.j0]
  rw [if_neg (by decide), show wrap64 (by_ * t) = by_ * t from by unfold wrap64; omega, lots_yes K hK x n (by_ * t) (by omega) (by omega) (by omega) (by omega), lots_yes K hK x n by_ (by omega) (by omega) (by omega) (by omega), lots_yes K hK x n 1 (by omega) (by omega) (by omega) (by omega)]
  simp only [Option.bind_some, if_true, dr_length, Int.toNat_natCast, bne_self_eq_false, cuvettelaw12_LotsOne.j1]
  exact one_loop x n by_ t (by omega) (by omega) (by omega) (by omega) (by omega) n K 0 (by omega) (by omega)

end Go.Proofs.Ytekbgfpfafjobaa.Pure
