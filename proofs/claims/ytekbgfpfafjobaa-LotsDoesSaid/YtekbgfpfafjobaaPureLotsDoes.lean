/- LotsDoes: any next one, any lot and any lots are the document's, or refused as it refuses them; no condition. -/
import Derived.Test.YtekbgfpfafjobaaPLotsDoesx2
import Derived.Laws.Bits64
import Derived.OpenShut
namespace Go.Proofs.Ytekbgfpfafjobaa.Pure
open Go.RowKit Go.Proofs.Ytekbgfpfafjobaa.PLotsDoes Go.Proofs.YtekbgfpfafjobaaW.PrintWords Go.Proofs.YtekbgfpfafjobaaW.PrintLast

def nx (x : Int) : Int := IntKind.u64.wrap ((IntKind.u64.wrap (x * 6364136223846793005)) + 1442695040888963407)
def lotF (x b : Int) : Int := wrap64 (Int.tmod (nx x / 8589934592) (IntKind.u64.wrap b))
def dr : Nat → Int → Int → List Int
  | 0, _, _ => []
  | d + 1, x, b => lotF x b :: dr d (nx x) b
def en : Nat → Int → Int
  | 0, x => x
  | d + 1, x => en d (nx x)

theorem nx_range (x : Int) : 0 ≤ nx x ∧ nx x ≤ 18446744073709551615 := by unfold nx; rw [IntKind.wrap_u64]; omega
theorem next_is (x : Int) : lots_Next.f x = some (nx x) := rfl
theorem next_ref (x : Int) : cuvetteref12_Next.f x = some (nx x) := rfl
theorem wrap_b (b : Int) (h0 : 1 ≤ b) (h1 : b ≤ 2147483648) : IntKind.u64.wrap b = b := by rw [IntKind.wrap_u64]; omega

theorem bound_yes (b : Int) (h0 : 1 ≤ b) (h1 : b ≤ 2147483648) : lots_bound.f b = some true := by
  unfold lots_bound.f
  rw [if_pos h0, decide_eq_true h1]
theorem bound_no (b : Int) (h : ¬ (1 ≤ b ∧ b ≤ 2147483648)) : lots_bound.f b = some false := by
  unfold lots_bound.f
  by_cases h0 : b ≥ 1
  · rw [if_pos h0, decide_eq_false (fun h1 => h ⟨h0, h1⟩)]
  · rw [if_neg h0]

theorem lot_yes (x b : Int) (h0 : 1 ≤ b) (h1 : b ≤ 2147483648) : lots_Lot.f x b = some (lotF x b, nx x, 0) := by
  unfold lots_Lot.f
  rw [bound_yes b h0 h1, next_is]
  simp only [Option.bind_some, if_true]
  rw [if_neg (by rw [wrap_b b h0 h1]; omega)]
  rfl
theorem lot_no (x b : Int) (h : ¬ (1 ≤ b ∧ b ≤ 2147483648)) : lots_Lot.f x b = some (0, 0, 1) := by
  unfold lots_Lot.f
  rw [bound_no b h]
  rfl
theorem ref_yes (x b : Int) (h0 : 1 ≤ b) (h1 : b ≤ 2147483648) : cuvetteref12_Lot.f x b = some (lotF x b, nx x, 0) := by
  unfold cuvetteref12_Lot.f
  have hr := nx_range x
  rw [if_neg (by omega), if_neg (by omega), next_ref]
  simp only [Option.bind_some]
  rw [if_neg (by rw [wrap_b b h0 h1]; omega)]
  unfold lotF
  rw [Int.tdiv_eq_ediv_of_nonneg hr.1, show IntKind.u64.wrap (nx x / 8589934592) = nx x / 8589934592 from by rw [IntKind.wrap_u64]; omega]
theorem ref_no (x b : Int) (h : ¬ (1 ≤ b ∧ b ≤ 2147483648)) : cuvetteref12_Lot.f x b = some (0, 0, 1) := by
  unfold cuvetteref12_Lot.f
  by_cases h0 : b < 1
  · rw [if_pos h0]
  · rw [if_neg h0, if_pos (by omega)]

theorem wrap_up (i : Int) (h0 : 0 ≤ i) (h1 : i ≤ 4096) : wrap64 (i + 1) = i + 1 := by
  unfold wrap64
  omega

theorem lots_loop (b : Int) (h0 : 1 ≤ b) (h1 : b ≤ 2147483648) (n : Int) (hn : n ≤ 4096) (d : Nat) : ∀ (k : Nat) (x : Int) (acc : List Int) (i : Int), 0 ≤ i → n - i = d → acc.length + d ≤ 4096 → d < k →
    lots_Lots.l0 k x b acc n i = some (acc ++ dr d x b, en d x, 0) := by
  induction d with
  | zero =>
    intro k x acc i hi hd hl hk
    obtain ⟨k, rfl⟩ : ∃ m, k = m + 1 := ⟨k - 1, by omega⟩
    simp only [lots_Lots.l0]
    rw [if_neg (by omega)]
    simp [dr, en]
  | succ d ih =>
    intro k x acc i hi hd hl hk
    obtain ⟨k, rfl⟩ : ∃ m, k = m + 1 := ⟨k - 1, by omega⟩
    simp only [lots_Lots.l0]
    rw [if_pos (by omega), lot_yes x b h0 h1]
    simp only [Option.bind_some, if_true]
    rw [if_pos (by omega), wrap_up i hi (by omega), ih k (nx x) (acc ++ [lotF x b]) (i + 1) (by omega) (by omega) (by simp; omega) (by omega)]
    simp [dr, en]
theorem ref_loop (b : Int) (h0 : 1 ≤ b) (h1 : b ≤ 2147483648) (n : Int) (hn : n ≤ 4096) (d : Nat) : ∀ (k : Nat) (x : Int) (acc : List Int) (i : Int), 0 ≤ i → n - i = d → acc.length + d ≤ 4096 → d < k →
    cuvetteref12_Lots.l0 k x b acc n i = some (acc ++ dr d x b, en d x, 0) := by
  induction d with
  | zero =>
    intro k x acc i hi hd hl hk
    obtain ⟨k, rfl⟩ : ∃ m, k = m + 1 := ⟨k - 1, by omega⟩
    simp only [cuvetteref12_Lots.l0]
    rw [if_neg (by omega)]
    simp [dr, en]
  | succ d ih =>
    intro k x acc i hi hd hl hk
    obtain ⟨k, rfl⟩ : ∃ m, k = m + 1 := ⟨k - 1, by omega⟩
    simp only [cuvetteref12_Lots.l0]
    rw [if_pos (by omega), ref_yes x b h0 h1]
    simp only [Option.bind_some]
    rw [if_pos (by omega), wrap_up i hi (by omega), ih k (nx x) (acc ++ [lotF x b]) (i + 1) (by omega) (by omega) (by simp; omega) (by omega)]
    simp [dr, en]

theorem lots_yes (x n b : Int) (h0 : 1 ≤ b) (h1 : b ≤ 2147483648) (n0 : 0 ≤ n) (n1 : n ≤ 4096) : lots_Lots.f 5000 x n b = some (dr n.toNat x b, en n.toNat x, 0) := by
  unfold lots_Lots.f
  rw [bound_yes b h0 h1]
  simp only [Option.bind_some, if_true]
  rw [if_neg (by omega), decide_eq_false (by omega)]
  simp only [lots_Lots.j0]
  rw [if_neg (by decide), lots_loop b h0 h1 n n1 n.toNat 4999 x [] 0 (by omega) (by omega) (by simp; omega) (by omega), List.nil_append]
theorem lots_no (x n b : Int) (h : ¬ (1 ≤ b ∧ b ≤ 2147483648 ∧ 0 ≤ n ∧ n ≤ 4096)) : lots_Lots.f 5000 x n b = some ([], 0, 1) := by
  unfold lots_Lots.f
  by_cases hb : 1 ≤ b ∧ b ≤ 2147483648
  · rw [bound_yes b hb.1 hb.2]
    simp only [Option.bind_some, if_true]
    by_cases hn : n < 0
    · rw [if_pos hn]; rfl
    · rw [if_neg hn, decide_eq_true (by omega)]; rfl
  · rw [bound_no b hb]; rfl
theorem refs_yes (x n b : Int) (h0 : 1 ≤ b) (h1 : b ≤ 2147483648) (n0 : 0 ≤ n) (n1 : n ≤ 4096) : cuvetteref12_Lots.f 5000 x n b = some (dr n.toNat x b, en n.toNat x, 0) := by
  unfold cuvetteref12_Lots.f
  rw [if_neg (by omega), if_neg (by omega), if_neg (by omega), decide_eq_false (by omega)]
  simp only [cuvetteref12_Lots.j0]
  rw [if_neg (by decide), ref_loop b h0 h1 n n1 n.toNat 4999 x [] 0 (by omega) (by omega) (by simp; omega) (by omega), List.nil_append]
theorem refs_no (x n b : Int) (h : ¬ (1 ≤ b ∧ b ≤ 2147483648 ∧ 0 ≤ n ∧ n ≤ 4096)) : cuvetteref12_Lots.f 5000 x n b = some ([], 0, 1) := by
  unfold cuvetteref12_Lots.f
  by_cases h1 : n < 0
  · rw [if_pos h1]; rfl
  by_cases h2 : n > 4096
  · rw [if_neg h1, if_pos h2]; rfl
  by_cases h3 : b < 1
  · rw [if_neg h1, if_neg h2, if_pos h3]; rfl
  · rw [if_neg h1, if_neg h2, if_neg h3, decide_eq_true (by omega)]; rfl

theorem dr_length (d : Nat) : ∀ (x b : Int), (dr d x b).length = d := by
  induction d with
  | zero => intro x b; rfl
  | succ d ih => intro x b; show (dr d (nx x) b).length + 1 = d + 1; rw [ih]

theorem same_loop (l : List Int) (hl : l.length ≤ 4096) (d : Nat) : ∀ (k : Nat) (i : Int), 0 ≤ i → (l.length : Int) - i = d → d < k → cuvetteref06_SameCounts.l0 k l l (l.length : Int) i = some true := by
  induction d with
  | zero =>
    intro k i hi hd hk
    obtain ⟨k, rfl⟩ : ∃ m, k = m + 1 := ⟨k - 1, by omega⟩
    simp only [cuvetteref06_SameCounts.l0]
    rw [if_neg (by omega)]
  | succ d ih =>
    intro k i hi hd hk
    obtain ⟨k, rfl⟩ : ∃ m, k = m + 1 := ⟨k - 1, by omega⟩
    simp only [cuvetteref06_SameCounts.l0]
    rw [if_pos (by omega), if_pos (by omega), if_pos (by omega), if_pos (by omega), if_pos trivial, wrap_up i hi (by omega)]
    exact ih k (i + 1) (by omega) (by omega) (by omega)
theorem same_self (l : List Int) (hl : l.length ≤ 4096) : cuvetteref06_SameCounts.f 5000 l l = some true := by
  unfold cuvetteref06_SameCounts.f
  rw [if_pos rfl]
  exact same_loop l hl l.length 5000 0 (by omega) (by omega) (by omega)

theorem live_is : cuvettelaw12_live.f = some true := rfl

theorem ends (x n b : Int) (t : Int × Int × Int) (u : List Int × Int × Int) (hu : u.1.length ≤ 4096) (e1 : lots_Lot.f x b = some t) (e2 : cuvetteref12_Lot.f x b = some t) (e3 : lots_Lots.f 5000 x n b = some u) (e4 : cuvetteref12_Lots.f 5000 x n b = some u) :
    cuvettelaw12_LotsDoes.f 5000 x n b = some true := by
  unfold cuvettelaw12_LotsDoes.f
  rw [live_is, e1, e2, e3, e4, next_is, next_ref]
  simp only [Option.bind_some, if_true]
  rw [same_self u.1 hu]
  simp

theorem LotsDoes : cuvettelaw12_LotsDoes.Pure := by
  intro x n b _ _ _
  refine ⟨5000, ?_⟩
  by_cases hb : 1 ≤ b ∧ b ≤ 2147483648
  · by_cases hn : 0 ≤ n ∧ n ≤ 4096
    · exact ends x n b _ _ (by show (dr n.toNat x b).length ≤ 4096; rw [dr_length]; omega) (lot_yes x b hb.1 hb.2) (ref_yes x b hb.1 hb.2) (lots_yes x n b hb.1 hb.2 hn.1 hn.2) (refs_yes x n b hb.1 hb.2 hn.1 hn.2)
    · exact ends x n b _ _ (by simp) (lot_yes x b hb.1 hb.2) (ref_yes x b hb.1 hb.2) (lots_no x n b (fun h => hn ⟨h.2.2.1, h.2.2.2⟩)) (refs_no x n b (fun h => hn ⟨h.2.2.1, h.2.2.2⟩))
  · exact ends x n b _ _ (by simp) (lot_no x b hb) (ref_no x b hb) (lots_no x n b (fun h => hb ⟨h.1, h.2.1⟩)) (refs_no x n b (fun h => hb ⟨h.1, h.2.1⟩))

end Go.Proofs.Ytekbgfpfafjobaa.Pure
