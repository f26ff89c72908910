/- The plain laws of frames: what the printed functions come to, in lists and numbers; no program, no memory. -/
import Derived.Test.YtalghfnjelcpnaaDoorTa6
namespace Go.Proofs.YtalghfnjelcpnaaDoor.TaL
open Go.RowKit Go.Proofs.YtalghfnjelcpnaaDoor Go.Proofs.YtalghfnjelcpnaaDoor.Ta Go.Proofs.YtalghfnjelcpnaaDoorW.PrintWords Go.Proofs.YtalghfnjelcpnaaDoorW.PrintLast Go.Proofs.YtalghfnjelcpnaaDoorW.PrintMore

theorem w64 {x : Int} (h0 : -9223372036854775808 ≤ x) (h1 : x ≤ 9223372036854775807) : wrap64 x = x := by unfold wrap64; omega
theorem wu64 {x : Int} (h0 : 0 ≤ x) (h1 : x < 18446744073709551616) : IntKind.u64.wrap x = x := IntWalk.u64_in _ (by omega)

/-- Bytes. -/
def Bytes (l : List Int) : Prop := ∀ x ∈ l, 0 ≤ x ∧ x ≤ 255
theorem bytes_of_wf {l : List Int} (h : ∀ x ∈ l, (Lit.int .u8 x).wf = true) : Bytes l := by
  intro x hx
  have := bounds_u8 (h x hx)
  omega
theorem bytes_rd {l : List Int} (h : Bytes l) (i : Int) : 0 ≤ rd l i ∧ rd l i ≤ 255 := by
  unfold rd
  rcases Nat.lt_or_ge i.toNat l.length with hi | hi
  · rw [List.getD_eq_getElem?_getD, List.getElem?_eq_getElem hi]
    exact h _ (List.getElem_mem hi)
  · rw [List.getD_eq_getElem?_getD, List.getElem?_eq_none hi]
    exact ⟨by decide, by decide⟩

/-! ### Same -/
theorem same_go (a b : List Int) (hl : a.length = b.length) (hm : (a.length : Int) ≤ 9223372036854775800) (d : Nat) : ∀ (k i : Nat), i ≤ a.length → a.length - i = d → d < k →
    incognitoref01_Same.l0 k a b (i : Int) = some (decide (a.drop i = b.drop i)) := by
  induction d with
  | zero =>
    intro k i h0 h1 hk
    obtain ⟨k, rfl⟩ : ∃ m, k = m + 1 := ⟨k - 1, by omega⟩
    simp only [incognitoref01_Same.l0]
    rw [if_neg (by omega), List.drop_eq_nil_of_le (by omega), List.drop_eq_nil_of_le (by omega)]
    simp
  | succ d ih =>
    intro k i h0 h1 hk
    obtain ⟨k, rfl⟩ : ∃ m, k = m + 1 := ⟨k - 1, by omega⟩
    simp only [incognitoref01_Same.l0]
    have hi : i < a.length := by omega
    have hi' : i < b.length := by omega
    rw [if_pos (by omega), if_pos (by omega), if_pos (by omega)]
    have ea : rd a (i : Int) = a[i] := by unfold rd; simp [List.getD_eq_getElem?_getD, hi]
    have eb : rd b (i : Int) = b[i] := by unfold rd; simp [List.getD_eq_getElem?_getD, hi']
    rw [ea, eb, List.drop_eq_getElem_cons hi, List.drop_eq_getElem_cons hi']
    by_cases e : a[i] = b[i]
    · rw [if_pos e, w64 (by omega) (by omega), show (i : Int) + 1 = ((i + 1 : Nat) : Int) by omega, ih k (i + 1) (by omega) (by omega) (by omega), e]
      simp only [List.cons.injEq, true_and]
    · rw [if_neg e]
      simp only [List.cons.injEq, e, false_and, decide_false]
theorem same_ev (a b : List Int) (hm : (a.length : Int) ≤ 9223372036854775800) : ∀ k, a.length < k → incognitoref01_Same.f k a b = some (decide (a = b)) := by
  intro k hk
  unfold incognitoref01_Same.f
  by_cases e : a.length = b.length
  · rw [if_pos (by omega)]
    have := same_go a b e hm a.length k 0 (by omega) (by omega) hk
    simpa using this
  · rw [if_neg (by omega)]
    have : a ≠ b := fun h => e (by rw [h])
    simp [this]

/-! ### Big -/
def bigL (n : Int) : Nat → List Int
  | 0 => []
  | t + 1 => (n / 256 ^ t) % 256 :: bigL n t
theorem bigL_length (n : Int) (t : Nat) : (bigL n t).length = t := by induction t with
  | zero => rfl
  | succ t ih => simp [bigL, ih]
theorem set_rep (m : Nat) (v : Int) (r : List Int) : (List.replicate (m + 1) 0 ++ r).set m v = List.replicate m 0 ++ v :: r := by
  rw [List.replicate_succ', List.append_assoc, List.set_append_right _ _ (by simp)]
  simp
theorem div_pow_succ (n : Int) (t : Nat) : n / 256 ^ t / 256 = n / 256 ^ (t + 1) := by
  rw [Int.ediv_ediv_of_nonneg (Int.pow_nonneg (by decide)), ← Int.pow_succ]
theorem big_go (n : Int) (m : Nat) (hm : m ≤ 8) (d : Nat) : ∀ (k t : Nat), t ≤ m → m - t = d → d < k →
    hex_Big.l0 k (n / 256 ^ t) (List.replicate (m - t) 0 ++ bigL n t) ((m : Int) - t - 1) = some (bigL n m) := by
  induction d with
  | zero =>
    intro k t h0 h1 hk
    obtain ⟨k, rfl⟩ : ∃ m, k = m + 1 := ⟨k - 1, by omega⟩
    obtain rfl : t = m := by omega
    simp only [hex_Big.l0]
    rw [if_neg (by omega)]
    simp
  | succ d ih =>
    intro k t h0 h1 hk
    obtain ⟨k, rfl⟩ : ∃ m, k = m + 1 := ⟨k - 1, by omega⟩
    simp only [hex_Big.l0]
    rw [if_pos (by omega), if_pos (by omega), if_pos (by simp only [List.length_append, List.length_replicate, bigL_length]; omega), w64 (by omega) (by omega), div_pow_succ,
      show ((m : Int) - t - 1).toNat = m - (t + 1) by omega, show m - t = m - (t + 1) + 1 by omega, set_rep]
    have := ih k (t + 1) (by omega) (by omega) (by omega)
    rw [show (m : Int) - t - 1 - 1 = (m : Int) - ((t + 1 : Nat) : Int) - 1 by omega]
    exact this
theorem big_ev (n : Int) (s : Int) (h0 : -9223372036854775808 ≤ s) : ∀ k, 9 < k → hex_Big.f k n s = some (bigL n (min s.toNat 8)) := by
  intro k hk
  unfold hex_Big.f
  by_cases c : s < 1
  · rw [if_pos c, show s.toNat = 0 by omega]; rfl
  · rw [if_neg c]
    have e : mn s 8 = ((min s.toNat 8 : Nat) : Int) := by unfold mn; split <;> omega
    rw [e, if_pos (by omega), if_pos (by omega)]
    simp only [Option.bind_some, Int.toNat_natCast, List.length_replicate]
    rw [w64 (by omega) (by omega)]
    have := big_go n (min s.toNat 8) (by omega) (min s.toNat 8) k 0 (by omega) (by omega) (by omega)
    simpa [bigL] using this
def numL (l : List Int) : Int := l.foldl (fun n c => n * 256 + c) 0
theorem numL_snoc (l : List Int) (c : Int) : numL (l ++ [c]) = numL l * 256 + c := by simp [numL]
theorem bytes_snoc {l : List Int} {c : Int} (h : Bytes (l ++ [c])) : Bytes l ∧ 0 ≤ c ∧ c ≤ 255 := ⟨fun x hx => h x (by simp [hx]), h c (by simp)⟩
theorem numL_bd : ∀ (t : Nat) (l : List Int), l.length = t → Bytes l → 0 ≤ numL l ∧ numL l < 256 ^ t := by
  intro t
  induction t with
  | zero => intro l hl _; rw [List.length_eq_zero_iff.1 hl]; decide
  | succ t ih =>
    intro l hl hb
    rcases List.eq_nil_or_concat l with rfl | ⟨a, c, rfl⟩
    · simp at hl
    · rw [List.concat_eq_append] at hb hl ⊢
      obtain ⟨h1, h2, h3⟩ := bytes_snoc hb
      obtain ⟨h4, h5⟩ := ih a (by simpa using hl) h1
      rw [numL_snoc, Int.pow_succ]
      omega
theorem bigL_bytes (n : Int) (t : Nat) : Bytes (bigL n t) := by
  induction t with
  | zero => intro x hx; cases hx
  | succ t ih =>
    intro x hx
    rcases List.mem_cons.1 hx with rfl | hx
    · omega
    · exact ih x hx
theorem bigL_snoc (n : Int) (t : Nat) : bigL n (t + 1) = bigL (n / 256) t ++ [n % 256] := by
  induction t with
  | zero => simp [bigL]
  | succ t ih =>
    rw [bigL, ih, bigL]
    simp only [List.cons_append]
    rw [Int.ediv_ediv_of_nonneg (by decide), ← Int.pow_succ']
theorem num_big : ∀ (t : Nat) (n : Int), 0 ≤ n → n < 256 ^ t → numL (bigL n t) = n := by
  intro t
  induction t with
  | zero => intro n h0 h1; simp [bigL, numL] at *; omega
  | succ t ih =>
    intro n h0 h1
    rw [Int.pow_succ] at h1
    rw [bigL_snoc, numL_snoc, ih (n / 256) (by omega) (by omega)]
    omega
/-! ### Frames -/
/-- The frame of parts. -/
def fr (l : List (List Int)) : List Int := l.flatMap fun p => bigL p.length 8 ++ p
theorem fr_nil : fr [] = [] := rfl
theorem fr_cons (p : List Int) (l : List (List Int)) : fr (p :: l) = (bigL p.length 8 ++ p) ++ fr l := by simp [fr]
theorem fr_snoc (l : List (List Int)) (p : List Int) : fr (l ++ [p]) = fr l ++ (bigL p.length 8 ++ p) := by simp [fr]
theorem fr_take (l : List (List Int)) (i : Nat) (h : i < l.length) : fr (l.take (i + 1)) = fr (l.take i) ++ (bigL l[i].length 8 ++ l[i]) := by
  rw [List.take_succ_eq_append_getElem h, fr_snoc]
theorem fr_len (l : List (List Int)) (h : ∀ p ∈ l, p.length ≤ 200) : (fr l).length ≤ 208 * l.length := by
  induction l with
  | nil => simp [fr_nil]
  | cons p l ih =>
    have h1 := ih (fun q hq => h q (List.mem_cons_of_mem _ hq))
    have h2 := h p List.mem_cons_self
    rw [fr_cons]
    simp only [List.length_append, bigL_length, List.length_cons]
    omega
theorem rd_L (l : List (List Int)) (i : Nat) (h : i < l.length) : rd_L1 l (i : Int) = l[i] := by unfold rd_L1; simp [List.getD_eq_getElem?_getD, h]
theorem great_go (l : List (List Int)) (hm : (l.length : Int) ≤ 9223372036854775807) (d : Nat) : ∀ (k i : Nat), i ≤ l.length → l.length - i = d → d < k → (∀ j (h : j < l.length), j < i → l[j].length ≤ 200) →
    incognitolaw05_great.l0 k l l l.length i = some true ∨ (incognitolaw05_great.l0 k l l l.length i = some false ∧ (∀ p ∈ l, p.length ≤ 200) ∧ l.length ≤ 20) := by
  induction d with
  | zero =>
    intro k i h0 h1 hk hs
    obtain ⟨k, rfl⟩ : ∃ m, k = m + 1 := ⟨k - 1, by omega⟩
    simp only [incognitolaw05_great.l0]
    rw [if_neg (by omega)]
    by_cases c : l.length ≤ 20
    · right
      refine ⟨by simp; omega, fun p hp => ?_, c⟩
      obtain ⟨j, hj, rfl⟩ := List.mem_iff_getElem.1 hp
      exact hs j hj (by omega)
    · left; simp; omega
  | succ d ih =>
    intro k i h0 h1 hk hs
    obtain ⟨k, rfl⟩ : ∃ m, k = m + 1 := ⟨k - 1, by omega⟩
    simp only [incognitolaw05_great.l0]
    have hi : i < l.length := by omega
    rw [if_pos (by omega), if_pos (by omega), if_pos (by omega), rd_L l i hi]
    by_cases c : (l[i].length : Int) > 200
    · left; rw [if_pos c]
    · rw [if_neg c, w64 (by omega) (by omega), show (i : Int) + 1 = ((i + 1 : Nat) : Int) by omega]
      refine ih k (i + 1) (by omega) (by omega) (by omega) (fun j hj hji => ?_)
      rcases Nat.lt_or_ge j i with h2 | h2
      · exact hs j hj h2
      · obtain rfl : j = i := by omega
        omega
theorem great_ev (l : List (List Int)) (hm : (l.length : Int) ≤ 9223372036854775807) (k : Nat) (hk : l.length < k) :
    incognitolaw05_great.f k l = some true ∨ (incognitolaw05_great.f k l = some false ∧ (∀ p ∈ l, p.length ≤ 200) ∧ l.length ≤ 20) := by
  unfold incognitolaw05_great.f
  exact great_go l hm l.length k 0 (by omega) (by omega) hk (fun j _ h => by omega)
theorem frame_go (l : List (List Int)) (h : ∀ p ∈ l, p.length ≤ 200) (hl : l.length ≤ 600) (d : Nat) : ∀ (k i : Nat), i ≤ l.length → l.length - i = d → d + 10 < k →
    tag_Frame.l0 k (fr (l.take i)) l l.length i = some (fr l) := by
  induction d with
  | zero =>
    intro k i h0 h1 hk
    obtain ⟨k, rfl⟩ : ∃ m, k = m + 1 := ⟨k - 1, by omega⟩
    simp only [tag_Frame.l0]
    rw [if_neg (by omega), List.take_of_length_le (by omega)]
  | succ d ih =>
    intro k i h0 h1 hk
    obtain ⟨k, rfl⟩ : ∃ m, k = m + 1 := ⟨k - 1, by omega⟩
    simp only [tag_Frame.l0]
    have hi : i < l.length := by omega
    have hp : l[i].length ≤ 200 := h _ (List.getElem_mem hi)
    have hf : (fr (l.take i)).length ≤ 208 * i := by
      have := fr_len (l.take i) (fun p hp => h p (List.mem_of_mem_take hp))
      rw [List.length_take, Nat.min_eq_left h0] at this
      exact this
    rw [if_pos (by omega), if_pos (by omega), if_pos (by omega), rd_L l i hi, wu64 (by omega) (by omega), big_ev _ 8 (by omega) k (by omega)]
    simp only [Option.bind_some]
    rw [show min (8 : Int).toNat 8 = 8 from rfl, if_pos (by rw [bigL_length]; omega), if_pos (by rw [List.length_append, bigL_length]; omega), w64 (by omega) (by omega), show (i : Int) + 1 = ((i + 1 : Nat) : Int) by omega, List.append_assoc, ← fr_take l i hi]
    exact ih k (i + 1) (by omega) (by omega) (by omega)
theorem frame_ev (l : List (List Int)) (h : ∀ p ∈ l, p.length ≤ 200) (hl : l.length ≤ 600) (k : Nat) (hk : l.length + 10 < k) : tag_Frame.f k l = some (fr l) := by
  unfold tag_Frame.f
  exact frame_go l h hl l.length k 0 (by omega) (by omega) hk
theorem refsame_go (a b : List (List Int)) (hl : a.length = b.length) (hm : (a.length : Int) ≤ 9223372036854775800) (ha : ∀ p ∈ a, p.length ≤ 1000) (d : Nat) : ∀ (k i : Nat), i ≤ a.length → a.length - i = d → d + 1001 < k →
    incognitoref05_Same.l0 k a b (i : Int) = some (decide (a.drop i = b.drop i)) := by
  induction d with
  | zero =>
    intro k i h0 h1 hk
    obtain ⟨k, rfl⟩ : ∃ m, k = m + 1 := ⟨k - 1, by omega⟩
    simp only [incognitoref05_Same.l0]
    rw [if_neg (by omega), List.drop_eq_nil_of_le (by omega), List.drop_eq_nil_of_le (by omega)]
    simp
  | succ d ih =>
    intro k i h0 h1 hk
    obtain ⟨k, rfl⟩ : ∃ m, k = m + 1 := ⟨k - 1, by omega⟩
    simp only [incognitoref05_Same.l0]
    have hi : i < a.length := by omega
    have hi' : i < b.length := by omega
    have hp : a[i].length ≤ 1000 := ha _ (List.getElem_mem hi)
    rw [if_pos (by omega), if_pos (by omega), if_pos (by omega), rd_L a i hi, rd_L b i hi', same_ev _ _ (by omega) k (by omega)]
    simp only [Option.bind_some]
    rw [List.drop_eq_getElem_cons hi, List.drop_eq_getElem_cons hi']
    by_cases e : a[i] = b[i]
    · rw [if_pos (by simpa using e), w64 (by omega) (by omega), show (i : Int) + 1 = ((i + 1 : Nat) : Int) by omega, ih k (i + 1) (by omega) (by omega) (by omega), e]
      simp only [List.cons.injEq, true_and]
    · rw [if_neg (by simpa using e)]
      simp only [List.cons.injEq, e, false_and, decide_false]
theorem refsame_ev (a b : List (List Int)) (hm : (a.length : Int) ≤ 9223372036854775800) (ha : ∀ p ∈ a, p.length ≤ 1000) (k : Nat) (hk : a.length + 1001 < k) : incognitoref05_Same.f k a b = some (decide (a = b)) := by
  unfold incognitoref05_Same.f
  by_cases e : a.length = b.length
  · rw [if_pos (by omega)]
    have := refsame_go a b e hm ha a.length k 0 (by omega) (by omega) hk
    simpa using this
  · rw [if_neg (by omega)]
    have : a ≠ b := fun h => e (by rw [h])
    simp [this]
theorem fr_inj : ∀ a b : List (List Int), (∀ p ∈ a, p.length ≤ 1000) → (∀ p ∈ b, p.length ≤ 1000) → fr a = fr b → a = b
  | [], [], _, _, _ => rfl
  | [], q :: b, _, _, h => by
    have := congrArg List.length h
    rw [fr_cons, fr_nil] at this
    simp only [List.length_append, bigL_length, List.length_nil] at this
    omega
  | p :: a, [], _, _, h => by
    have := congrArg List.length h
    rw [fr_cons, fr_nil] at this
    simp only [List.length_append, bigL_length, List.length_nil] at this
    omega
  | p :: a, q :: b, ha, hb, h => by
    have hp := ha p List.mem_cons_self
    have hq := hb q List.mem_cons_self
    rw [fr_cons, fr_cons, List.append_assoc, List.append_assoc] at h
    obtain ⟨h1, h2⟩ := List.append_inj h (by rw [bigL_length, bigL_length])
    have h3 : (p.length : Int) = q.length := by
      have e1 := num_big 8 (p.length : Int) (by omega) (by omega)
      have e2 := num_big 8 (q.length : Int) (by omega) (by omega)
      rw [← e1, ← e2, h1]
    obtain ⟨h4, h5⟩ := List.append_inj h2 (by omega)
    rw [h4, fr_inj a b (fun r hr => ha r (List.mem_cons_of_mem _ hr)) (fun r hr => hb r (List.mem_cons_of_mem _ hr)) h5]

end Go.Proofs.YtalghfnjelcpnaaDoor.TaL
