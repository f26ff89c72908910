/- The plain laws of roots, second part: the reference's digits, products and comparisons are those of whole numbers; so Fits tells that a fraction is the root's. No program, no memory. -/
import Derived.Test.YtalghfnjelcpnaaPr
import Derived.Test.YtalghfnjelcpnaaPrimeR
namespace Go.Proofs.Ytalghfnjelcpnaa.PrimeR
open Go.RowKit Go.Proofs.Ytalghfnjelcpnaa.Pr Go.Proofs.YtalghfnjelcpnaaW.PrintWords Go.Proofs.YtalghfnjelcpnaaW.PrintLast Go.Proofs.YtalghfnjelcpnaaW.PrintMore

/-- (Not by rfl: else the kernel holds the two sides against each other by unfolding them.) -/
theorem bs {α β : Type} (a : α) (f : α → Option β) : (some a).bind f = f a := by rw [Option.bind_some]

/-! ### numbers as digits of base 256 -/
def Bytes (l : List Int) : Prop := ∀ x ∈ l, 0 ≤ x ∧ x ≤ 255
def dg (l : List Int) (i : Nat) : Int := l.getD i 0
/-- The number of the first n digits. -/
def vs (l : List Int) : Nat → Int
  | 0 => 0
  | n + 1 => vs l n + dg l n * 256 ^ n
theorem vs_zero (l : List Int) : vs l 0 = 0 := rfl
theorem vs_succ (l : List Int) (n : Nat) : vs l (n + 1) = vs l n + dg l n * 256 ^ n := rfl
attribute [irreducible] vs
theorem rd_dg (l : List Int) (i : Nat) : rd l (i : Int) = dg l i := by unfold rd dg; simp
theorem dg_bd {l : List Int} (h : Bytes l) (i : Nat) : 0 ≤ dg l i ∧ dg l i ≤ 255 := by
  unfold dg
  rcases Nat.lt_or_ge i l.length with hi | hi
  · rw [List.getD_eq_getElem?_getD, List.getElem?_eq_getElem hi]
    exact h _ (List.getElem_mem hi)
  · rw [List.getD_eq_getElem?_getD, List.getElem?_eq_none hi]
    exact ⟨by decide, by decide⟩
theorem dg_end (l : List Int) (i : Nat) (h : l.length ≤ i) : dg l i = 0 := by
  unfold dg; rw [List.getD_eq_getElem?_getD, List.getElem?_eq_none h]; rfl
theorem vs_end (l : List Int) (n : Nat) (h : l.length ≤ n) : vs l n = vs l l.length := by
  induction n with
  | zero => rw [show l.length = 0 by omega]
  | succ n ih =>
    by_cases e : l.length = n + 1
    · rw [e]
    · rw [vs_succ, dg_end l n (by omega), ih (by omega)]; omega
theorem vs_bd {l : List Int} (h : Bytes l) (n : Nat) : 0 ≤ vs l n ∧ vs l n < 256 ^ n := by
  induction n with
  | zero => exact ⟨by simp [vs_zero], by simp [vs_zero]⟩
  | succ n ih =>
    have hp : (0 : Int) < 256 ^ n := Int.pow_pos (by decide)
    obtain ⟨d0, d1⟩ := dg_bd h n
    have m0 : 0 ≤ dg l n * 256 ^ n := Int.mul_nonneg d0 (by omega)
    have m1 : dg l n * 256 ^ n ≤ 255 * 256 ^ n := Int.mul_le_mul_of_nonneg_right d1 (by omega)
    rw [vs_succ, Int.pow_succ]
    omega
theorem dg_set (l : List Int) (j : Nat) (v : Int) (i : Nat) (hj : j < l.length) : dg (l.set j v) i = if i = j then v else dg l i := by
  unfold dg
  by_cases e : i = j
  · subst e; rw [if_pos rfl, List.getD_eq_getElem?_getD, List.getElem?_set_self hj]; rfl
  · rw [if_neg e, List.getD_eq_getElem?_getD, List.getElem?_set_ne (Ne.symm e), List.getD_eq_getElem?_getD]
theorem vs_set (l : List Int) (j : Nat) (v : Int) (hj : j < l.length) (n : Nat) : vs (l.set j v) n = vs l n + if j < n then (v - dg l j) * 256 ^ j else 0 := by
  induction n with
  | zero => rw [if_neg (by omega), vs_zero, vs_zero]; rfl
  | succ n ih =>
    rw [vs_succ, vs_succ, ih, dg_set l j v n hj]
    by_cases e : n = j
    · subst e
      rw [if_pos rfl, if_neg (by omega), if_pos (by omega), Int.sub_mul]
      omega
    · rw [if_neg e]
      by_cases c : j < n
      · rw [if_pos c, if_pos (by omega)]; omega
      · rw [if_neg c, if_neg (by omega)]; omega
theorem bytes_set {l : List Int} (h : Bytes l) (j : Nat) (v : Int) (hv : 0 ≤ v ∧ v ≤ 255) : Bytes (l.set j v) := by
  intro x hx
  rcases List.mem_or_eq_of_mem_set hx with h1 | rfl
  · exact h x h1
  · exact hv
theorem vs_append (a : List Int) (x : Int) (n : Nat) : vs (a ++ [x]) n = vs a n + if a.length < n then x * 256 ^ a.length else 0 := by
  have hd : ∀ i, dg (a ++ [x]) i = if i = a.length then x else dg a i := by
    intro i
    unfold dg
    rcases Nat.lt_trichotomy i a.length with h | h | h
    · rw [if_neg (by omega), List.getD_eq_getElem?_getD, List.getElem?_append_left h, List.getD_eq_getElem?_getD]
    · subst h; rw [if_pos rfl, List.getD_eq_getElem?_getD, List.getElem?_append_right (Nat.le_refl _)]; simp
    · rw [if_neg (by omega), List.getD_eq_getElem?_getD, List.getElem?_eq_none (by simp; omega), List.getD_eq_getElem?_getD, List.getElem?_eq_none (by omega)]
  induction n with
  | zero => rw [if_neg (by omega), vs_zero, vs_zero]; rfl
  | succ n ih =>
    rw [vs_succ, vs_succ, ih, hd]
    by_cases e : n = a.length
    · subst e; rw [if_pos rfl, if_neg (by omega), if_pos (by omega), dg_end a _ (Nat.le_refl _)]; omega
    · rw [if_neg e]
      by_cases c : a.length < n
      · rw [if_pos c, if_pos (by omega)]; omega
      · rw [if_neg c, if_neg (by omega)]; omega
theorem vs_cons (a : Int) (l : List Int) (n : Nat) : vs (a :: l) (n + 1) = a + 256 * vs l n := by
  induction n with
  | zero => rw [vs_succ, vs_zero, vs_zero]; simp [dg]
  | succ n ih =>
    rw [vs_succ, ih, vs_succ]
    have : dg (a :: l) (n + 1) = dg l n := by simp [dg]
    rw [this, Int.pow_succ, Int.mul_add, Int.mul_comm (256 ^ n) 256, ← Int.mul_assoc, Int.mul_comm (dg l n) 256, Int.mul_assoc]
    omega
def val (l : List Int) : Int := vs l l.length

/-! ### digits -/
theorem digits_go (n : Int) (t : Nat) : ∀ (k : Nat) (x : Int) (l : List Int), t < k → 0 ≤ x → x < 256 ^ t → x < 18446744073709551616 → Bytes l → l.length + t ≤ 9 → val l + x * 256 ^ l.length = n →
    ∃ r, incognitoref02_digits.l0 k x l = some r ∧ val r = n ∧ Bytes r ∧ r.length ≤ 9 := by
  induction t with
  | zero =>
    intro k x l hk h0 h1 h2 hb hl hv
    obtain ⟨k, rfl⟩ : ∃ m, k = m + 1 := ⟨k - 1, by omega⟩
    obtain rfl : x = 0 := by simp at h1; omega
    refine ⟨l, ?_, by omega, hb, by omega⟩
    simp only [incognitoref02_digits.l0]
    rw [if_neg (by decide)]
  | succ t ih =>
    intro k x l hk h0 h1 h2 hb hl hv
    obtain ⟨k, rfl⟩ : ∃ m, k = m + 1 := ⟨k - 1, by omega⟩
    simp only [incognitoref02_digits.l0]
    by_cases c : x > 0
    · rw [Int.pow_succ] at h1
      rw [if_pos c, if_pos (by omega), Int.tdiv_eq_ediv_of_nonneg h0, Int.tmod_eq_emod_of_nonneg h0, wu64 (by omega) (by omega), w64 (by omega) (by omega)]
      refine ih k (x / 256) (l ++ [x % 256]) (by omega) (by omega) (by omega) (by omega) ?_ (by simp; omega) ?_
      · intro y hy
        rcases List.mem_append.1 hy with h | h
        · exact hb y h
        · simp at h; omega
      · unfold val at *
        rw [List.length_append, vs_append, if_pos (by simp), vs_end l _ (by simp), Int.pow_add, ← hv]
        simp only [List.length_cons, List.length_nil, Nat.zero_add, Int.pow_one]
        have e : x = x / 256 * 256 + x % 256 := by omega
        have e3 : x * 256 ^ l.length = x / 256 * (256 ^ l.length * 256) + x % 256 * 256 ^ l.length := by
          rw [Int.mul_comm (256 ^ l.length) 256, ← Int.mul_assoc, ← Int.add_mul, ← e]
        omega
    · obtain rfl : x = 0 := by omega
      rw [if_neg (by decide)]
      exact ⟨l, rfl, by omega, hb, by omega⟩
theorem digits_val (n : Int) (h0 : 0 ≤ n) (h1 : n < 18446744073709551616) : ∀ k, 9 < k → ∃ r, incognitoref02_digits.f k n = some r ∧ val r = n ∧ Bytes r ∧ r.length ≤ 9 := by
  intro k hk
  unfold incognitoref02_digits.f
  exact digits_go n 8 k n [] (by omega) h0 (by omega) h1 (fun x hx => by cases hx) (by simp) (by simp [val, vs_zero])

/-! ### products -/
theorem carry (x P : Int) : x / 256 * (P * 256) = (x - x % 256) * P := by
  rw [Int.mul_comm P 256, ← Int.mul_assoc, show x / 256 * 256 = x - x % 256 by omega]
theorem inner_go (a b : List Int) (ha : Bytes a) (hb : Bytes b) (hla : a.length ≤ 100) (hlb : b.length ≤ 100) (i : Nat) (hi : i < a.length) (V : Int) (d : Nat) :
    ∀ (k j : Nat) (out : List Int) (over : Int), j ≤ b.length → b.length - j = d → d < k → out.length = a.length + b.length → Bytes out → 0 ≤ over → over ≤ 255 →
    (∀ m, i + b.length ≤ m → dg out m = 0) → vs out (a.length + b.length) + over * 256 ^ (i + j) = V + dg a i * vs b j * 256 ^ i →
    ∃ out2 : List Int, out2.length = a.length + b.length ∧ Bytes out2 ∧ (∀ m, i + 1 + b.length ≤ m → dg out2 m = 0) ∧ vs out2 (a.length + b.length) = V + dg a i * vs b b.length * 256 ^ i ∧
      incognitoref02_times.l1 k a b out (i : Int) over (j : Int) = incognitoref02_times.l0 (k - d - 1) a b out2 ((i + 1 : Nat) : Int) := by
  induction d with
  | zero =>
    intro k j out over hj hd hk hlen hbo o0 o1 hz hv
    obtain ⟨k, rfl⟩ : ∃ m, k = m + 1 := ⟨k - 1, by omega⟩
    have Hv := Aside0.mk hv
    clear hv
    obtain rfl : j = b.length := by omega
    have hz0 := hz (i + b.length) (Nat.le_refl _)
    refine ⟨out.set (i + b.length) over, by simpa using hlen, bytes_set hbo _ _ ⟨o0, o1⟩, ?_, ?_, ?_⟩
    · intro m hm
      rw [dg_set _ _ _ _ (by omega), if_neg (by omega)]
      exact hz m (by omega)
    · rw [vs_set _ _ _ (by omega), if_pos (by omega), hz0, ← Hv.out]
      simp
    · simp only [incognitoref02_times.l1]
      have e1 : wrap64 ((i : Int) + (b.length : Int)) = ((i + b.length : Nat) : Int) := by rw [w64 (by omega) (by omega)]; omega
      rw [if_neg (by omega), e1, if_pos (by omega), if_pos (by omega), rd_dg, hz0, w64 (by omega) (by omega), w64 (by omega) (by omega), Int.toNat_natCast, Int.zero_add]
      rfl
  | succ d ih =>
    intro k j out over hj hd hk hlen hbo o0 o1 hz hv
    have Hv := Aside0.mk hv
    clear hv
    obtain ⟨k, rfl⟩ : ∃ m, k = m + 1 := ⟨k - 1, by omega⟩
    obtain ⟨a0, a1⟩ := dg_bd ha i
    obtain ⟨b0, b1⟩ := dg_bd hb j
    obtain ⟨c0, c1⟩ := dg_bd hbo (i + j)
    have m0 : 0 ≤ dg a i * dg b j := Int.mul_nonneg a0 b0
    have m1 : dg a i * dg b j ≤ 255 * 255 := Int.mul_le_mul a1 b1 b0 (by omega)
    obtain ⟨x, hx⟩ : ∃ x, dg out (i + j) + dg a i * dg b j + over = x := ⟨_, rfl⟩
    have f1 : (j : Int) < (b.length : Int) := by omega
    have f2 : (0 : Int) ≤ ((i + j : Nat) : Int) := by omega
    have f3 : ((i + j : Nat) : Int) < (out.length : Int) := by omega
    have f4 : (0 : Int) ≤ (i : Int) := by omega
    have f5 : (i : Int) < (a.length : Int) := by omega
    have f6 : (0 : Int) ≤ (j : Int) := by omega
    have e1 := Aside0.mk (show wrap64 ((i : Int) + (j : Int)) = ((i + j : Nat) : Int) by rw [w64 (by omega) (by omega)]; omega)
    have x0 : 0 ≤ x := by omega
    have x1 : x ≤ 70000 := by omega
    have g1 := Aside0.mk (w64 (x := dg a i * dg b j) (by omega) (by omega))
    have g2 := Aside0.mk (w64 (x := dg out (i + j) + dg a i * dg b j) (by omega) (by omega))
    have g3 := Aside0.mk (w64 (x := x) (by omega) (by omega))
    have g4 := Aside0.mk (Int.tmod_eq_emod_of_nonneg (b := 256) x0)
    have g5 := Aside0.mk (Int.tdiv_eq_ediv_of_nonneg (b := 256) x0)
    have g6 := Aside0.mk (w64 (x := x / 256) (by omega) (by omega))
    have g7 := Aside0.mk (w64 (x := (j : Int) + 1) (by omega) (by omega))
    have g8 : (j : Int) + 1 = ((j + 1 : Nat) : Int) := by omega
    have g9 : k + 1 - (d + 1) - 1 = k - d - 1 := by omega
    have hIH := ih k (j + 1) (out.set (i + j) (x % 256)) (x / 256) (by omega) (by omega) (by omega) (by simpa using hlen) (bytes_set hbo _ _ (by omega)) (by omega) (by omega)
      (fun m hm => by rw [dg_set _ _ _ _ (by omega), if_neg (by omega)]; exact hz m hm)
      (by
        rw [vs_set _ _ _ (by omega), if_pos (by omega), vs_succ, Int.mul_add, Int.add_mul]
        have e1 : dg a i * (dg b j * 256 ^ j) * 256 ^ i = dg a i * dg b j * 256 ^ (i + j) := by
          rw [Int.pow_add, ← Int.mul_assoc, Int.mul_assoc, Int.mul_comm (256 ^ j) (256 ^ i)]
        have e2 : (256 : Int) ^ (i + (j + 1)) = 256 ^ (i + j) * 256 := by rw [← Int.pow_succ]; rfl
        have hv := Hv.out
        rw [e1, e2]
        clear e1 e2
        generalize hP : (256 : Int) ^ (i + j) = Pq at hv ⊢
        clear hP
        have e3 := carry x Pq
        rw [e3, Int.sub_mul, Int.sub_mul, ← hx, Int.add_mul, Int.add_mul]
        omega)
    obtain ⟨out2, q1, q2, q3, q4, q5⟩ := hIH
    refine ⟨out2, q1, q2, q3, q4, ?_⟩
    clear q4
    simp only [incognitoref02_times.l1]
    rw [if_pos f1, e1.out, if_pos f2, if_pos f3, if_pos f4, if_pos f5, if_pos f6, rd_dg, rd_dg, rd_dg, g1.out, g2.out, hx, g3.out, g4.out, g5.out, g6.out, g7.out, Int.toNat_natCast, g8, q5, g9]
theorem times_go (a b : List Int) (ha : Bytes a) (hb : Bytes b) (hla : a.length ≤ 100) (hlb : b.length ≤ 100) (d : Nat) :
    ∀ (k i : Nat) (out : List Int), i ≤ a.length → a.length - i = d → (d + 1) * (b.length + 3) < k → out.length = a.length + b.length → Bytes out → (∀ m, i + b.length ≤ m → dg out m = 0) → vs out (a.length + b.length) = vs a i * vs b b.length →
    ∃ r, incognitoref02_times.l0 k a b out (i : Int) = some r ∧ r.length = a.length + b.length ∧ Bytes r ∧ vs r (a.length + b.length) = vs a a.length * vs b b.length := by
  induction d with
  | zero =>
    intro k i out hi hd hk hlen hbo hz hv
    obtain ⟨k, rfl⟩ : ∃ m, k = m + 1 := ⟨k - 1, by omega⟩
    obtain rfl : i = a.length := by omega
    refine ⟨out, ?_, hlen, hbo, hv⟩
    simp only [incognitoref02_times.l0]
    rw [if_neg (by omega)]
  | succ d ih =>
    intro k i out hi hd hk hlen hbo hz hv
    obtain ⟨k, rfl⟩ : ∃ m, k = m + 1 := ⟨k - 1, by omega⟩
    have hk2 : (d + 1 + 1) * (b.length + 3) = (d + 1) * (b.length + 3) + (b.length + 3) := by rw [Nat.add_mul, Nat.one_mul]
    obtain ⟨out2, q1, q2, q3, q4, q5⟩ := inner_go a b ha hb hla hlb i (by omega) (vs out (a.length + b.length)) b.length k 0 out 0 (by omega) (by omega) (by omega) hlen hbo (by decide) (by decide) hz (by simp [vs_zero])
    have Q4 := Aside0.mk q4
    clear q4
    obtain ⟨r, r1, r2, r3, r4⟩ := ih (k - b.length - 1) (i + 1) out2 (by omega) (by omega) (by omega) q1 q2 q3 (by
      rw [Q4.out, hv, vs_succ, Int.add_mul]
      rw [Int.mul_assoc (dg a i) (256 ^ i) _, Int.mul_comm (256 ^ i) (vs b b.length), ← Int.mul_assoc])
    refine ⟨r, ?_, r2, r3, r4⟩
    simp only [incognitoref02_times.l0]
    rw [if_pos (by omega)]
    have q5' : incognitoref02_times.l1 k a b out (i : Int) 0 0 = incognitoref02_times.l0 (k - b.length - 1) a b out2 ((i + 1 : Nat) : Int) := by simpa using q5
    rw [q5', r1]
theorem times_val (a b : List Int) (ha : Bytes a) (hb : Bytes b) (hla : a.length ≤ 100) (hlb : b.length ≤ 100) : ∀ k, 11000 < k →
    ∃ r, incognitoref02_times.f k a b = some r ∧ r.length = a.length + b.length ∧ Bytes r ∧ val r = val a * val b := by
  intro k hk
  unfold incognitoref02_times.f
  have e1 : wrap64 ((a.length : Int) + (b.length : Int)) = ((a.length + b.length : Nat) : Int) := by rw [w64 (by omega) (by omega)]; omega
  rw [e1, if_pos (by omega), Int.toNat_natCast, if_pos (by omega)]
  have hdz : ∀ m, dg (List.replicate (a.length + b.length) (0 : Int)) m = 0 := by
    intro m
    unfold dg
    rw [List.getD_eq_getElem?_getD, List.getElem?_replicate]
    split <;> rfl
  have hvz : ∀ n, vs (List.replicate (a.length + b.length) (0 : Int)) n = 0 := by
    intro n
    induction n with
    | zero => exact vs_zero _
    | succ n ih => rw [vs_succ, ih, hdz]; omega
  have hle : (a.length + 1) * (b.length + 3) ≤ 101 * 103 := Nat.mul_le_mul (by omega) (by omega)
  obtain ⟨r, r1, r2, r3, r4⟩ := times_go a b ha hb hla hlb a.length k 0 (List.replicate (a.length + b.length) 0) (by omega) (by omega) (by omega) (by simp) (fun x hx => by rw [List.eq_of_mem_replicate hx]; exact ⟨by decide, by decide⟩) (fun m _ => hdz m) (by rw [hvz]; simp [vs_zero])
  refine ⟨r, by simpa using r1, r2, r3, ?_⟩
  unfold val
  rw [r2, r4]

/-! ### comparison -/
theorem at_val (l : List Int) (i : Nat) : incognitoref02_at.f l (i : Int) = some (dg l i) := by
  unfold incognitoref02_at.f
  by_cases c : (i : Int) < (l.length : Int)
  · rw [if_pos c, if_pos (by omega), rd_dg]
  · rw [if_neg c, dg_end l i (by omega)]
theorem most_go (a b : List Int) (ha : Bytes a) (hb : Bytes b) (n : Nat) : ∀ k, n < k → n ≤ 100000 → incognitoref02_most.l0 k a b ((n : Int) - 1) = some (decide (vs a n ≤ vs b n)) := by
  induction n with
  | zero =>
    intro k hk _
    obtain ⟨k, rfl⟩ : ∃ m, k = m + 1 := ⟨k - 1, by omega⟩
    simp only [incognitoref02_most.l0]
    rw [if_neg (by omega), vs_zero, vs_zero]
    rfl
  | succ n ih =>
    intro k hk hn
    obtain ⟨k, rfl⟩ : ∃ m, k = m + 1 := ⟨k - 1, by omega⟩
    simp only [incognitoref02_most.l0]
    rw [if_pos (by omega), show ((n + 1 : Nat) : Int) - 1 = (n : Int) by omega, at_val, at_val]
    simp only [bs]
    have hp : (0 : Int) < 256 ^ n := Int.pow_pos (by decide)
    obtain ⟨p0, p1⟩ := vs_bd ha n
    obtain ⟨q0, q1⟩ := vs_bd hb n
    by_cases c : dg a n = dg b n
    · rw [if_pos c, w64 (by omega) (by omega), ih k (by omega) (by omega), vs_succ, vs_succ, c]
      congr 1
      exact decide_eq_decide.2 (by omega)
    · rw [if_neg c, vs_succ, vs_succ]
      congr 1
      refine decide_eq_decide.2 ⟨fun h => ?_, fun h => ?_⟩
      · have : dg a n * 256 ^ n + 256 ^ n ≤ dg b n * 256 ^ n := by
          have := Int.mul_le_mul_of_nonneg_right (show dg a n + 1 ≤ dg b n by omega) (show (0 : Int) ≤ 256 ^ n by omega)
          rw [Int.add_mul, Int.one_mul] at this
          exact this
        omega
      · rcases Int.lt_or_lt_of_ne c with h2 | h2
        · exact h2
        · have : dg b n * 256 ^ n + 256 ^ n ≤ dg a n * 256 ^ n := by
            have := Int.mul_le_mul_of_nonneg_right (show dg b n + 1 ≤ dg a n by omega) (show (0 : Int) ≤ 256 ^ n by omega)
            rw [Int.add_mul, Int.one_mul] at this
            exact this
          omega
theorem most_val (a b : List Int) (ha : Bytes a) (hb : Bytes b) (hla : a.length ≤ 1000) (hlb : b.length ≤ 1000) : ∀ k, 2002 < k → incognitoref02_most.f k a b = some (decide (val a ≤ val b)) := by
  intro k hk
  unfold incognitoref02_most.f
  have h := most_go a b ha hb (a.length + b.length + 1) k (by omega) (by omega)
  rw [vs_end a _ (by omega), vs_end b _ (by omega)] at h
  rw [w64 (by omega) (by omega)]
  rw [show (a.length : Int) + (b.length : Int) = ((a.length + b.length + 1 : Nat) : Int) - 1 by omega]
  exact h

/-! ### powers, and Fits -/
theorem power_val (r kk : Int) (hk : kk = 2 ∨ kk = 3) (h0 : 0 ≤ r) (h1 : r < 18446744073709551616) : ∀ k, 11000 < k → ∃ l, incognitoref02_power.f k r kk = some l ∧ val l = pw kk r ∧ Bytes l ∧ l.length ≤ 27 := by
  intro k hlt
  obtain ⟨d, d1, d2, d3, d4⟩ := digits_val r h0 h1 k (by omega)
  obtain ⟨s, s1, s2, s3, s4⟩ := times_val d d d3 d3 (by omega) (by omega) k hlt
  unfold incognitoref02_power.f
  rw [d1]
  simp only [bs]
  rw [s1]
  simp only [bs]
  rcases hk with rfl | rfl
  · rw [if_neg (by decide)]
    exact ⟨s, rfl, by rw [s4, d2]; unfold pw; rw [if_pos rfl], s3, by omega⟩
  · obtain ⟨c, c1, c2, c3, c4⟩ := times_val s d s3 d3 (by omega) (by omega) k hlt
    rw [if_pos rfl, c1]
    exact ⟨c, rfl, by rw [c4, s4, d2]; unfold pw; rw [if_neg (by decide)], c3, by omega⟩
theorem val_zero (l : List Int) : val (0 :: l) = 256 * val l := by
  unfold val
  rw [List.length_cons, vs_cons]; omega
theorem goal_go (kk f : Int) (hk : kk = 2 ∨ kk = 3) (d : Nat) : ∀ (k i : Nat) (l : List Int), (i : Int) ≤ 4 * kk → 4 * kk - (i : Int) = d → d < k → Bytes l → l.length ≤ 9 + i →
    ∃ l2, incognitoref02_Fits.l0 k kk f l (i : Int) = incognitoref02_Fits.l1 (k - d - 1) kk f l2 0 ∧ val l2 = val l * 256 ^ d ∧ Bytes l2 ∧ l2.length ≤ 21 := by
  induction d with
  | zero =>
    intro k i l hi hd hlt hb hl
    obtain ⟨k, rfl⟩ : ∃ m, k = m + 1 := ⟨k - 1, by omega⟩
    refine ⟨l, ?_, by simp, hb, by omega⟩
    simp only [incognitoref02_Fits.l0]
    rw [w64 (by omega) (by omega), if_neg (by omega)]
    rfl
  | succ d ih =>
    intro k i l hi hd hlt hb hl
    obtain ⟨k, rfl⟩ : ∃ m, k = m + 1 := ⟨k - 1, by omega⟩
    obtain ⟨l2, q1, q2, q3, q4⟩ := ih k (i + 1) (0 :: l) (by omega) (by omega) (by omega) (fun x hx => by
      rcases List.mem_cons.1 hx with rfl | h
      · exact ⟨by decide, by decide⟩
      · exact hb x h) (by simp; omega)
    refine ⟨l2, ?_, by rw [q2, val_zero, Int.pow_succ, Int.mul_comm 256 (val l), Int.mul_assoc, Int.mul_comm 256 (256 ^ d)], q3, q4⟩
    simp only [incognitoref02_Fits.l0]
    rw [w64 (x := 4 * kk) (by omega) (by omega), if_pos (by omega)]
    simp only [bs]
    rw [if_pos (by simp; omega), w64 (by omega) (by omega), show (i : Int) + 1 = ((i + 1 : Nat) : Int) by omega, show k + 1 - (d + 1) - 1 = k - d - 1 by omega]
    exact q1
theorem fits_go (kk p : Int) (hk : kk = 2 ∨ kk = 3) (r : Nat) (hr : r < 137438953472) (hlo : pw kk r ≤ goal p kk) (hhi : goal p kk < pw kk ((r : Int) + 1)) (l : List Int) (hb : Bytes l) (hl : l.length ≤ 21) (hv : val l = goal p kk) (d : Nat) :
    ∀ (k w : Nat), w ≤ r / 4294967296 → r / 4294967296 - w = d → 11100 + d < k → incognitoref02_Fits.l1 k kk ((r : Int) % 4294967296) l (w : Int) = some true := by
  induction d with
  | zero =>
    intro k w hw hd hlt
    obtain ⟨k, rfl⟩ : ∃ m, k = m + 1 := ⟨k - 1, by omega⟩
    simp only [incognitoref02_Fits.l1]
    obtain ⟨m1, a1, a2, a3, a4⟩ := power_val (((w : Int) + 1) * 4294967296) kk hk (by omega) (by omega) k (by omega)
    obtain ⟨m2, b1, b2, b3, b4⟩ := power_val (r : Int) kk hk (by omega) (by omega) k (by omega)
    obtain ⟨m3, c1, c2, c3, c4⟩ := power_val ((r : Int) + 1) kk hk (by omega) (by omega) k (by omega)
    have hbig : goal p kk < pw kk (((w : Int) + 1) * 4294967296) := by
      have := pw_mono kk ((r : Int) + 1) (((w : Int) + 1) * 4294967296) (by omega) (by omega)
      omega
    rw [wu64 (x := (w : Int) + 1) (by omega) (by omega), wu64 (x := ((w : Int) + 1) * 4294967296) (by omega) (by omega), a1]
    simp only [bs]
    rw [most_val _ _ a3 hb (by omega) (by omega) k (by omega), a2, hv, decide_eq_false (by omega)]
    simp only [bs, Bool.false_eq_true, if_false]
    rw [wu64 (x := (w : Int) * 4294967296) (by omega) (by omega), wu64 (x := (r : Int) % 4294967296) (by omega) (by omega), show (w : Int) * 4294967296 + (r : Int) % 4294967296 = (r : Int) by omega, wu64 (x := (r : Int)) (by omega) (by omega), b1]
    simp only [bs]
    rw [most_val _ _ b3 hb (by omega) (by omega) k (by omega), b2, hv, decide_eq_true hlo]
    simp only [bs, if_true]
    rw [wu64 (by omega) (by omega), c1]
    simp only [bs]
    rw [most_val _ _ c3 hb (by omega) (by omega) k (by omega), c2, hv, decide_eq_false (by omega)]
    rfl
  | succ d ih =>
    intro k w hw hd hlt
    obtain ⟨k, rfl⟩ : ∃ m, k = m + 1 := ⟨k - 1, by omega⟩
    simp only [incognitoref02_Fits.l1]
    obtain ⟨m1, a1, a2, a3, a4⟩ := power_val (((w : Int) + 1) * 4294967296) kk hk (by omega) (by omega) k (by omega)
    have hsm : pw kk (((w : Int) + 1) * 4294967296) ≤ goal p kk := by
      have := pw_mono kk (((w : Int) + 1) * 4294967296) (r : Int) (by omega) (by omega)
      omega
    rw [wu64 (x := (w : Int) + 1) (by omega) (by omega), wu64 (x := ((w : Int) + 1) * 4294967296) (by omega) (by omega), a1]
    simp only [bs]
    rw [most_val _ _ a3 hb (by omega) (by omega) k (by omega), a2, hv, decide_eq_true hsm]
    simp only [bs, if_true]
    rw [show (w : Int) + 1 = ((w + 1 : Nat) : Int) by omega]
    exact ih k (w + 1) (by omega) (by omega) (by omega)
theorem fits_val (p kk : Int) (hk : kk = 2 ∨ kk = 3) (p0 : 2 ≤ p) (p1 : p ≤ 1000) (r : Nat) (hr : r < 137438953472) (hlo : pw kk r ≤ goal p kk) (hhi : goal p kk < pw kk ((r : Int) + 1)) : ∀ k, 12000 < k →
    incognitoref02_Fits.f k p kk ((r : Int) % 4294967296) = some true := by
  intro k hlt
  obtain ⟨d, d1, d2, d3, d4⟩ := digits_val p (by omega) (by omega) k (by omega)
  unfold incognitoref02_Fits.f
  rw [wu64 (by omega) (by omega), d1]
  simp only [bs]
  obtain ⟨l, l1, l2, l3, l4⟩ := goal_go kk ((r : Int) % 4294967296) hk (4 * kk).toNat k 0 d (by omega) (by omega) (by omega) d3 (by omega)
  have l1' : incognitoref02_Fits.l0 k kk ((r : Int) % 4294967296) d 0 = incognitoref02_Fits.l1 (k - (4 * kk).toNat - 1) kk ((r : Int) % 4294967296) l 0 := by simpa using l1
  rw [l1']
  refine fits_go kk p hk r hr hlo hhi l l3 l4 ?_ (r / 4294967296) _ 0 (by omega) (by omega) (by omega)
  rw [l2, d2]
  rcases hk with rfl | rfl
  · rfl
  · rfl
end Go.Proofs.Ytalghfnjelcpnaa.PrimeR
