/- The plain laws of frames and of digits: what the printed functions come to, in lists and numbers; no program, no memory. -/
import Derived.Test.YtalghfnjelcpnaaDoorTe
namespace Go.Proofs.YtalghfnjelcpnaaDoor.TeL
open Go.RowKit Go.Proofs.YtalghfnjelcpnaaDoor Go.Proofs.YtalghfnjelcpnaaDoor.Te Go.Proofs.YtalghfnjelcpnaaDoorW.PrintWords Go.Proofs.YtalghfnjelcpnaaDoorW.PrintLast Go.Proofs.YtalghfnjelcpnaaDoorW.PrintMore

theorem w64 {x : Int} (h0 : -9223372036854775808 ≤ x) (h1 : x ≤ 9223372036854775807) : wrap64 x = x := by unfold wrap64; omega
theorem wu64 {x : Int} (h0 : 0 ≤ x) (h1 : x < 18446744073709551616) : IntKind.u64.wrap x = x := IntWalk.u64_in _ (by omega)

/-- Bytes. -/
def Bytes (l : List Int) : Prop := ∀ x ∈ l, 0 ≤ x ∧ x ≤ 255
theorem bytes_rd {l : List Int} (h : Bytes l) (i : Int) : 0 ≤ rd l i ∧ rd l i ≤ 255 := by
  unfold rd
  rcases Nat.lt_or_ge i.toNat l.length with hi | hi
  · rw [List.getD_eq_getElem?_getD, List.getElem?_eq_getElem hi]
    exact h _ (List.getElem_mem hi)
  · rw [List.getD_eq_getElem?_getD, List.getElem?_eq_none hi]
    exact ⟨by decide, by decide⟩

def hx (n : Int) : Int := if n < 10 then 48 + n else 87 + n
def encL (l : List Int) : List Int := l.flatMap fun c => [hx (c / 16), hx (c % 16)]
theorem encL_length (l : List Int) : (encL l).length = 2 * l.length := by
  induction l with
  | nil => rfl
  | cons a l ih => simp only [encL, List.flatMap_cons, List.length_append, List.length_cons] at *; simp only [List.length_nil]; omega
theorem encL_take (l : List Int) (i : Nat) (h : i < l.length) : encL (l.take (i + 1)) = encL (l.take i) ++ [hx (l[i] / 16), hx (l[i] % 16)] := by
  unfold encL
  rw [List.take_succ_eq_append_getElem h, List.flatMap_append]
  simp only [List.flatMap_cons, List.flatMap_nil, List.append_nil]
theorem hxbt : ∀ n : Fin 16, bt (⟨#[48, 49, 50, 51, 52, 53, 54, 55, 56, 57, 97, 98, 99, 100, 101, 102]⟩ : ByteArray) (n.val : Int) = hx (n.val : Int) := by decide +kernel
theorem hx_bt (n : Int) (h0 : 0 ≤ n) (h1 : n < 16) : bt (⟨#[48, 49, 50, 51, 52, 53, 54, 55, 56, 57, 97, 98, 99, 100, 101, 102]⟩ : ByteArray) n = hx n := by
  have h := hxbt ⟨n.toNat, by omega⟩
  simpa only [Int.toNat_of_nonneg h0] using h
theorem and15 (n : Int) (h0 : 0 ≤ n) (h1 : n ≤ 255) : Go.bits .and .u8 n 15 = n % 16 := by
  rw [u8_and n 15 h0 (by omega) (by omega) (by omega), show (15 : Int).toNat = 15 from rfl, nat_mask4]
  omega
theorem rd_at (l : List Int) (i : Nat) (h : i < l.length) : rd l (i : Int) = l[i] := by unfold rd; simp [List.getD_eq_getElem?_getD, h]
theorem enc_go (l : List Int) (hb : Bytes l) (hl : l.length ≤ 70368744177000) (d : Nat) : ∀ (k i : Nat), i ≤ l.length → l.length - i = d → d < k →
    hex_Encode.l0 k (encL (l.take i)) l (l.length : Int) (i : Int) = some (strOfNums (encL l)) := by
  induction d with
  | zero =>
    intro k i h0 h1 hk
    obtain ⟨k, rfl⟩ : ∃ m, k = m + 1 := ⟨k - 1, by omega⟩
    simp only [hex_Encode.l0]
    rw [if_neg (by omega), List.take_of_length_le (by omega)]
  | succ d ih =>
    intro k i h0 h1 hk
    obtain ⟨k, rfl⟩ : ∃ m, k = m + 1 := ⟨k - 1, by omega⟩
    have hi : i < l.length := by omega
    simp only [hex_Encode.l0]
    rw [if_pos (by omega), if_pos (by omega), if_pos (by omega), rd_at l i hi]
    obtain ⟨b0, b1⟩ := hb _ (List.getElem_mem hi)
    rw [and15 _ b0 b1, if_pos (by omega), if_pos (by omega), if_pos (by omega), if_pos (by omega), hx_bt _ (by omega) (by omega), hx_bt _ (by omega) (by omega)]
    simp only [Option.bind_some]
    have e1 := encL_length (l.take i)
    rw [List.length_take] at e1
    rw [if_pos (by simp only [List.length_cons, List.length_nil]; omega), w64 (by omega) (by omega), ← encL_take l i hi, show (i : Int) + 1 = ((i + 1 : Nat) : Int) by omega]
    exact ih k (i + 1) (by omega) (by omega) (by omega)
theorem enc_ev (l : List Int) (hb : Bytes l) (hl : l.length ≤ 70368744177000) : ∀ k, l.length < k → hex_Encode.f k l = some (strOfNums (encL l)) := by
  intro k hk
  unfold hex_Encode.f
  rw [w64 (by omega) (by omega), if_pos (by omega), if_pos (by omega)]
  exact enc_go l hb hl l.length k 0 (by omega) (by omega) hk
theorem sign_val (n : Int) (h0 : 0 ≤ n) (h1 : n < 16) : incognitoref01_sign.f n = some (hx n) := by
  unfold incognitoref01_sign.f hx
  by_cases c : n < 10
  · rw [if_pos c, if_pos c]; congr 1; omega
  · rw [if_neg c, if_neg c]; congr 1; omega
theorem strOfNums_append (a b : List Int) : strOfNums (a ++ b) = strOfNums a ++ strOfNums b := by
  apply ByteArray.ext
  simp [strOfNums]
theorem refenc_go (l : List Int) (hb : Bytes l) (hl : l.length ≤ 70368744177000) (d : Nat) : ∀ (k i : Nat), i ≤ l.length → l.length - i = d → d < k →
    incognitoref01_Encode.l0 k l (strOfNums (encL (l.take i))) (i : Int) = some (strOfNums (encL l)) := by
  induction d with
  | zero =>
    intro k i h0 h1 hk
    obtain ⟨k, rfl⟩ : ∃ m, k = m + 1 := ⟨k - 1, by omega⟩
    simp only [incognitoref01_Encode.l0]
    rw [if_neg (by omega), List.take_of_length_le (by omega)]
  | succ d ih =>
    intro k i h0 h1 hk
    obtain ⟨k, rfl⟩ : ∃ m, k = m + 1 := ⟨k - 1, by omega⟩
    have hi : i < l.length := by omega
    simp only [incognitoref01_Encode.l0]
    obtain ⟨b0, b1⟩ := hb _ (List.getElem_mem hi)
    rw [if_pos (by omega), if_pos (by omega), rd_at l i hi, Int.tdiv_eq_ediv_of_nonneg b0, Int.tmod_eq_emod_of_nonneg b0, Int.emod_eq_of_lt (by omega) (by omega), sign_val _ (by omega) (by omega), sign_val _ (by omega) (by omega)]
    simp only [Option.bind_some]
    have e1 := encL_length (l.take i)
    rw [List.length_take] at e1
    rw [if_pos (by simp only [strOfNums_size, List.length_cons, List.length_nil]; omega), w64 (by omega) (by omega), ← strOfNums_append, ← encL_take l i hi, show (i : Int) + 1 = ((i + 1 : Nat) : Int) by omega]
    exact ih k (i + 1) (by omega) (by omega) (by omega)
theorem refenc_ev (l : List Int) (hb : Bytes l) (hl : l.length ≤ 70368744177000) : ∀ k, l.length < k → incognitoref01_Encode.f k l = some (strOfNums (encL l)) := by
  intro k hk
  exact refenc_go l hb hl l.length k 0 (by omega) (by omega) hk

def bigL (n : Int) : Nat → List Int
  | 0 => []
  | t + 1 => (n / 256 ^ t) % 256 :: bigL n t
theorem bigL_length (n : Int) (t : Nat) : (bigL n t).length = t := by induction t with
  | zero => rfl
  | succ t ih => simp [bigL, ih]
theorem set_rep (m : Nat) (v : Int) (r : List Int) : (List.replicate (m + 1) 0 ++ r).set m v = List.replicate m 0 ++ v :: r := by
  rw [List.replicate_succ', List.append_assoc, List.set_append_right _ _ (by simp)]
  simp
theorem div_pow_succ (n : Int) (t : Nat) : n / 256 ^ t / 256 = n / 256 ^ (t + 1) := by
  rw [Int.ediv_ediv_of_nonneg (Int.pow_nonneg (by decide)), ← Int.pow_succ]
theorem big_go (n : Int) (m : Nat) (hm : m ≤ 8) (d : Nat) : ∀ (k t : Nat), t ≤ m → m - t = d → d < k →
    hex_Big.l0 k (n / 256 ^ t) (List.replicate (m - t) 0 ++ bigL n t) ((m : Int) - t - 1) = some (bigL n m) := by
  induction d with
  | zero =>
    intro k t h0 h1 hk
    obtain ⟨k, rfl⟩ : ∃ m, k = m + 1 := ⟨k - 1, by omega⟩
    obtain rfl : t = m := by omega
    simp only [hex_Big.l0]
    rw [if_neg (by omega)]
    simp
  | succ d ih =>
    intro k t h0 h1 hk
    obtain ⟨k, rfl⟩ : ∃ m, k = m + 1 := ⟨k - 1, by omega⟩
    simp only [hex_Big.l0]
    rw [if_pos (by omega), if_pos (by omega), if_pos (by simp only [List.length_append, List.length_replicate, bigL_length]; omega), w64 (by omega) (by omega), div_pow_succ,
      show ((m : Int) - t - 1).toNat = m - (t + 1) by omega, show m - t = m - (t + 1) + 1 by omega, set_rep]
    have := ih k (t + 1) (by omega) (by omega) (by omega)
    rw [show (m : Int) - t - 1 - 1 = (m : Int) - ((t + 1 : Nat) : Int) - 1 by omega]
    exact this
theorem big_ev (n : Int) (s : Int) (h0 : -9223372036854775808 ≤ s) : ∀ k, 9 < k → hex_Big.f k n s = some (bigL n (min s.toNat 8)) := by
  intro k hk
  unfold hex_Big.f
  by_cases c : s < 1
  · rw [if_pos c, show s.toNat = 0 by omega]; rfl
  · rw [if_neg c]
    have e : mn s 8 = ((min s.toNat 8 : Nat) : Int) := by unfold mn; split <;> omega
    rw [e, if_pos (by omega), if_pos (by omega)]
    simp only [Option.bind_some, Int.toNat_natCast, List.length_replicate]
    rw [w64 (by omega) (by omega)]
    have := big_go n (min s.toNat 8) (by omega) (min s.toNat 8) k 0 (by omega) (by omega) (by omega)
    simpa [bigL] using this
theorem refbig_go (n : Int) (h0 : 0 ≤ n) (h1 : n < 18446744073709551616) (s : Int) (hs : s ≤ 9223372036854775807) (d : Nat) : ∀ (k t : Nat), t ≤ min s.toNat 8 → min s.toNat 8 - t = d → d < k →
    incognitoref01_Big.l0 k (n / 256 ^ t) s (bigL n t) (t : Int) = some (bigL n (min s.toNat 8)) := by
  induction d with
  | zero =>
    intro k t h0 h1 hk
    obtain ⟨k, rfl⟩ : ∃ m, k = m + 1 := ⟨k - 1, by omega⟩
    simp only [incognitoref01_Big.l0]
    by_cases c : (t : Int) < s
    · rw [if_pos c, if_neg (by omega), show min s.toNat 8 = t by omega]
    · rw [if_neg c, show min s.toNat 8 = t by omega]
  | succ d ih =>
    intro k t h2 h3 hk
    obtain ⟨k, rfl⟩ : ∃ m, k = m + 1 := ⟨k - 1, by omega⟩
    have hp : (0 : Int) < 256 ^ t := Int.pow_pos (by decide)
    have hq : 0 ≤ n / 256 ^ t := Int.ediv_nonneg h0 (by omega)
    have hq2 : n / 256 ^ t ≤ n := Int.ediv_le_self _ h0
    simp only [incognitoref01_Big.l0]
    rw [if_pos (by omega), if_pos (by omega)]
    simp only [Option.bind_some]
    rw [if_pos (by simp only [List.length_cons, List.length_nil, bigL_length]; omega), Int.tdiv_eq_ediv_of_nonneg hq, Int.tmod_eq_emod_of_nonneg hq, Int.emod_emod_of_dvd _ (Int.dvd_refl _), wu64 (by omega) (by omega), w64 (by omega) (by omega), div_pow_succ]
    exact ih k (t + 1) (by omega) (by omega) (by omega)
theorem refbig_ev (n : Int) (h0 : 0 ≤ n) (h1 : n < 18446744073709551616) (s : Int) (hs : s ≤ 9223372036854775807) : ∀ k, 9 < k → incognitoref01_Big.f k n s = some (bigL n (min s.toNat 8)) := by
  intro k hk
  have := refbig_go n h0 h1 s hs (min s.toNat 8) k 0 (by omega) (by omega) (by omega)
  simpa [incognitoref01_Big.f, bigL] using this

/-! ### Num -/
theorem bigL_bytes (n : Int) (t : Nat) : Bytes (bigL n t) := by
  induction t with
  | zero => intro x hx; cases hx
  | succ t ih =>
    intro x hx
    rcases List.mem_cons.1 hx with rfl | hx
    · omega
    · exact ih x hx
theorem bigL_snoc (n : Int) (t : Nat) : bigL n (t + 1) = bigL (n / 256) t ++ [n % 256] := by
  induction t with
  | zero => simp [bigL]
  | succ t ih =>
    rw [bigL, ih, bigL]
    simp only [List.cons_append]
    rw [Int.ediv_ediv_of_nonneg (by decide), ← Int.pow_succ']
/-! ### Frames -/
/-- The frame of parts. -/
def fr (l : List (List Int)) : List Int := l.flatMap fun p => bigL p.length 8 ++ p
theorem fr_nil : fr [] = [] := rfl
theorem fr_cons (p : List Int) (l : List (List Int)) : fr (p :: l) = (bigL p.length 8 ++ p) ++ fr l := by simp [fr]
theorem fr_snoc (l : List (List Int)) (p : List Int) : fr (l ++ [p]) = fr l ++ (bigL p.length 8 ++ p) := by simp [fr]
theorem fr_take (l : List (List Int)) (i : Nat) (h : i < l.length) : fr (l.take (i + 1)) = fr (l.take i) ++ (bigL l[i].length 8 ++ l[i]) := by
  rw [List.take_succ_eq_append_getElem h, fr_snoc]
theorem fr_len (l : List (List Int)) (h : ∀ p ∈ l, p.length ≤ 1000) : (fr l).length ≤ 1008 * l.length := by
  induction l with
  | nil => simp [fr_nil]
  | cons p l ih =>
    have h1 := ih (fun q hq => h q (List.mem_cons_of_mem _ hq))
    have h2 := h p List.mem_cons_self
    rw [fr_cons]
    simp only [List.length_append, bigL_length, List.length_cons]
    omega
theorem rd_L (l : List (List Int)) (i : Nat) (h : i < l.length) : rd_L1 l (i : Int) = l[i] := by unfold rd_L1; simp [List.getD_eq_getElem?_getD, h]
theorem great_go (l : List (List Int)) (hm : (l.length : Int) ≤ 9223372036854775807) (d : Nat) : ∀ (k i : Nat), i ≤ l.length → l.length - i = d → d < k → (∀ j (h : j < l.length), j < i → l[j].length ≤ 200) →
    incognitolaw05_great.l0 k l l l.length i = some true ∨ (incognitolaw05_great.l0 k l l l.length i = some false ∧ (∀ p ∈ l, p.length ≤ 200) ∧ l.length ≤ 20) := by
  induction d with
  | zero =>
    intro k i h0 h1 hk hs
    obtain ⟨k, rfl⟩ : ∃ m, k = m + 1 := ⟨k - 1, by omega⟩
    simp only [incognitolaw05_great.l0]
    rw [if_neg (by omega)]
    by_cases c : l.length ≤ 20
    · right
      refine ⟨by simp; omega, fun p hp => ?_, c⟩
      obtain ⟨j, hj, rfl⟩ := List.mem_iff_getElem.1 hp
      exact hs j hj (by omega)
    · left; simp; omega
  | succ d ih =>
    intro k i h0 h1 hk hs
    obtain ⟨k, rfl⟩ : ∃ m, k = m + 1 := ⟨k - 1, by omega⟩
    simp only [incognitolaw05_great.l0]
    have hi : i < l.length := by omega
    rw [if_pos (by omega), if_pos (by omega), if_pos (by omega), rd_L l i hi]
    by_cases c : (l[i].length : Int) > 200
    · left; rw [if_pos c]
    · rw [if_neg c, w64 (by omega) (by omega), show (i : Int) + 1 = ((i + 1 : Nat) : Int) by omega]
      refine ih k (i + 1) (by omega) (by omega) (by omega) (fun j hj hji => ?_)
      rcases Nat.lt_or_ge j i with h2 | h2
      · exact hs j hj h2
      · obtain rfl : j = i := by omega
        omega
theorem great_ev (l : List (List Int)) (hm : (l.length : Int) ≤ 9223372036854775807) (k : Nat) (hk : l.length < k) :
    incognitolaw05_great.f k l = some true ∨ (incognitolaw05_great.f k l = some false ∧ (∀ p ∈ l, p.length ≤ 200) ∧ l.length ≤ 20) := by
  unfold incognitolaw05_great.f
  exact great_go l hm l.length k 0 (by omega) (by omega) hk (fun j _ h => by omega)
theorem frame_go (l : List (List Int)) (h : ∀ p ∈ l, p.length ≤ 1000) (hl : l.length ≤ 600) (d : Nat) : ∀ (k i : Nat), i ≤ l.length → l.length - i = d → d + 10 < k →
    tag_Frame.l0 k (fr (l.take i)) l l.length i = some (fr l) := by
  induction d with
  | zero =>
    intro k i h0 h1 hk
    obtain ⟨k, rfl⟩ : ∃ m, k = m + 1 := ⟨k - 1, by omega⟩
    simp only [tag_Frame.l0]
    rw [if_neg (by omega), List.take_of_length_le (by omega)]
  | succ d ih =>
    intro k i h0 h1 hk
    obtain ⟨k, rfl⟩ : ∃ m, k = m + 1 := ⟨k - 1, by omega⟩
    simp only [tag_Frame.l0]
    have hi : i < l.length := by omega
    have hp : l[i].length ≤ 1000 := h _ (List.getElem_mem hi)
    have hf : (fr (l.take i)).length ≤ 1008 * i := by
      have := fr_len (l.take i) (fun p hp => h p (List.mem_of_mem_take hp))
      rw [List.length_take, Nat.min_eq_left h0] at this
      exact this
    rw [if_pos (by omega), if_pos (by omega), if_pos (by omega), rd_L l i hi, wu64 (by omega) (by omega), big_ev _ 8 (by omega) k (by omega)]
    simp only [Option.bind_some]
    rw [show min (8 : Int).toNat 8 = 8 from rfl, if_pos (by rw [bigL_length]; omega), if_pos (by rw [List.length_append, bigL_length]; omega), w64 (by omega) (by omega), show (i : Int) + 1 = ((i + 1 : Nat) : Int) by omega, List.append_assoc, ← fr_take l i hi]
    exact ih k (i + 1) (by omega) (by omega) (by omega)
theorem frame_ev (l : List (List Int)) (h : ∀ p ∈ l, p.length ≤ 1000) (hl : l.length ≤ 600) (k : Nat) (hk : l.length + 10 < k) : tag_Frame.f k l = some (fr l) := by
  unfold tag_Frame.f
  exact frame_go l h hl l.length k 0 (by omega) (by omega) hk

theorem bytes_take {l : List Int} (h : Bytes l) (i : Nat) : Bytes (l.take i) := fun x hx => h x (List.mem_of_mem_take hx)
theorem bytes_drop {l : List Int} (h : Bytes l) (i : Nat) : Bytes (l.drop i) := fun x hx => h x (List.mem_of_mem_drop hx)
theorem bytes_app {a b : List Int} (h : Bytes a) (k : Bytes b) : Bytes (a ++ b) := fun x hx => by
  rcases List.mem_append.1 hx with h1 | h1
  · exact h x h1
  · exact k x h1
theorem fr_bytes (l : List (List Int)) (h : ∀ p ∈ l, Bytes p) : Bytes (fr l) := by
  induction l with
  | nil => intro x hx; cases hx
  | cons p l ih =>
    rw [fr_cons]
    exact bytes_app (bytes_app (bigL_bytes _ _) (h p List.mem_cons_self)) (ih (fun q hq => h q (List.mem_cons_of_mem _ hq)))
theorem refframe_go (l : List (List Int)) (h : ∀ p ∈ l, p.length ≤ 1000) (hl : l.length ≤ 600) (d : Nat) : ∀ (k i : Nat), i ≤ l.length → l.length - i = d → d + 10 < k →
    incognitoref05_Frame.l0 k l (fr (l.take i)) i = some (fr l) := by
  induction d with
  | zero =>
    intro k i h0 h1 hk
    obtain ⟨k, rfl⟩ : ∃ m, k = m + 1 := ⟨k - 1, by omega⟩
    simp only [incognitoref05_Frame.l0]
    rw [if_neg (by omega), List.take_of_length_le (by omega)]
  | succ d ih =>
    intro k i h0 h1 hk
    obtain ⟨k, rfl⟩ : ∃ m, k = m + 1 := ⟨k - 1, by omega⟩
    simp only [incognitoref05_Frame.l0]
    have hi : i < l.length := by omega
    have hp : l[i].length ≤ 1000 := h _ (List.getElem_mem hi)
    have hf : (fr (l.take i)).length ≤ 1008 * i := by
      have := fr_len (l.take i) (fun p hp => h p (List.mem_of_mem_take hp))
      rw [List.length_take, Nat.min_eq_left h0] at this
      exact this
    rw [if_pos (by omega), if_pos (by omega), rd_L l i hi, wu64 (by omega) (by omega), refbig_ev _ (by omega) (by omega) 8 (by omega) k (by omega)]
    simp only [Option.bind_some]
    rw [show min (8 : Int).toNat 8 = 8 from rfl, if_pos (by rw [bigL_length]; omega), if_pos (by rw [List.length_append, bigL_length]; omega), w64 (by omega) (by omega), show (i : Int) + 1 = ((i + 1 : Nat) : Int) by omega, List.append_assoc, ← fr_take l i hi]
    exact ih k (i + 1) (by omega) (by omega) (by omega)
theorem refframe_ev (l : List (List Int)) (h : ∀ p ∈ l, p.length ≤ 1000) (hl : l.length ≤ 600) (k : Nat) (hk : l.length + 10 < k) : incognitoref05_Frame.f k l = some (fr l) := by
  unfold incognitoref05_Frame.f
  exact refframe_go l h hl l.length k 0 (by omega) (by omega) hk

end Go.Proofs.YtalghfnjelcpnaaDoor.TeL
