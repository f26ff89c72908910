/- The plain laws between words of 32 bits and the document's numbers modulo 2^32. No conditions. -/
import Derived.Test.YtalghfnjelcpnaaDoorBitL
namespace Go.Proofs.YtalghfnjelcpnaaDoor
set_option linter.unusedVariables false
open Go.RowKit Go.Proofs.YtalghfnjelcpnaaDoorW.PrintWords

/-- A byte. -/
def B8 (x : Int) : Prop := 0 ≤ x ∧ x ≤ 255
/-- Bytes. -/
def B8s (l : List Int) : Prop := ∀ x ∈ l, B8 x
/-- Words. -/
def W32s (l : List Int) : Prop := ∀ x ∈ l, W32 x
theorem B8s.at {l : List Int} (h : B8s l) (i : Nat) : B8 (l.getD i 0) := by
  rw [List.getD_eq_getElem?_getD]
  rcases Nat.lt_or_ge i l.length with hi | hi
  · rw [List.getElem?_eq_getElem hi]; exact h _ (List.getElem_mem hi)
  · rw [List.getElem?_eq_none hi]; exact ⟨by decide, by decide⟩
theorem W32s.at {l : List Int} (h : W32s l) (i : Nat) : W32 (l.getD i 0) := by
  rw [List.getD_eq_getElem?_getD]
  rcases Nat.lt_or_ge i l.length with hi | hi
  · rw [List.getElem?_eq_getElem hi]; exact h _ (List.getElem_mem hi)
  · rw [List.getElem?_eq_none hi]; exact ⟨by decide, by decide⟩
theorem W32s.set {l : List Int} (h : W32s l) (i : Nat) {x : Int} (hx : W32 x) : W32s (l.set i x) := fun y hy => by
  rcases List.mem_or_eq_of_mem_set hy with h1 | rfl
  · exact h y h1
  · exact hx
theorem w32_mod (x : Int) : W32 (x % 4294967296) := ⟨Int.emod_nonneg _ (by decide), Int.emod_lt_of_pos _ (by decide)⟩
/-- The document's word so far. -/
def pj (bs : List Int) (k : Nat) : Nat → Int
  | 0 => 0
  | j + 1 => pj bs k j * 256 + bs.getD (4 * k + j) 0
theorem wd_pj (bs : List Int) (hb : B8s bs) (k : Nat) : wd bs k = pj bs k 4 ∧ W32 (wd bs k) := by
  obtain ⟨p, hp⟩ := hb.at (4 * k)
  obtain ⟨q, hq⟩ := hb.at (4 * k + 1)
  obtain ⟨r, hr⟩ := hb.at (4 * k + 2)
  obtain ⟨s, hs⟩ := hb.at (4 * k + 3)
  have e : wd bs k = (((bs.getD (4 * k) 0 * 256 + bs.getD (4 * k + 1) 0) * 256 + bs.getD (4 * k + 2) 0) * 256 + bs.getD (4 * k + 3) 0) := by
    unfold wd
    simp only [← List.getD_eq_getElem?_getD]
    obtain ⟨b0, h0⟩ : ∃ b0, bs.getD (4 * k) 0 = b0 := ⟨_, rfl⟩
    obtain ⟨b1, h1⟩ : ∃ b1, bs.getD (4 * k + 1) 0 = b1 := ⟨_, rfl⟩
    obtain ⟨b2, h2⟩ : ∃ b2, bs.getD (4 * k + 2) 0 = b2 := ⟨_, rfl⟩
    obtain ⟨b3, h3⟩ : ∃ b3, bs.getD (4 * k + 3) 0 = b3 := ⟨_, rfl⟩
    rw [h0] at p hp ⊢
    rw [h1] at q hq ⊢
    rw [h2] at r hr ⊢
    rw [h3] at s hs ⊢
    rw [show b0 % 4294967296 * 16777216 % 4294967296 = b0 * 16777216 by omega, show b1 % 4294967296 * 65536 % 4294967296 = b1 * 65536 by omega, show b2 % 4294967296 * 256 % 4294967296 = b2 * 256 by omega, show b3 % 4294967296 = b3 by omega,
      bits_join .u32 32 (by decide) u32w 24 (b0 * 16777216) (b1 * 65536) (by omega) (by omega) (by omega) (by omega) (by omega) (by omega),
      bits_join .u32 32 (by decide) u32w 16 _ (b2 * 256) (by omega) (by omega) (by omega) (by omega) (by omega) (by omega),
      bits_join .u32 32 (by decide) u32w 8 _ b3 (by omega) (by omega) (by omega) (by omega) (by omega) (by omega)]
    omega
  refine ⟨?_, ?_⟩
  · rw [e]
    simp only [pj, Nat.add_zero]
    omega
  · rw [e]
    unfold W32
    omega
theorem pj_bd (bs : List Int) (hb : B8s bs) (k : Nat) : 0 ≤ pj bs k 1 ∧ pj bs k 1 ≤ 255 ∧ 0 ≤ pj bs k 2 ∧ pj bs k 2 ≤ 65535 ∧ 0 ≤ pj bs k 3 ∧ pj bs k 3 ≤ 16777215 := by
  obtain ⟨p, hp⟩ := hb.at (4 * k)
  obtain ⟨q, hq⟩ := hb.at (4 * k + 1)
  obtain ⟨r, hr⟩ := hb.at (4 * k + 2)
  simp only [pj, Nat.add_zero]
  omega
theorem sp_w (bs : List Int) (hb : B8s bs) (k : Nat) : W32s (sp bs k) := by
  induction k with
  | zero =>
    intro x hx
    rw [sp] at hx
    rw [List.eq_of_mem_replicate hx]
    exact ⟨by decide, by decide⟩
  | succ k ih =>
    rw [sp]
    refine ih.set k ?_
    split
    · exact (wd_pj bs hb k).2
    · exact w32_mod _
theorem sp_zero (bs : List Int) (k : Nat) : ∀ j, k ≤ j → (sp bs k).getD j 0 = 0 := by
  induction k with
  | zero =>
    intro j _
    rw [sp, List.getD_eq_getElem?_getD, List.getElem?_replicate]
    split <;> rfl
  | succ k ih =>
    intro j hj
    rw [sp, List.getD_eq_getElem?_getD, List.getElem?_set_ne (by omega), ← List.getD_eq_getElem?_getD]
    exact ih j (by omega)
/-- The words below have been found for good. -/
theorem nx_w (xs : List Int) (h : W32s xs) (k : Nat) (p q : Int) (hp : xs.getD (k - 15) 0 = p) (hq : xs.getD (k - 2) 0 = q) :
    (xs.getD (k - 16) 0 + Go.bits .xor .u64 (Go.bits .xor .u32 (tn p 7) (tn p 18)) (p / 8) + xs.getD (k - 7) 0 + Go.bits .xor .u64 (Go.bits .xor .u32 (tn q 17) (tn q 19)) (q / 1024)) % 4294967296 = nx xs k
    ∧ W32 (Go.bits .xor .u64 (Go.bits .xor .u32 (tn p 7) (tn p 18)) (p / 8)) ∧ W32 (Go.bits .xor .u64 (Go.bits .xor .u32 (tn q 17) (tn q 19)) (q / 1024)) := by
  have wp : W32 p := hp ▸ h.at _
  have wq : W32 q := hq ▸ h.at _
  have a1 := xor64 (tn_w p 7 wp (by decide) (by decide)).1 (tn_w p 18 wp (by decide) (by decide)).1
  have a2 := xor64 (tn_w q 17 wq (by decide) (by decide)).1 (tn_w q 19 wq (by decide) (by decide)).1
  have w8 : W32 (p / 8) := by unfold W32 at wp ⊢; omega
  have w1024 : W32 (q / 1024) := by unfold W32 at wq ⊢; omega
  have b1 := xor64 a1.2 w8
  have b2 := xor64 a2.2 w1024
  rw [b1.1, b2.1]
  refine ⟨?_, b1.2, b2.2⟩
  unfold nx
  simp only [← List.getD_eq_getElem?_getD]
  rw [hp, hq]
  congr 1
  omega
theorem ch_w {e f g : Int} (he : W32 e) (hf : W32 f) (hg : W32 g) :
    Go.bits .xor .u64 (Go.bits .and .u64 e f) (Go.bits .and .u64 (4294967295 - e) g) = Go.bits .xor .u32 (Go.bits .and .u32 e f) (Go.bits .and .u32 (Go.bits .xor .u32 (if IntKind.u32.signed = true then -1 else IntKind.u32.max) e) g)
    ∧ W32 (Go.bits .xor .u64 (Go.bits .and .u64 e f) (Go.bits .and .u64 (4294967295 - e) g)) := by
  have h1 := and64 he hf
  have h2 := not32 he
  have h3 := and64 h2.2 hg
  have h4 := xor64 h1.2 h3.2
  rw [h1.1, h3.1, h4.1, h2.1]
  exact ⟨rfl, h4.2⟩
theorem x_w {wk r s4 s5 s6 s7 S C : Int} (hwk : W32 wk) (hr : W32 r) (h4 : W32 s4) (h5 : W32 s5) (h6 : W32 s6) (h7 : W32 s7)
    (hS : Go.bits .xor .u64 (Go.bits .xor .u32 (tn s4 6) (tn s4 11)) (tn s4 25) = S) (hC : Go.bits .xor .u64 (Go.bits .and .u64 s4 s5) (Go.bits .and .u64 (4294967295 - s4) s6) = C) :
    (s7 + S + C + r + wk) % 4294967296 = xx wk r s4 s5 s6 s7 ∧ W32 S ∧ W32 C := by
  have a1 := xor64 (tn_w s4 6 h4 (by decide) (by decide)).1 (tn_w s4 11 h4 (by decide) (by decide)).1
  have a2 := xor64 a1.2 (tn_w s4 25 h4 (by decide) (by decide)).1
  have c := ch_w h4 h5 h6
  have wS : W32 S := by rw [← hS, a2.1]; exact a2.2
  have wC : W32 C := by rw [← hC]; exact c.2
  refine ⟨?_, wS, wC⟩
  unfold xx
  rw [← a2.1, hS, ← c.1, hC]
  show _ = ((((s7 + S) % 4294967296 + C) % 4294967296 + r) % 4294967296 + wk) % 4294967296
  omega
theorem y_w {s0 s1 s2 : Int} (h0 : W32 s0) (h1 : W32 s1) (h2 : W32 s2) {S M : Int}
    (hS : Go.bits .xor .u64 (Go.bits .xor .u32 (tn s0 2) (tn s0 13)) (tn s0 22) = S) (hM : Go.bits .xor .u64 (Go.bits .xor .u64 (Go.bits .and .u64 s0 s1) (Go.bits .and .u64 s0 s2)) (Go.bits .and .u64 s1 s2) = M) :
    (S + M) % 4294967296 = yy s0 s1 s2 ∧ W32 S ∧ W32 M := by
  have a1 := xor64 (tn_w s0 2 h0 (by decide) (by decide)).1 (tn_w s0 13 h0 (by decide) (by decide)).1
  have a2 := xor64 a1.2 (tn_w s0 22 h0 (by decide) (by decide)).1
  have b1 := and64 h0 h1
  have b2 := and64 h0 h2
  have b3 := and64 h1 h2
  have c1 := xor64 b1.2 b2.2
  have c2 := xor64 c1.2 b3.2
  have wS : W32 S := by rw [← hS, a2.1]; exact a2.2
  have wM : W32 M := by rw [← hM, b1.1, b2.1, b3.1, c1.1, c2.1]; exact c2.2
  refine ⟨?_, wS, wM⟩
  unfold yy
  rw [← a2.1, hS, ← c2.1, ← c1.1, ← b1.1, ← b2.1, ← b3.1, hM]
  rfl
theorem rs_w : W32s rs := by unfold W32s W32; decide
theorem rd_w {w r : Int} {s : List Int} (hs : W32s s) : W32s (rd w r s) := by
  intro x hx
  unfold rd at hx
  simp only [List.mem_cons, List.not_mem_nil, or_false] at hx
  rcases hx with rfl | rfl | rfl | rfl | rfl | rfl | rfl | rfl
  · exact w32_mod _
  · exact hs.at _
  · exact hs.at _
  · exact hs.at _
  · exact w32_mod _
  · exact hs.at _
  · exact hs.at _
  · exact hs.at _
theorem rn_w (ws st : List Int) (hs : W32s st) (k : Nat) : W32s (rn ws st k) := by
  induction k with
  | zero => exact hs
  | succ k ih => exact rd_w ih
end Go.Proofs.YtalghfnjelcpnaaDoor
