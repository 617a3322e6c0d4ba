/- Part 17 of auditPlays_holds. -/
import Derived.Test.YtmpoffijcfaalaaGreatAp16

set_option maxRecDepth 20000
set_option maxHeartbeats 1000000
namespace Go.Eng
section
section
variable {α : Type} [Inhabited α]
theorem getDset (xs : List α) (i k : Nat) (v : α) : (xs.set i v).getD k default = if i = k ∧ i < xs.length then v else xs.getD k default := by
 simp only [List.getD_eq_getElem?_getD, List.getElem?_set]
 by_cases h : i = k
 · subst h
   by_cases hl : i < xs.length
   · simp [hl]
   · simp [hl]
 · simp [h]
theorem swapL_get {xs : List α} {i j : Nat} (hi : i < xs.length) (hj : j < xs.length) (k : Nat) : (swapL xs i j).getD k default = if k = j then xs.getD i default else if k = i then xs.getD j default else xs.getD k default := by
 rw [swapL, getDset, getDset, List.length_set]
 by_cases h1 : k = j
 · simp [h1, hj]
 · have : ¬ (j = k ∧ j < xs.length) := by omega
   rw [if_neg this, if_neg h1]
   by_cases h2 : k = i
   · simp [h2, hi]
   · have : ¬ (i = k ∧ i < xs.length) := by omega
     rw [if_neg this, if_neg h2]
theorem swapL_perm {xs : List α} {i j : Nat} (hi : i < xs.length) (hj : j < xs.length) : (swapL xs i j).Perm xs := by
 have h := (Array.swap_perm (xs := xs.toArray) (i := i) (j := j) (by simpa using hi) (by simpa using hj))
 have e : swapL xs i j = (xs.toArray.swap i j (by simpa using hi) (by simpa using hj)).toList := by
  simp [swapL, Array.swap, List.getD, List.getElem?_eq_getElem hi, List.getElem?_eq_getElem hj]
 rw [e]
 exact Array.perm_iff_toList_perm.1 h
theorem shU_get : ∀ (n k : Nat) (xs : List α), k + n < xs.length → ∀ t, (shU n k xs).getD t default = if k ≤ t ∧ t < k + n then xs.getD (t + 1) default else if t = k + n then xs.getD k default else xs.getD t default
 | 0, k, xs, _, t => by
  rw [shU]
  by_cases h : t = k
  · subst h; simp
  · rw [if_neg (by omega), if_neg (by omega)]
 | n + 1, k, xs, hl, t => by
  rw [shU, shU_get n (k + 1) _ (by rw [swapL_len]; omega)]
  have g := fun u => swapL_get (xs := xs) (i := k) (j := k + 1) (by omega) (by omega) u
  rw [g, g, g]
  by_cases h1 : t = k
  · rw [if_neg (by omega), if_neg (by omega), if_neg (by omega), if_pos h1, if_pos (by omega), h1]
  · by_cases h2 : k + 1 ≤ t ∧ t < k + 1 + n
    · rw [if_pos h2, if_neg (by omega), if_neg (by omega), if_pos (by omega)]
    · by_cases h3 : t = k + 1 + n
      · rw [if_neg h2, if_pos h3, if_pos rfl, if_neg (by omega), if_pos (by omega)]
      · rw [if_neg h2, if_neg h3, if_neg (by omega), if_neg h1, if_neg (by omega), if_neg (by omega)]
theorem shU_perm : ∀ (n k : Nat) (xs : List α), k + n < xs.length → (shU n k xs).Perm xs
 | 0, _, _, _ => .refl _
 | n + 1, k, xs, hl => (shU_perm n (k + 1) _ (by rw [swapL_len]; omega)).trans (swapL_perm (by omega) (by omega))
theorem shD_get : ∀ (n k : Nat) (xs : List α), k < xs.length → n ≤ k → ∀ t, (shD n k xs).getD t default = if k - n < t ∧ t ≤ k then xs.getD (t - 1) default else if t = k - n then xs.getD k default else xs.getD t default
 | 0, k, xs, _, _, t => by
  rw [shD]
  by_cases h : t = k
  · subst h; simp
  · rw [if_neg (by omega), if_neg (by omega)]
 | n + 1, k, xs, hl, hn, t => by
  rw [shD, shD_get n (k - 1) _ (by rw [swapL_len]; omega) (by omega)]
  have g := fun u => swapL_get (xs := xs) (i := k) (j := k - 1) (by omega) (by omega) u
  rw [g, g, g]
  by_cases h1 : t = k
  · rw [if_neg (by omega), if_neg (by omega), if_neg (by omega), if_pos h1, if_pos (by omega), h1]
  · by_cases h2 : k - 1 - n < t ∧ t ≤ k - 1
    · rw [if_pos h2, if_neg (by omega), if_neg (by omega), if_pos (by omega)]
    · by_cases h3 : t = k - 1 - n
      · rw [if_neg h2, if_pos h3, if_pos rfl, if_neg (by omega), if_pos (by omega)]
      · rw [if_neg h2, if_neg h3, if_neg (by omega), if_neg h1, if_neg (by omega), if_neg (by omega)]
theorem shD_perm : ∀ (n k : Nat) (xs : List α), k < xs.length → n ≤ k → (shD n k xs).Perm xs
 | 0, _, _, _, _ => .refl _
 | n + 1, k, xs, hl, hn => (shD_perm n (k - 1) _ (by rw [swapL_len]; omega) (by omega)).trans (swapL_perm (by omega) (by omega))
theorem swR_get (a b : Nat) : ∀ (n i : Nat) (xs : List α), a + i + n ≤ b + i → b + i + n ≤ xs.length → ∀ t, (swR a b n i xs).getD t default = if a + i ≤ t ∧ t < a + i + n then xs.getD (t - a + b) default else if b + i ≤ t ∧ t < b + i + n then xs.getD (t - b + a) default else xs.getD t default
 | 0, i, xs, _, _, t => by rw [swR, if_neg (by omega), if_neg (by omega)]
 | n + 1, i, xs, h1, h2, t => by
  rw [swR, swR_get a b n (i + 1) _ (by omega) (by rw [swapL_len]; omega)]
  have g := fun u => swapL_get (xs := xs) (i := a + i) (j := b + i) (by omega) (by omega) u
  rw [g, g, g]
  by_cases c1 : t = a + i
  · rw [if_neg (by omega), if_neg (by omega), if_neg (by omega), if_pos c1, if_pos (by omega), show t - a + b = b + i by omega]
  · by_cases c2 : t = b + i
    · rw [if_neg (by omega), if_neg (by omega), if_pos c2, if_neg (by omega), if_pos (by omega), show t - b + a = a + i by omega]
    · by_cases c3 : a + (i + 1) ≤ t ∧ t < a + (i + 1) + n
      · rw [if_pos c3, if_neg (by omega), if_neg (by omega), if_pos (by omega)]
      · by_cases c4 : b + (i + 1) ≤ t ∧ t < b + (i + 1) + n
        · rw [if_neg c3, if_pos c4, if_neg (by omega), if_neg (by omega), if_neg (by omega), if_pos (by omega)]
        · rw [if_neg c3, if_neg c4, if_neg c2, if_neg c1, if_neg (by omega), if_neg (by omega)]
theorem swR_perm (a b : Nat) : ∀ (n i : Nat) (xs : List α), a + i + n ≤ b + i → b + i + n ≤ xs.length → (swR a b n i xs).Perm xs
 | 0, _, _, _, _ => .refl _
 | n + 1, i, xs, h1, h2 => (swR_perm a b n (i + 1) _ (by omega) (by rw [swapL_len]; omega)).trans (swapL_perm (by omega) (by omega))
theorem rotF_get (m : Nat) : ∀ (f i j : Nat) (xs : List α), 1 ≤ i → 1 ≤ j → i + j ≤ f + 2 → i ≤ m → m + j ≤ xs.length → ∀ t, (rotF m f i j xs).getD t default = if m - i ≤ t ∧ t < m - i + j then xs.getD (t + i) default else if m - i + j ≤ t ∧ t < m + j then xs.getD (t - j) default else xs.getD t default
 | 0, i, j, xs, hi, hj, hf, hm, hl, t => by
  obtain rfl : i = 1 := by omega
  obtain rfl : j = 1 := by omega
  rw [rotF, swR_get (m - 1) m 1 0 xs (by omega) (by omega)]
  by_cases c1 : t = m - 1
  · rw [if_pos (by omega), if_pos (by omega), show t - (m - 1) + m = t + 1 by omega]
  · by_cases c2 : t = m
    · rw [if_neg (by omega), if_pos (by omega), if_neg (by omega), if_pos (by omega), show t - m + (m - 1) = t - 1 by omega]
    · rw [if_neg (by omega), if_neg (by omega), if_neg (by omega), if_neg (by omega)]
 | f + 1, i, j, xs, hi, hj, hf, hm, hl, t => by
  rw [rotF]
  split
  · rename_i e
    subst e
    rw [swR_get (m - i) m i 0 xs (by omega) (by omega)]
    by_cases c1 : m - i ≤ t ∧ t < m
    · rw [if_pos (by omega), if_pos (by omega), show t - (m - i) + m = t + i by omega]
    · by_cases c2 : m ≤ t ∧ t < m + i
      · rw [if_neg (by omega), if_pos (by omega), if_neg (by omega), if_pos (by omega), show t - m + (m - i) = t - i by omega]
      · rw [if_neg (by omega), if_neg (by omega), if_neg (by omega), if_neg (by omega)]
  · split
    · rename_i ne lt
      have hs := fun u => swR_get (m - i) m j 0 xs (by omega) (by omega) u
      rw [rotF_get m f (i - j) j _ (by omega) hj (by omega) (by omega) (by rw [swR_len]; omega), hs, hs, hs]
      by_cases c1 : m - i ≤ t ∧ t < m - i + j
      · rw [if_neg (by omega), if_neg (by omega), if_pos (by omega), if_pos (by omega), show t - (m - i) + m = t + i by omega]
      · by_cases c2 : m - (i - j) ≤ t ∧ t < m - (i - j) + j
        · rw [if_pos c2, if_neg (by omega), if_pos (by omega), if_neg (by omega), if_pos (by omega), show t + (i - j) - m + (m - i) = t - j by omega]
        · by_cases c3 : m - (i - j) + j ≤ t ∧ t < m + j
          · rw [if_neg c2, if_pos c3, if_neg (by omega), if_neg (by omega), if_neg (by omega), if_pos (by omega)]
          · rw [if_neg c2, if_neg c3, if_neg (by omega), if_neg (by omega), if_neg (by omega), if_neg (by omega)]
    · rename_i ne nlt
      have hs := fun u => swR_get (m - i) (m + j - i) i 0 xs (by omega) (by omega) u
      rw [rotF_get m f i (j - i) _ hi (by omega) (by omega) (by omega) (by rw [swR_len]; omega), hs, hs, hs]
      by_cases c1 : m - i ≤ t ∧ t < m - i + (j - i)
      · rw [if_pos c1]
        by_cases c4 : t + i < m + j - i
        · rw [if_neg (by omega), if_neg (by omega), if_pos (by omega)]
        · rw [if_neg (by omega), if_pos (by omega), if_pos (by omega)]
          omega
      · rw [if_neg c1]
        by_cases c2 : m - i + (j - i) ≤ t ∧ t < m + (j - i)
        · rw [if_pos c2, if_pos (by omega), if_pos (by omega), show t - (j - i) - (m - i) + (m + j - i) = t + i by omega]
        · rw [if_neg c2]
          by_cases c3 : m + (j - i) ≤ t ∧ t < m + j
          · rw [if_neg (by omega), if_pos (by omega), if_neg (by omega), if_pos (by omega), show t - (m + j - i) + (m - i) = t - j by omega]
          · rw [if_neg (by omega), if_neg (by omega), if_neg (by omega), if_neg (by omega)]
theorem rotF_perm (m : Nat) : ∀ (f i j : Nat) (xs : List α), 1 ≤ i → 1 ≤ j → i + j ≤ f + 2 → i ≤ m → m + j ≤ xs.length → (rotF m f i j xs).Perm xs
 | 0, i, j, xs, hi, hj, hf, hm, hl => by
  obtain rfl : i = 1 := by omega
  exact swR_perm (m - 1) m 1 0 xs (by omega) (by omega)
 | f + 1, i, j, xs, hi, hj, hf, hm, hl => by
  rw [rotF]
  split
  · exact swR_perm _ _ _ _ _ (by omega) (by omega)
  · split
    · exact (rotF_perm m f (i - j) j _ (by omega) hj (by omega) (by omega) (by rw [swR_len]; omega)).trans (swR_perm _ _ _ _ _ (by omega) (by omega))
    · exact (rotF_perm m f i (j - i) _ hi (by omega) (by omega) (by omega) (by rw [swR_len]; omega)).trans (swR_perm _ _ _ _ _ (by omega) (by omega))
theorem rotP_get {a m b : Nat} {xs : List α} (h1 : a < m) (h2 : m < b) (h3 : b ≤ xs.length) (t : Nat) : (rotP a m b xs).getD t default = if a ≤ t ∧ t < a + (b - m) then xs.getD (t + (m - a)) default else if a + (b - m) ≤ t ∧ t < b then xs.getD (t - (b - m)) default else xs.getD t default := by
 rw [rotP, rotF_get m (b - a) (m - a) (b - m) xs (by omega) (by omega) (by omega) (by omega) (by omega), show m - (m - a) = a by omega, show m + (b - m) = b by omega]
theorem rotP_perm {a m b : Nat} {xs : List α} (h1 : a < m) (h2 : m < b) (h3 : b ≤ xs.length) : (rotP a m b xs).Perm xs := rotF_perm m _ _ _ _ (by omega) (by omega) (by omega) (by omega) (by omega)
theorem search_spec {f : Nat → Bool} : ∀ (n i j : Nat), i ≤ j → j - i ≤ n → (∀ u v, i ≤ u → u ≤ v → v < j → f v = true → f u = true) →
 (∀ u, i ≤ u → u < search f n i j → f u = true) ∧ (∀ u, search f n i j ≤ u → u < j → f u = false)
 | 0, i, j, hij, hn, _ => ⟨fun u h1 h2 => by rw [search] at h2; omega, fun u h1 h2 => by rw [search] at h1; omega⟩
 | n + 1, i, j, hij, hn, hm => by
  rw [search]
  split
  · split
    · rename_i hlt hf
      obtain ⟨h1, h2⟩ := search_spec (f := f) n ((i + j) / 2 + 1) j (by omega) (by omega) (fun u v a b c d => hm u v (by omega) b c d)
      refine ⟨fun u ha hb => ?_, h2⟩
      by_cases hc : u ≤ (i + j) / 2
      · exact hm u _ ha hc (by omega) hf
      · exact h1 u (by omega) hb
    · rename_i hlt hf
      obtain ⟨h1, h2⟩ := search_spec (f := f) n i ((i + j) / 2) (by omega) (by omega) (fun u v a b c d => hm u v a b (by omega) d)
      refine ⟨h1, fun u ha hb => ?_⟩
      by_cases hc : u < (i + j) / 2
      · exact h2 u ha hc
      · rw [← Bool.not_eq_true]
        exact fun he => hf (hm _ u (by omega) (by omega) hb he)
  · exact ⟨fun u h1 h2 => by omega, fun u h1 h2 => by omega⟩
structure SW (lt : α → α → Bool) : Prop where
 asym : ∀ x y, lt x y = true → lt y x = false
 tr : ∀ x y z, lt y x = false → lt z y = false → lt z x = false
omit [Inhabited α] in
theorem SW.irr {lt : α → α → Bool} (h : SW lt) (x : α) : lt x x = false := by
 cases e : lt x x with
 | false => rfl
 | true => exact (h.asym x x e).symm ▸ e ▸ rfl
def Srt (lt : α → α → Bool) (xs : List α) (a b : Nat) : Prop := ∀ i j, a ≤ i → i ≤ j → j < b → lt (xs.getD j default) (xs.getD i default) = false
structure Mg (lt : α → α → Bool) (xs ys : List α) (a b : Nat) : Prop where
 srt : Srt lt ys a b
 out : ∀ t, t < a ∨ b ≤ t → ys.getD t default = xs.getD t default
 rng : ∀ t, a ≤ t → t < b → ∃ u, a ≤ u ∧ u < b ∧ ys.getD t default = xs.getD u default
 perm : ys.Perm xs
variable {lt : α → α → Bool}
theorem mg_same {xs : List α} {a b : Nat} (h : Srt lt xs a b) : Mg lt xs xs a b := ⟨h, fun _ _ => rfl, fun t h1 h2 => ⟨t, h1, h2, rfl⟩, .refl _⟩
theorem up_ok (h : SW lt) {a b : Nat} {xs : List α} (h1 : a + 1 < b) (hl : b ≤ xs.length) (hs : Srt lt xs (a + 1) b) :
 Mg lt xs (shU (search (fun c => lt (xs.getD c default) (xs.getD a default)) (b - (a + 1)) (a + 1) b - 1 - a) a xs) a b := by
 obtain ⟨s, hse⟩ : ∃ s, search (fun c => lt (xs.getD c default) (xs.getD a default)) (b - (a + 1)) (a + 1) b = s := ⟨_, rfl⟩
 have hle := search_le (fun c => lt (xs.getD c default) (xs.getD a default)) (b - (a + 1)) (a + 1) b (by omega)
 have hsp := search_spec (f := fun c => lt (xs.getD c default) (xs.getD a default)) (b - (a + 1)) (a + 1) b (by omega) (by omega) (fun u v hu huv hv hf => by
  cases e : lt (xs.getD u default) (xs.getD a default) with
  | true => rfl
  | false =>
   have := h.tr _ _ _ e (hs u v hu huv hv)
   rw [this] at hf
   cases hf)
 rw [hse] at hle hsp ⊢
 obtain ⟨hA, hB⟩ := hsp
 have hg := shU_get (s - 1 - a) a xs (by omega)
 refine ⟨fun i j hi hij hj => ?_, fun t ht => ?_, fun t h1 h2 => ?_, shU_perm _ _ _ (by omega)⟩
 · rw [hg, hg]
   by_cases c1 : j < s - 1
   · rw [if_pos (by omega), if_pos (by omega)]
     exact hs _ _ (by omega) (by omega) (by omega)
   · by_cases c2 : j = s - 1
     · rw [if_neg (by omega), if_pos (by omega)]
       by_cases c3 : i = s - 1
       · rw [if_neg (by omega), if_pos (by omega)]
         exact h.irr _
       · rw [if_pos (by omega)]
         exact h.asym _ _ (hA (i + 1) (by omega) (by omega))
     · rw [if_neg (by omega), if_neg (by omega)]
       by_cases c3 : i < s - 1
       · rw [if_pos (by omega)]
         exact hs _ _ (by omega) (by omega) hj
       · by_cases c4 : i = s - 1
         · rw [if_neg (by omega), if_pos (by omega)]
           exact hB j (by omega) hj
         · rw [if_neg (by omega), if_neg (by omega)]
           exact hs _ _ (by omega) hij hj
 · rw [hg, if_neg (by omega), if_neg (by omega)]
 · rw [hg]
   split
   · exact ⟨t + 1, by omega, by omega, rfl⟩
   · split
     · exact ⟨a, by omega, by omega, rfl⟩
     · exact ⟨t, h1, h2, rfl⟩
theorem down_ok (h : SW lt) {a m : Nat} {xs : List α} (h1 : a < m) (hl : m < xs.length) (hs : Srt lt xs a m) :
 Mg lt xs (shD (m - search (fun c => !lt (xs.getD m default) (xs.getD c default)) (m - a) a m) m xs) a (m + 1) := by
 obtain ⟨s, hse⟩ : ∃ s, search (fun c => !lt (xs.getD m default) (xs.getD c default)) (m - a) a m = s := ⟨_, rfl⟩
 have hle := search_le (fun c => !lt (xs.getD m default) (xs.getD c default)) (m - a) a m (by omega)
 have hsp := search_spec (f := fun c => !lt (xs.getD m default) (xs.getD c default)) (m - a) a m (by omega) (by omega) (fun u v hu huv hv hf => by
  simp only [Bool.not_eq_true'] at hf ⊢
  exact h.tr _ _ _ (hs u v hu huv hv) hf)
 rw [hse] at hle hsp ⊢
 obtain ⟨hA, hB⟩ := hsp
 simp only [Bool.not_eq_true', Bool.not_eq_false'] at hA hB
 have hg := shD_get (m - s) m xs hl (by omega)
 refine ⟨fun i j hi hij hj => ?_, fun t ht => ?_, fun t h1 h2 => ?_, shD_perm _ _ _ hl (by omega)⟩
 · rw [hg, hg]
   by_cases c1 : j < s
   · rw [if_neg (by omega), if_neg (by omega), if_neg (by omega), if_neg (by omega)]
     exact hs _ _ hi hij (by omega)
   · by_cases c2 : j = s
     · rw [if_neg (by omega), if_pos (by omega)]
       by_cases c3 : i = s
       · rw [if_neg (by omega), if_pos (by omega)]
         exact h.irr _
       · rw [if_neg (by omega), if_neg (by omega)]
         exact hA i hi (by omega)
     · rw [if_pos (by omega)]
       by_cases c3 : i < s
       · rw [if_neg (by omega), if_neg (by omega)]
         exact hs _ _ hi (by omega) (by omega)
       · by_cases c4 : i = s
         · rw [if_neg (by omega), if_pos (by omega)]
           exact h.asym _ _ (hB (j - 1) (by omega) (by omega))
         · rw [if_pos (by omega)]
           exact hs _ _ (by omega) (by omega) (by omega)
 · rw [hg, if_neg (by omega), if_neg (by omega)]
 · rw [hg]
   split
   · exact ⟨t - 1, by omega, by omega, rfl⟩
   · split
     · exact ⟨m, by omega, by omega, rfl⟩
     · exact ⟨t, h1, h2, rfl⟩
theorem sym_ok (h : SW lt) : ∀ (f a m b : Nat) (xs : List α), a < m → m < b → b ≤ xs.length → b - a ≤ f → Srt lt xs a m → Srt lt xs m b → Mg lt xs (symP lt f a m b xs) a b
 | 0, a, m, b, xs, h1, h2, _, h4, _, _ => by omega
 | f + 1, a, m, b, xs, h1, h2, h3, h4, s1, s2 => by
  rw [symP]
  split
  · rename_i e
    obtain rfl : m = a + 1 := by omega
    exact up_ok h h2 h3 s2
  split
  · rename_i e
    obtain rfl : b = m + 1 := by omega
    exact down_ok h h1 (by omega) s1
  rename_i n1 n2
  obtain ⟨mid, hmid⟩ : ∃ mid, (a + b) / 2 = mid := ⟨_, rfl⟩
  obtain ⟨lo, hlo⟩ : ∃ lo, (if mid < m then mid + m - b else a) = lo := ⟨_, rfl⟩
  obtain ⟨hi, hhi⟩ : ∃ hi, (if mid < m then mid else m) = hi := ⟨_, rfl⟩
  have hlh : a ≤ lo ∧ lo ≤ hi ∧ hi ≤ m ∧ hi ≤ mid ∧ (lo = a ∨ mid + m - lo = b) ∧ (hi = m ∨ hi = mid) ∧ mid + m - lo ≤ b := by
   by_cases c : mid < m
   · rw [if_pos c] at hlo hhi; omega
   · rw [if_neg c] at hlo hhi; omega
  have hS : symS lt a m b xs = search (fun c => !lt (xs.getD (mid + m - 1 - c) default) (xs.getD c default)) (b - a) lo hi := by
   rw [symS, hmid]
   by_cases c : mid < m
   · rw [if_pos c]; rw [if_pos c] at hlo hhi; rw [hlo, hhi]
   · rw [if_neg c]; rw [if_neg c] at hlo hhi; rw [hlo, hhi]
  have hle := search_le (fun c => !lt (xs.getD (mid + m - 1 - c) default) (xs.getD c default)) (b - a) lo hi (by omega)
  have hsp := search_spec (f := fun c => !lt (xs.getD (mid + m - 1 - c) default) (xs.getD c default)) (b - a) lo hi (by omega) (by omega) (fun u v hu huv hv hf => by
   simp only [Bool.not_eq_true'] at hf ⊢
   exact h.tr _ _ _ (h.tr _ _ _ (s1 u v (by omega) huv (by omega)) hf) (s2 (mid + m - 1 - v) (mid + m - 1 - u) (by omega) (by omega) (by omega)))
  rw [← hS] at hle hsp
  obtain ⟨s, hs⟩ : ∃ s, symS lt a m b xs = s := ⟨_, rfl⟩
  rw [hs] at hle hsp
  obtain ⟨hA, hB⟩ := hsp
  simp only [Bool.not_eq_true', Bool.not_eq_false'] at hA hB
  simp only [hs, hmid]
  obtain ⟨e, he⟩ : ∃ e, mid + m - s = e := ⟨_, rfl⟩
  rw [he]
  obtain ⟨x1, hx1⟩ : ∃ x1, (if s < m ∧ m < e then rotP s m e xs else xs) = x1 := ⟨_, rfl⟩
  rw [hx1]
  have g1 : ∀ t, x1.getD t default = if s ≤ t ∧ t < mid then xs.getD (t + (m - s)) default else if mid ≤ t ∧ t < e then xs.getD (t - (e - m)) default else xs.getD t default := fun t => by
   rw [← hx1]
   split
   · rename_i c
     rw [rotP_get c.1 c.2 (by omega), show s + (e - m) = mid by omega]
   · rename_i c
     by_cases c1 : s ≤ t ∧ t < mid
     · rw [if_pos c1, show t + (m - s) = t by omega]
     · rw [if_neg c1]
       by_cases c2 : mid ≤ t ∧ t < e
       · rw [if_pos c2, show t - (e - m) = t by omega]
       · rw [if_neg c2]
  have p1 : x1.Perm xs := by
   rw [← hx1]
   split
   · rename_i c
     exact rotP_perm c.1 c.2 (by omega)
   · exact .refl _
  have hl1 : x1.length = xs.length := p1.length_eq
  have sA : Srt lt x1 a s := fun i j hi hij hj => by
   rw [g1, g1, if_neg (by omega), if_neg (by omega), if_neg (by omega), if_neg (by omega)]
   exact s1 i j hi hij (by omega)
  have sB : Srt lt x1 s mid := fun i j hi hij hj => by
   rw [g1, g1, if_pos (by omega), if_pos (by omega)]
   exact s2 _ _ (by omega) (by omega) (by omega)
  have sC : Srt lt x1 mid e := fun i j hi hij hj => by
   rw [g1, g1, if_neg (by omega), if_pos (by omega), if_neg (by omega), if_pos (by omega)]
   exact s1 _ _ (by omega) (by omega) (by omega)
  have sD : Srt lt x1 e b := fun i j hi hij hj => by
   rw [g1, g1, if_neg (by omega), if_neg (by omega), if_neg (by omega), if_neg (by omega)]
   exact s2 i j (by omega) hij hj
  have cross : ∀ i j, a ≤ i → i < mid → mid ≤ j → j < b → lt (x1.getD j default) (x1.getD i default) = false := fun i j hi1 hi2 hj1 hj2 => by
   rw [g1, g1]
   by_cases ci : i < s
   · rw [if_neg (by omega), if_neg (show ¬ (s ≤ i ∧ i < mid) by omega), if_neg (show ¬ (mid ≤ i ∧ i < e) by omega)]
     by_cases cj : j < e
     · rw [if_pos (by omega)]
       exact s1 _ _ hi1 (by omega) (by omega)
     · rw [if_neg (by omega)]
       have hslo : lo < s := by omega
       have := hA (s - 1) (by omega) (by omega)
       rw [show mid + m - 1 - (s - 1) = e by omega] at this
       exact h.tr _ _ _ (h.tr _ _ _ (s1 i (s - 1) hi1 (by omega) (by omega)) this) (s2 e j (by omega) (by omega) hj2)
   · rw [if_neg (show ¬ (s ≤ j ∧ j < mid) by omega), if_pos (show s ≤ i ∧ i < mid by omega)]
     by_cases cj : j < e
     · rw [if_pos (by omega)]
       have hshi : s < hi := by omega
       have := hB s (by omega) hshi
       rw [show mid + m - 1 - s = e - 1 by omega] at this
       exact h.tr _ _ _ (h.tr _ _ _ (s2 (i + (m - s)) (e - 1) (by omega) (by omega) (by omega)) (h.asym _ _ this)) (s1 s (j - (e - m)) (by omega) (by omega) (by omega))
     · rw [if_neg (by omega)]
       exact s2 _ _ (by omega) (by omega) hj2
  obtain ⟨x2, hx2⟩ : ∃ x2, (if a < s ∧ s < mid then symP lt f a s mid x1 else x1) = x2 := ⟨_, rfl⟩
  rw [hx2]
  have m2 : Mg lt x1 x2 a mid := by
   rw [← hx2]
   split
   · rename_i c
     exact sym_ok h f a s mid x1 c.1 c.2 (by omega) (by omega) sA sB
   · rename_i c
     refine mg_same fun i j hi hij hj => ?_
     by_cases c1 : s = a
     · exact sB i j (by omega) hij hj
     · exact sA i j hi hij (by omega)
  have hl2 : x2.length = x1.length := m2.perm.length_eq
  obtain ⟨x3, hx3⟩ : ∃ x3, (if mid < e ∧ e < b then symP lt f mid e b x2 else x2) = x3 := ⟨_, rfl⟩
  rw [hx3]
  have o2 : ∀ t, mid ≤ t → x2.getD t default = x1.getD t default := fun t ht => m2.out t (.inr ht)
  have m3 : Mg lt x2 x3 mid b := by
   have sC2 : Srt lt x2 mid e := fun i j hi hij hj => by rw [o2 _ (by omega), o2 _ (by omega)]; exact sC i j hi hij hj
   have sD2 : Srt lt x2 e b := fun i j hi hij hj => by rw [o2 _ (by omega), o2 _ (by omega)]; exact sD i j hi hij hj
   rw [← hx3]
   split
   · rename_i c
     exact sym_ok h f mid e b x2 c.1 c.2 (by omega) (by omega) sC2 sD2
   · rename_i c
     refine mg_same fun i j hi hij hj => ?_
     by_cases c1 : e = mid
     · exact sD2 i j (by omega) hij hj
     · exact sC2 i j hi hij (by omega)
  have o3 : ∀ t, t < mid → x3.getD t default = x2.getD t default := fun t ht => m3.out t (.inl ht)
  have r1 : ∀ t, a ≤ t → t < b → ∃ u, a ≤ u ∧ u < b ∧ x1.getD t default = xs.getD u default := fun t ht1 ht2 => by
   rw [g1]
   split
   · exact ⟨_, by omega, by omega, rfl⟩
   · split
     · exact ⟨_, by omega, by omega, rfl⟩
     · exact ⟨t, ht1, ht2, rfl⟩
  refine ⟨fun i j hi hij hj => ?_, fun t ht => ?_, fun t ht1 ht2 => ?_, m3.perm.trans (m2.perm.trans p1)⟩
  · by_cases cj : j < mid
    · rw [o3 _ cj, o3 _ (by omega)]
      exact m2.srt i j hi hij cj
    · by_cases ci : i < mid
      · rw [o3 _ ci]
        obtain ⟨u, u1, u2, e1⟩ := m2.rng i hi ci
        obtain ⟨v, v1, v2, e2⟩ := m3.rng j (by omega) hj
        rw [e1, e2, o2 _ v1]
        exact cross u v u1 u2 v1 v2
      · exact m3.srt i j (by omega) hij hj
  · rcases ht with ht | ht
    · rw [o3 _ (by omega), m2.out t (.inl ht), g1, if_neg (by omega), if_neg (by omega)]
    · rw [m3.out t (.inr ht), o2 _ (by omega), g1, if_neg (by omega), if_neg (by omega)]
  · by_cases c : t < mid
    · obtain ⟨u, u1, u2, e1⟩ := m2.rng t ht1 c
      obtain ⟨v, v1, v2, e2⟩ := r1 u u1 (by omega)
      exact ⟨v, v1, v2, by rw [o3 _ c, e1, e2]⟩
    · obtain ⟨u, u1, u2, e1⟩ := m3.rng t (by omega) ht2
      obtain ⟨v, v1, v2, e2⟩ := r1 u (by omega) u2
      exact ⟨v, v1, v2, by rw [e1, o2 _ u1, e2]⟩
structure Bl (lt : α → α → Bool) (xs ys : List α) (a b : Nat) : Prop where
 srt : Srt lt ys a b
 out : ∀ t, t < a ∨ b ≤ t → ys.getD t default = xs.getD t default
 perm : ys.Perm xs
theorem Srt.mono {xs : List α} {a b c d : Nat} (h : Srt lt xs a b) (h1 : a ≤ c) (h2 : d ≤ b) : Srt lt xs c d := fun i j hi hij hj => h i j (by omega) hij (by omega)
theorem Srt.same {xs ys : List α} {a b : Nat} (h : Srt lt xs a b) (e : ∀ t, a ≤ t → t < b → ys.getD t default = xs.getD t default) : Srt lt ys a b := fun i j hi hij hj => by
 rw [e j (by omega) hj, e i hi (by omega)]
 exact h i j hi hij hj
theorem insJ_ok (h : SW lt) (a : Nat) : ∀ (j : Nat) (xs : List α), a ≤ j → j < xs.length → Srt lt xs a j → Mg lt xs (insJ lt a j xs) a (j + 1)
 | 0, xs, h1, _, _ => mg_same fun i j hi hij hj => by
  obtain rfl : i = j := by omega
  exact h.irr _
 | j + 1, xs, h1, hl, hs => by
  rw [insJ]
  split
  · rename_i c
    obtain ⟨ys, hy⟩ : ∃ ys, swapL xs (j + 1) j = ys := ⟨_, rfl⟩
    rw [hy]
    have g : ∀ t, ys.getD t default = if t = j then xs.getD (j + 1) default else if t = j + 1 then xs.getD j default else xs.getD t default := fun t => by rw [← hy, swapL_get hl (by omega)]
    have sy : Srt lt ys a j := (hs.mono (Nat.le_refl _) (by omega)).same fun t _ h2 => by rw [g, if_neg (by omega), if_neg (by omega)]
    have m := insJ_ok h a j ys (by omega) (by rw [← hy, swapL_len]; omega) sy
    have e1 : (insJ lt a j ys).getD (j + 1) default = xs.getD j default := by rw [m.out _ (.inr (by omega)), g, if_neg (by omega), if_pos rfl]
    refine ⟨fun i k hi hik hk => ?_, fun t ht => ?_, fun t h1 h2 => ?_, m.perm.trans (hy ▸ swapL_perm hl (by omega))⟩
    · by_cases ck : k = j + 1
      · subst ck
        by_cases ci : i = j + 1
        · subst ci; exact h.irr _
        · obtain ⟨u, u1, u2, e⟩ := m.rng i hi (by omega)
          rw [e1, e, g]
          split
          · exact h.asym _ _ c.2
          · rw [if_neg (by omega)]
            exact hs u j u1 (by omega) (by omega)
      · exact m.srt i k hi hik (by omega)
    · rw [m.out t (by omega), g, if_neg (by omega), if_neg (by omega)]
    · by_cases ct : t = j + 1
      · subst ct
        exact ⟨j, by omega, by omega, e1⟩
      · obtain ⟨u, u1, u2, e⟩ := m.rng t h1 (by omega)
        rw [e, g]
        split
        · exact ⟨j + 1, by omega, by omega, rfl⟩
        · rw [if_neg (by omega)]
          exact ⟨u, u1, by omega, rfl⟩
  · rename_i c
    refine mg_same fun i k hi hik hk => ?_
    by_cases ck : k = j + 1
    · subst ck
      by_cases ci : i = j + 1
      · subst ci; exact h.irr _
      · have c2 : lt (xs.getD (j + 1) default) (xs.getD j default) = false := by
         rw [← Bool.not_eq_true]
         exact fun e => c ⟨by omega, e⟩
        exact h.tr _ _ _ (hs i j hi (by omega) (by omega)) c2
    · exact hs i k hi hik (by omega)
theorem insI_ok (h : SW lt) (a : Nat) : ∀ (n i : Nat) (xs : List α), a ≤ i → i + n ≤ xs.length → Srt lt xs a i → Bl lt xs (insI lt a n i xs) a (i + n)
 | 0, _, _, _, _, hs => ⟨hs, fun _ _ => rfl, .refl _⟩
 | n + 1, i, xs, h1, hl, hs => by
  rw [insI]
  have m := insJ_ok h a i xs h1 (by omega) hs
  have b := insI_ok h a n (i + 1) _ (by omega) (by rw [insJ_len]; omega) m.srt
  exact ⟨b.srt.mono (Nat.le_refl _) (by omega), fun t ht => by rw [b.out t (by omega), m.out t (by omega)], b.perm.trans m.perm⟩
theorem insP_ok (h : SW lt) {a b : Nat} {xs : List α} (hl : b ≤ xs.length) : Bl lt xs (insP lt a b xs) a b := by
 have s1 : Srt lt xs a (a + 1) := fun i j hi hij hj => by
  obtain rfl : i = j := by omega
  exact h.irr _
 rw [insP]
 by_cases c : a + 1 ≤ b
 · have := insI_ok h a (b - (a + 1)) (a + 1) xs (by omega) (by omega) s1
   rwa [show a + 1 + (b - (a + 1)) = b by omega] at this
 · rw [show b - (a + 1) = 0 by omega]
   exact ⟨s1.mono (Nat.le_refl _) (by omega), fun _ _ => rfl, .refl _⟩
def Bk (lt : α → α → Bool) (n z a : Nat) (xs : List α) : Prop := ∀ k, Srt lt xs (a + z * k) (min (a + z * k + z) n)
theorem bk_cons {n z a : Nat} {xs : List α} (h1 : Srt lt xs a (min (a + z) n)) (h2 : Bk lt n z (a + z) xs) : Bk lt n z a xs := fun k => by
 cases k with
 | zero => exact h1
 | succ k =>
  have := h2 k
  rwa [show a + z + z * k = a + z * (k + 1) by rw [Nat.mul_succ]; omega] at this
theorem bk_tail {n z a : Nat} {xs : List α} (h : Bk lt n z a xs) : Bk lt n z (a + z) xs := fun k => by
 have := h (k + 1)
 rwa [show a + z * (k + 1) = a + z + z * k by rw [Nat.mul_succ]; omega] at this
theorem bk_head {n z a : Nat} {xs : List α} (h : Bk lt n z a xs) : Srt lt xs a (min (a + z) n) := h 0
theorem bk_of {n z a : Nat} {xs : List α} (h : Srt lt xs a n) : Bk lt n z a xs := fun k => h.mono (by omega) (by omega)
theorem bk_same {n z a : Nat} {xs ys : List α} (h : Bk lt n z a xs) (e : ∀ t, a ≤ t → ys.getD t default = xs.getD t default) : Bk lt n z a ys := fun k => (h k).same fun t h1 _ => e t (by omega)
theorem blkP_ok (h : SW lt) (n : Nat) : ∀ (f a : Nat) (xs : List α), n ≤ xs.length → Bk lt n 20 a (blkP lt n f a xs) ∧ (∀ t, t < a → (blkP lt n f a xs).getD t default = xs.getD t default) ∧ (blkP lt n f a xs).Perm xs
 | 0, a, xs, hl => by
  rw [blkP]
  have b := insP_ok h (a := a) hl
  exact ⟨bk_of b.srt, fun t ht => b.out t (.inl ht), b.perm⟩
 | f + 1, a, xs, hl => by
  rw [blkP]
  split
  · rename_i c
    have b := insP_ok h (a := a) (b := a + 20) (xs := xs) (by omega)
    obtain ⟨i1, i2, i3⟩ := blkP_ok h n f (a + 20) (insP lt a (a + 20) xs) (by rw [insP_len]; exact hl)
    exact ⟨bk_cons ((b.srt.same fun t _ ht => i2 t ht).mono (Nat.le_refl _) (by omega)) i1, fun t ht => by rw [i2 t (by omega), b.out t (.inl ht)], i3.trans b.perm⟩
  · have b := insP_ok h (a := a) hl
    exact ⟨bk_of b.srt, fun t ht => b.out t (.inl ht), b.perm⟩
theorem mrg_last (h : SW lt) {n z a : Nat} {xs : List α} (hz : 0 < z) (hl : n ≤ xs.length) (hb : Bk lt n z a xs) (hc : n ≤ a + 2 * z) (c : a + z < n) : Mg lt xs (symP lt (n - a) a (a + z) n xs) a n :=
 sym_ok h _ _ _ _ _ (by omega) c hl (Nat.le_refl _) ((bk_head hb).mono (Nat.le_refl _) (by omega)) ((bk_head (bk_tail hb)).mono (Nat.le_refl _) (by omega))
theorem mrgP_ok (h : SW lt) (n z : Nat) (hz : 0 < z) : ∀ (f a : Nat) (xs : List α), n ≤ xs.length → n ≤ a + 2 * z + f → Bk lt n z a xs →
 Bk lt n (2 * z) a (mrgP lt n z f a xs) ∧ (∀ t, t < a → (mrgP lt n z f a xs).getD t default = xs.getD t default) ∧ (mrgP lt n z f a xs).Perm xs
 | 0, a, xs, hl, hf, hb => by
  rw [mrgP]
  split
  · rename_i c
    have m := mrg_last h hz hl hb (by omega) c
    exact ⟨bk_of m.srt, fun t ht => m.out t (.inl ht), m.perm⟩
  · exact ⟨bk_of ((bk_head hb).mono (Nat.le_refl _) (by omega)), fun _ _ => rfl, .refl _⟩
 | f + 1, a, xs, hl, hf, hb => by
  rw [mrgP]
  split
  · rename_i c
    have m := sym_ok h (2 * z) a (a + z) (a + 2 * z) xs (by omega) (by omega) (by omega) (by omega) ((bk_head hb).mono (Nat.le_refl _) (by omega)) ((bk_head (bk_tail hb)).mono (Nat.le_refl _) (by omega))
    have hb2 := bk_tail (bk_tail hb)
    rw [show a + z + z = a + 2 * z by omega] at hb2
    obtain ⟨i1, i2, i3⟩ := mrgP_ok h n z hz f (a + 2 * z) (symP lt (2 * z) a (a + z) (a + 2 * z) xs) (by rw [symP_len]; exact hl) (by omega) (bk_same hb2 fun t ht => m.out t (.inr ht))
    exact ⟨bk_cons ((m.srt.same fun t _ ht => i2 t ht).mono (Nat.le_refl _) (by omega)) i1, fun t ht => by rw [i2 t (by omega), m.out t (.inl ht)], i3.trans m.perm⟩
  · split
    · rename_i _ c
      have m := mrg_last h hz hl hb (by omega) c
      exact ⟨bk_of m.srt, fun t ht => m.out t (.inl ht), m.perm⟩
    · exact ⟨bk_of ((bk_head hb).mono (Nat.le_refl _) (by omega)), fun _ _ => rfl, .refl _⟩
theorem outP_ok (h : SW lt) (n : Nat) : ∀ (f z : Nat) (xs : List α), 0 < z → n ≤ xs.length → n ≤ z + f → Bk lt n z 0 xs → Srt lt (outP lt n f z xs) 0 n ∧ (outP lt n f z xs).Perm xs
 | 0, z, xs, _, _, hf, hb => ⟨(bk_head hb).mono (Nat.le_refl _) (by omega), .refl _⟩
 | f + 1, z, xs, hz, hl, hf, hb => by
  rw [outP]
  split
  · rename_i c
    obtain ⟨i1, _, i3⟩ := mrgP_ok h n z hz n 0 xs hl (by omega) hb
    obtain ⟨j1, j2⟩ := outP_ok h n f (2 * z) _ (by omega) (by rw [mrgP_len]; exact hl) (by omega) i1
    exact ⟨j1, j2.trans i3⟩
  · exact ⟨(bk_head hb).mono (Nat.le_refl _) (by omega), .refl _⟩
theorem sortP_srt (h : SW lt) (xs : List α) : Srt lt (sortP lt xs) 0 xs.length ∧ (sortP lt xs).Perm xs := by
 obtain ⟨b1, _, b3⟩ := blkP_ok h xs.length xs.length 0 xs (Nat.le_refl _)
 obtain ⟨o1, o2⟩ := outP_ok h xs.length xs.length 20 (blkP lt xs.length xs.length 0 xs) (by omega) (by rw [blkP_len]; exact Nat.le_refl _) (by omega) b1
 exact ⟨o1, o2.trans b3⟩
end
end
section
section
variable {β : Type} [Inhabited β] (key : β → ByteArray)
def atB (out : List β) (t : β) : Nat → Nat
 | 0 => 0
 | k + 1 => if ltB (key t) (key (out.getD k default)) = true then atB out t k else k + 1
def insB (out : List β) (t : β) : List β := out.take (atB key out t out.length) ++ t :: out.drop (atB key out t out.length)
theorem atB_le (out : List β) (t : β) : ∀ k, atB key out t k ≤ k
 | 0 => Nat.le_refl _
 | k + 1 => by
  rw [atB]
  split
  · exact Nat.le_succ_of_le (atB_le out t k)
  · exact Nat.le_refl _
theorem atB_up (out : List β) (t : β) : ∀ k j, atB key out t k ≤ j → j < k → ltB (key t) (key (out.getD j default)) = true
 | 0, _, _, h => absurd h (Nat.not_lt_zero _)
 | k + 1, j, h1, h2 => by
  rw [atB] at h1
  split at h1
  · rename_i c
    by_cases e : j = k
    · subst e; exact c
    · exact atB_up out t k j h1 (by omega)
  · omega
theorem atB_dn (out : List β) (t : β) : ∀ k, 0 < atB key out t k → ltB (key t) (key (out.getD (atB key out t k - 1) default)) = false
 | 0, h => absurd h (Nat.not_lt_zero _)
 | k + 1, h => by
  rw [atB] at h ⊢
  split
  · rename_i c
    rw [if_pos c] at h
    exact atB_dn out t k h
  · rename_i c
    exact Bool.not_eq_true _ ▸ c
theorem insB_perm (out : List β) (t : β) : (insB key out t).Perm (t :: out) := by
 rw [insB]
 refine List.perm_middle.trans ?_
 rw [List.take_append_drop]
def SrtB (l : List β) : Prop := l.Pairwise (fun x y => ltB (key x) (key y) = true)
theorem insB_srt {out : List β} {t : β} (h : SrtB key out) (hn : ∀ x ∈ out, key x ≠ key t) : SrtB key (insB key out t) := by
 obtain ⟨n, hne⟩ : ∃ n, atB key out t out.length = n := ⟨_, rfl⟩
 have hle := atB_le key out t out.length
 have hup := atB_up key out t out.length
 have hdn := atB_dn key out t out.length
 unfold SrtB at h ⊢
 rw [insB, hne] at *
 have hs := h
 rw [← List.take_append_drop n out, List.pairwise_append] at hs
 obtain ⟨h1, h2, h3⟩ := hs
 have hd : ∀ y ∈ out.drop n, ltB (key t) (key y) = true := fun y hy => by
  obtain ⟨j, hj, rfl⟩ := List.getElem_of_mem hy
  rw [List.length_drop] at hj
  have := hup (n + j) (by omega) (by omega)
  rw [List.getElem_drop]
  rwa [List.getD_eq_getElem?_getD, List.getElem?_eq_getElem (by omega), Option.getD_some] at this
 have ht : ∀ x ∈ out.take n, ltB (key x) (key t) = true := fun x hx => by
  obtain ⟨j, hj, rfl⟩ := List.getElem_of_mem hx
  rw [List.length_take] at hj
  rw [List.getElem_take]
  have d := hdn (by omega)
  rw [List.getD_eq_getElem?_getD, List.getElem?_eq_getElem (by omega), Option.getD_some] at d
  have l1 : ltB (key out[n - 1]) (key t) = true := (lt_or d).resolve_right fun e => hn _ (List.getElem_mem (by omega)) e.symm
  by_cases e : j = n - 1
  · subst e; exact l1
  · exact lt_trans ((List.pairwise_iff_getElem.1 h) j (n - 1) (by omega) (by omega) (by omega)) l1
 rw [List.pairwise_append, List.pairwise_cons]
 refine ⟨h1, ⟨hd, h2⟩, fun x hx y hy => ?_⟩
 rcases List.mem_cons.1 hy with rfl | hy
 · exact ht x hx
 · exact h3 x hx y hy
def outB (p : β → Bool) (ts : List β) : Nat → List β
 | 0 => []
 | i + 1 => if p (ts.getD i default) = true then outB p ts i else insB key (outB p ts i) (ts.getD i default)
theorem outB_perm (p : β → Bool) (ts : List β) : ∀ i, i ≤ ts.length → (outB key p ts i).Perm ((ts.take i).filter (fun x => !p x))
 | 0, _ => by simp [outB]
 | i + 1, h => by
  have ih := outB_perm p ts i (by omega)
  have e : ts.take (i + 1) = ts.take i ++ [ts.getD i default] := by
   rw [List.take_add_one, List.getElem?_eq_getElem (by omega), List.getD_eq_getElem?_getD, List.getElem?_eq_getElem (by omega)]
   rfl
  rw [outB, e, List.filter_append]
  split
  · rename_i c
    rw [List.filter_cons_of_neg (by rw [c]; decide), List.filter_nil, List.append_nil]
    exact ih
  · rename_i c
    rw [List.filter_cons_of_pos (by rw [Bool.eq_false_iff.2 c]; rfl), List.filter_nil]
    exact (insB_perm key _ _).trans ((ih.cons _).trans (List.perm_append_singleton _ _).symm)
theorem outB_srt (p : β → Bool) (ts : List β) (hn : (ts.map key).Nodup) : ∀ i, i ≤ ts.length → SrtB key (outB key p ts i)
 | 0, _ => List.Pairwise.nil
 | i + 1, h => by
  have ih := outB_srt p ts hn i (by omega)
  rw [outB]
  split
  · exact ih
  · refine insB_srt key ih fun x hx e => ?_
    have hx2 := (List.mem_filter.1 ((outB_perm key p ts i (by omega)).mem_iff.1 hx)).1
    obtain ⟨j, hj, rfl⟩ := List.getElem_of_mem hx2
    rw [List.length_take] at hj
    rw [List.getElem_take, List.getD_eq_getElem?_getD, List.getElem?_eq_getElem (by omega), Option.getD_some] at e
    have := (List.nodup_iff_pairwise_ne.1 hn)
    rw [List.pairwise_map] at this
    exact List.pairwise_iff_getElem.1 this j i (by omega) (by omega) (by omega) e
theorem outB_eq {p : β → Bool} {ts l : List β} (hl : SrtB key l) (hp : l.Perm ts) : l.filter (fun x => !p x) = outB key p ts ts.length := by
 have hn : (l.map key).Nodup := by
  rw [List.nodup_iff_pairwise_ne, List.pairwise_map]
  exact hl.imp fun h => lt_ne h
 have hn2 : (ts.map key).Nodup := (hp.map key).nodup_iff.1 hn
 refine List.Perm.eq_of_pairwise (le := fun x y => ltB (key x) (key y) = true) (fun a b _ _ h1 h2 => ?_) (hl.filter _) (outB_srt key p ts hn2 _ (Nat.le_refl _)) ?_
 · rw [lt_asymm h1] at h2; cases h2
 · refine (hp.filter _).trans ?_
   have := outB_perm key p ts ts.length (Nat.le_refl _)
   rw [List.take_length] at this
   exact this.symm
theorem srtB_of {xs : List β} (h : ∀ i j, i ≤ j → j < xs.length → ltB (key (xs.getD j default)) (key (xs.getD i default)) = false) (hd : ∀ j, j + 1 < xs.length → key (xs.getD (j + 1) default) ≠ key (xs.getD j default)) : SrtB key xs := by
 refine List.pairwise_iff_getElem.2 fun i j hi hj hij => ?_
 have g : ∀ k (hk : k < xs.length), xs[k] = xs.getD k default := fun k hk => by rw [List.getD_eq_getElem?_getD, List.getElem?_eq_getElem hk, Option.getD_some]
 rw [g i hi, g j hj]
 have l1 : ltB (key (xs.getD i default)) (key (xs.getD (i + 1) default)) = true := (lt_or (h i (i + 1) (by omega) (by omega))).resolve_right fun e => hd i (by omega) e
 rcases lt_or (h (i + 1) j (by omega) hj) with l2 | e
 · exact lt_trans l1 l2
 · rw [e]; exact l1
def dupK (xs : List β) : Prop := ∃ i k, k < i ∧ i < xs.length ∧ key (xs.getD i default) = key (xs.getD k default)
theorem dupK_nodup {xs : List β} : ¬ dupK key xs ↔ (xs.map key).Nodup := by
 rw [List.nodup_iff_pairwise_ne, List.pairwise_map, List.pairwise_iff_getElem]
 have g : ∀ k (hk : k < xs.length), xs.getD k default = xs[k] := fun k hk => by rw [List.getD_eq_getElem?_getD, List.getElem?_eq_getElem hk, Option.getD_some]
 constructor
 · exact fun h i j hi hj hij e => h ⟨j, i, hij, hj, by rw [g i hi, g j hj]; exact e.symm⟩
 · rintro h ⟨i, k, h1, h2, e⟩
   rw [g i h2, g k (by omega)] at e
   exact h k i (by omega) h2 h1 e.symm
theorem dupK_perm {xs ys : List β} (h : xs.Perm ys) : dupK key xs ↔ dupK key ys := by
 have e : ¬ dupK key xs ↔ ¬ dupK key ys := by
  rw [dupK_nodup, dupK_nodup]
  exact (h.map key).nodup_iff
 exact ⟨fun a => Classical.byContradiction fun b => e.2 b a, fun a => Classical.byContradiction fun b => e.1 b a⟩
end
end
end Go.Eng
namespace Go.YtmpoffijcfaalaaGreat
open Go.Eng
def toC (x : Tcounted25) : Tcounted := ⟨x.fA, x.fGroup⟩
def keyR (l : List Tcounted25) (j : Nat) : ByteArray := (l.getD j default).fA.fKey
def dupR (l : List Tcounted25) : Bool := !allI l.length (fun i => allI i (fun k => !decide (keyR l i = keyR l k)))
def ztot (k : ByteArray) : TTotal := { fKey := k, fSpan := { fLo := 0, fHi := 0 }, fValue := 0 }
def ptot (t : TTotal) : Bool := decide (t = ztot t.fKey)
def totR (ss : List TState) (rr : List (List TRight)) (l : List Tcounted25) : List TTotal := l.map fun c => totC ss rr (toC c)
def okR (ss : List TState) (rr : List (List TRight)) (l : List Tcounted25) : Bool := allI l.length (fun j => (hasV ss rr (toC (l.getD j default))).2)
def outR (ss : List TState) (rr : List (List TRight)) (l : List Tcounted25) (i : Nat) : List TTotal := outB TTotal.fKey ptot (totR ss rr l) i
def toldR (ss : List TState) (rr : List (List TRight)) (l : List Tcounted25) : List TTotal × Int :=
 if dupR l = true then ([], 171) else if okR ss rr l = true then (outR ss rr l l.length, 0) else ([], 150)
structure CntOk (ss : List TState) (c : Tcounted25) : Prop where
 hh : c.fA.fHolders.length ≤ 1000
 hn : ∀ x ∈ c.fA.fHolders, 1 ≤ x.fNode
 hlk : ¬ c.fA.fLock.fClient = 0 → 1 ≤ c.fA.fLock.fHome ∧ c.fA.fLock.fHome ≤ (ss.length : Int)
theorem partsC_BW {ss : List TState} {rr : List (List TRight)} {c : Tcounted} (hrw : ∀ l ∈ rr, ∀ r ∈ l, r.wf) (hb : InI c.fAccount.fBase) (hl : InI c.fAccount.fLock.fN) (hh : c.fAccount.fHolders.length ≤ 1000) : BW (partsC ss rr c).sum := by
 have h1 := psum_in (rr := rr) (c := c) hrw hb c.fAccount.fHolders.length
 rw [partsC, List.sum_append]
 have h2 : -9223372036854775808 ≤ (lockPart ss c.fAccount).sum ∧ (lockPart ss c.fAccount).sum ≤ 9223372036854775807 := by
  obtain ⟨a, b⟩ := hl
  rw [lockPart]
  split
  · split
    · simp only [List.sum_cons, List.sum_nil]; omega
    · simp
  · simp
 unfold BW
 omega
theorem wrapS {S : Int} (h : sumOk S = true) : IntKind.i64.wrap (S % 18446744073709551616) = sumI S := by
 rw [sumI, if_pos h, wrapi]
 simp only [sumOk, Bool.and_eq_true, decide_eq_true_eq] at h
 omega
theorem told_ok {S : Int} {sp : TSpan} : (!sumOk S || !hasP sp (IntKind.i64.wrap (S % 18446744073709551616))) = !(decide (sumE S = 0) && hasP sp (sumI S)) := by
 rcases Bool.eq_false_or_eq_true (sumOk S) with h | h
 · rw [wrapS h, h, sumE, if_pos h]; rfl
 · rw [h, sumE, if_neg (by rw [h]; decide)]; rfl
theorem gt_ltB {a b : ByteArray} : (!(ltB a b || decide (a = b))) = ltB b a := by
 rw [Bool.eq_iff_iff]
 simp only [Bool.not_eq_true', Bool.or_eq_false_iff, decide_eq_false_iff_not]
 constructor
 · rintro ⟨h1, h2⟩
   exact (lt_or h1).resolve_right fun e => h2 e
 · intro h
   exact ⟨lt_asymm h, fun e => by subst e; exact lt_ne h rfl⟩
theorem totR_get {ss : List TState} {rr : List (List TRight)} {l : List Tcounted25} {i : Nat} (h : i < l.length) : (totR ss rr l).getD i default = totC ss rr (toC (l.getD i default)) := by
 rw [totR, List.getD_eq_getElem?_getD, List.getElem?_map, List.getD_eq_getElem?_getD, List.getElem?_eq_getElem h]
 rfl
theorem outR_T {ss : List TState} {rr : List (List TRight)} {l : List Tcounted25} {i : Nat} (hi : i < l.length) (h : totC ss rr (toC (l.getD i default)) = ztot (l.getD i default).fA.fKey) : outR ss rr l i = outR ss rr l (i + 1) := by
 rw [show outR ss rr l (i + 1) = outB TTotal.fKey ptot (totR ss rr l) (i + 1) from rfl, outB, totR_get hi, if_pos (show ptot _ = true from decide_eq_true h)]
 rfl
theorem outR_F {ss : List TState} {rr : List (List TRight)} {l : List Tcounted25} {i k : Nat} (hi : i < l.length) (h : ¬ totC ss rr (toC (l.getD i default)) = ztot (l.getD i default).fA.fKey)
 (hk : atB TTotal.fKey (outR ss rr l i) (totC ss rr (toC (l.getD i default))) (outR ss rr l i).length = k) :
 (outR ss rr l i).take k ++ [totC ss rr (toC (l.getD i default))] ++ (outR ss rr l i).drop k = outR ss rr l (i + 1) := by
 rw [show outR ss rr l (i + 1) = outB TTotal.fKey ptot (totR ss rr l) (i + 1) from rfl, outB, totR_get hi, if_neg (by rw [ptot]; simp only [decide_eq_true_eq]; exact h), insB]
 rw [show outB TTotal.fKey ptot (totR ss rr l) i = outR ss rr l i from rfl, hk, List.append_assoc]
 rfl
theorem insB_len {β : Type} [Inhabited β] (key : β → ByteArray) (out : List β) (t : β) : (insB key out t).length = out.length + 1 := (insB_perm key out t).length_eq
theorem outR_len (ss : List TState) (rr : List (List TRight)) (l : List Tcounted25) : ∀ i, (outR ss rr l i).length ≤ i
 | 0 => Nat.le_refl _
 | i + 1 => by
  have := outR_len ss rr l i
  rw [show outR ss rr l (i + 1) = outB TTotal.fKey ptot (totR ss rr l) (i + 1) from rfl, outB]
  split
  · exact Nat.le_succ_of_le this
  · rw [insB_len]; exact Nat.succ_le_succ this
theorem atB_T {β : Type} [Inhabited β] {key : β → ByteArray} {out : List β} {t : β} {k : Nat} (h0 : 0 < k) (h : ltB (key t) (key (out.getD (k - 1) default)) = true) : atB key out t k = atB key out t (k - 1) := by
 obtain ⟨j, rfl⟩ : ∃ j, k = j + 1 := ⟨k - 1, by omega⟩
 rw [atB, if_pos (by simpa using h)]
 rfl
theorem atB_F {β : Type} [Inhabited β] {key : β → ByteArray} {out : List β} {t : β} {k : Nat} (h : 0 < k → ltB (key t) (key (out.getD (k - 1) default)) = false) : atB key out t k = k := by
 cases k with
 | zero => rfl
 | succ j =>
  rw [atB, if_neg]
  have := h (by omega)
  simp only [Nat.add_sub_cancel] at this
  rw [this]; decide
end Go.YtmpoffijcfaalaaGreat
namespace Go.Eng
open Go.RowKit
section
def cel (u : Value) (i : Nat) : Value := u.cells.toList.getD i undef
section
variable {c : Cx} {ops : Array Oper} {J : Cx → Array Oper → List Oper → Env → Own → List Atom → Prop} [iJ : IsJ J] {env : Env} {L : Own} {D : List Atom} {rest : List Oper} {d : Nat} {t : TypeId} {p : String} {af : Array Edge} {x : Operand} {T : TypeId}
include iJ
theorem slF {α : Type} {r : Rep α} (i n : Nat) {xs : List α} {sv : Value} {lo : Operand} {l : Int} {E : TypeId} (hx : ev env x = some sv) (hA : D[i]? = some (@Atom.mk (List α) (@repList α r) sv xs)) (ht : SliceTy c.P T E r.size)
 (e1 : ev env lo = some (.int .i64 l)) (hl : l = (n : Int)) (h3 : n ≤ xs.length) (hn : Nat.blt d c.n = true)
 (k : ∀ u, J c ops rest ((d, u) :: env) L ((@Atom.mk (List α) (@repList α r) u (xs.drop n)) :: D)) :
 J c ops (⟨some d, .slice T x (some lo) none none, t, p, af, none⟩ :: rest) env L D :=
 iJ.read (σ := Value) rfl rfl (fun u => (d, u) :: env) (fun u => (@Atom.mk (List α) (@repList α r) u (xs.drop n)) :: D) (fun a w f st dh => by
  subst hl
  obtain ⟨ha, hrd⟩ := dh.at_ i hA
  obtain ⟨A, cc, hsv, _⟩ := hrd
  simp only at hsv ha
  rw [cells_of_not ha] at hsv
  have hsv : sv = .slice A xs.length cc := by simpa using hsv
  subst hsv
  have hrd : rdSlice (Sf L.bs w) w [.slice A xs.length cc] xs := (dh.at_ i hA).2
  have hcap : xs.length ≤ cc := by
   obtain ⟨A', c', he, g1, _⟩ := hrd
   simp only [List.cons.injEq, Value.slice.injEq, and_true] at he
   omega
  obtain ⟨j, hj, hs⟩ := Option.map_eq_some_iff.1 ht.2
  have b3 : (0 : Int) ≤ n ∧ (n : Int) ≤ (xs.length : Int) := by omega
  have c2 : (n : Int) ≤ max (xs.length : Int) 0 := by omega
  refine ⟨.slice (if cc = n then A else A.map (·.add (n * r.size))) (xs.length - n) (cc - n), _, fun w' hs' => ?_, f.put _ (lt_blt hn), DH.cons ⟨rfl, by
   have := part_reads hrd (l := n) (h := xs.length) (m := cc) (by omega) (by omega) (by omega) (by omega)
   rw [List.take_length] at this
   exact this⟩ dh⟩
  simp [execOp, f.ev hx, f.ev e1, Instr.sliceAt, run_underlying ht.1, Instr.slice, Instr.sliceBounds, Instr.sliceBound, asIntOf, b3, c2, hcap, sizeOf, typeInfo, hj, hs]
  intro hlt
  exact absurd hlt (by omega)) k
end
section
variable {env : Env} {L : Own} {D : List Atom} {fn : Func} {P : Program} {n : Nat} {w0 : World} {M : List Nat}
theorem rCTT {t u s : Nat} {T T' : TypeId} {b : Nat} {cs : List Value} {v2 v3 : Value} (i : Nat) (hr : fn.results = #[.cell t T, .tmp u, .tmp s]) (h1 : lk env t = some (.pointer (some ⟨b, 0, none⟩))) (h2 : lk env u = some v2) (h3 : lk env s = some v3)
 (hi : L[i]? = some (bl b T' cs)) (ht : RowTy P T cs.length) : ResIs P n w0 M fn env L (.tuple #[.agg cs.toArray, v2, v3]) := fun a w f st => by
 simp [results, hr, f.at_ t _ h1, f.at_ u _ h2, f.at_ s _ h3, asAddr, Sem.run_bind, run_loadVarM ht (own_at i hi st)]
end
end
section
section
variable {c : Cx} {ops : Array Oper} {J : Cx → Array Oper → List Oper → Env → Own → List Atom → Prop} [iJ : IsJ J] {env : Env} {L : Own} {D : List Atom} {rest : List Oper} {d : Nat} {t : TypeId} {p : String} {af : Array Edge} {x : Operand} {T : TypeId}
include iJ
theorem slH {α : Type} {r : Rep α} (i n : Nat) {xs : List α} {sv : Value} {hi : Operand} {h : Int} {E : TypeId} (hx : ev env x = some sv) (hA : D[i]? = some (@Atom.mk (List α) (@repList α r) sv xs)) (ht : SliceTy c.P T E r.size)
 (e2 : ev env hi = some (.int .i64 h)) (hl : h = (n : Int)) (h3 : n ≤ xs.length) (hn : Nat.blt d c.n = true)
 (k : ∀ u, J c ops rest ((d, u) :: env) L ((@Atom.mk (List α) (@repList α r) u (xs.take n)) :: D)) :
 J c ops (⟨some d, .slice T x none (some hi) none, t, p, af, none⟩ :: rest) env L D :=
 iJ.read (σ := Value) rfl rfl (fun u => (d, u) :: env) (fun u => (@Atom.mk (List α) (@repList α r) u (xs.take n)) :: D) (fun a w f st dh => by
  subst hl
  obtain ⟨ha, hrd⟩ := dh.at_ i hA
  obtain ⟨A, cc, hsv, _⟩ := hrd
  simp only at hsv ha
  rw [cells_of_not ha] at hsv
  have hsv : sv = .slice A xs.length cc := by simpa using hsv
  subst hsv
  have hrd : rdSlice (Sf L.bs w) w [.slice A xs.length cc] xs := (dh.at_ i hA).2
  have hcap : xs.length ≤ cc := by
   obtain ⟨A', c', he, g1, _⟩ := hrd
   simp only [List.cons.injEq, Value.slice.injEq, and_true] at he
   omega
  obtain ⟨j, hj, hs⟩ := Option.map_eq_some_iff.1 ht.2
  have b2 : (0 : Int) ≤ n ∧ (n : Int) ≤ (cc : Int) := by omega
  refine ⟨.slice (if cc = 0 then A else A.map (·.add (0 * r.size))) (n - 0) (cc - 0), _, fun w' hs' => ?_, f.put _ (lt_blt hn), DH.cons ⟨rfl, by
   have := part_reads hrd (l := 0) (h := n) (m := cc) (by omega) (by omega) (by omega) (by omega)
   rw [List.drop_zero] at this
   exact this⟩ dh⟩
  simp [execOp, f.ev hx, f.ev e2, Instr.sliceAt, run_underlying ht.1, Instr.slice, Instr.sliceBounds, Instr.sliceBound, asIntOf, b2, sizeOf, typeInfo, hj, hs]
  intro hlt
  exact absurd hlt (by omega)) k
end
end
end Go.Eng
namespace Go.Eng
section
section
variable {c : Cx} {l : List Oper} {s : RH} {env : Env} {D : List Atom} {Q : Exit → Act → World → Prop}
theorem rgHH {id : Nat} (hd : Nat) (s : RH) (Le : (Nat → Value) → Own) (hm : c.P.follows .mixedOrders = true) (hok : rhOkT hd l env s c.n = true) (hef : (s.effs.all fun x => Nat.blt x hd) = true) (hhd : hd ≤ l.length) {L : Own} (hL : s.L [] [] = L) (hE : AllP (fun h => ∀ V : Nat → Value, s.L h (h.map V) = Le V) (fullH s)) (hO : OblH c l s env D (l.take hd) 0)
 (k : ∀ V : Nat → Value, AllP (fun i => (dstOf l i).isSome = true → s.vals i = none → s.ok i (V i)) (List.range hd) →
  WL Q c l.toArray (l.drop hd) (envOf l (VV s.vals V) (List.range hd) ++ env) (Le V) (atsOf s.rs (VV s.vals V) ((List.range hd).filter fun i => (dstOf l i).isSome) ++ D)) : WC c (.region id l.toArray true) Q env L D := by
 intro a w f st dh
 have hseq : Region.seqB .any l.toArray (l.drop hd).length hd (headL hd l.length) = true := by
  simp only [rhOkT, Bool.and_eq_true] at hok
  exact hok.2
 simp only [rhOkT, Bool.and_eq_true] at hok
 obtain ⟨⟨⟨⟨⟨⟨h1, h2⟩, h5⟩, hsz⟩, h4⟩, hT0⟩, _⟩ := hok
 exact wp_region_any hm (headH hd s Le h1 h2 h5 hsz h4 (tailB_spec hT0) hef hhd hL hE hO (wpAny c.P .any l.toArray Q) (fun _ _ _ _ h0 h => ⟨fun h1 => absurd h1 h0, fun i hi => h i hi Q⟩) (fun V hV a w f st dh => wpAny_fin (k V hV) hseq f st dh) f st dh)
end
end
end Go.Eng
namespace Go.Proofs.YtmpoffijcfaalaaGreat
open Go.Eng Go.YtmpoffijcfaalaaGreat
theorem told25_c (v_ss : Value) (ss : List TState) (v_rr : Value) (rr : List (List TRight)) (v_aa : Value) (aa : List Tcounted25) (Z : List TTotal × Int) (hrw : ∀ l ∈ rr, ∀ r ∈ l, r.wf) (hg : Grp ss) (hok : ∀ c ∈ aa, CntOk ss c) (hl : aa.length ≤ 100000) (hZ : toldR ss rr aa = Z) : Fnc Pg 77 [v_ss, v_rr, v_aa] [] [⟨v_ss, ss⟩, ⟨v_rr, rr⟩, ⟨v_aa, aa⟩] (fun (y : Value) u => u = .tuple #[y, .int .i64 Z.2]) (fun _ _ => []) (fun y _ => [⟨y, Z.1⟩]) := by
 refine Fnc.proof Tryz.func77 G 114 G G fun X w => sa 2 G<|sq<|sa 1 G<|bk<|lpC (σ := Nat) [(0, _), (1, _), (2, _)] _ (fun i C => (8, .int .i64 (i : Int)) :: C) (fun i => i ≤ aa.length ∧ (∀ j, j < i → allI j (fun k => !decide (keyR aa j = keyR aa k)) = true)) (fun i => aa.length - i) 0 (Gs G) (Sc 0 G (Sc 1 G (Sc 2 G Sn))) ⟨Nat.zero_le _, fun j hj => absurd hj (Nat.not_lt_zero j)⟩ (Gs G) ?_
 rintro i ⟨hi, hall⟩
 refine sq<|qg<|ru 2 G<|lnP 2 G G Tryz.underlying137 G fun l19 => ru 1 G<|nl<|nx<|cdP G (fun h20 => ?_) (fun h20 => ?_)
 ·
  refine sk<|nx<|sq<|bk<|sa 1 G<|bk<|lpC (σ := Nat) [(0, _), (1, _), (2, _), (8, _)] _ (fun k C => (9, .int .i64 (k : Int)) :: C) (fun k => k ≤ i ∧ (∀ j, j < k → (!decide (keyR aa i = keyR aa j)) = true)) (fun k => i - k) 0 (Gs G) (Sc 0 G (Sc 1 G (Sc 2 G Sn))) ⟨Nat.zero_le _, fun j hj => absurd hj (Nat.not_lt_zero j)⟩ (Gs G) ?_
  rintro k ⟨hi_k, hall_k⟩
  refine sq<|sa 3 G<|cdP G (fun h25 => ?_) (fun h25 => ?_)
  ·
   refine sk<|nx<|sq<|bk<|sq<|rgQ mixed (by kernel_rfl)<|ru 2 G<|ixQ 2 G G G slt_137 G fun v30 => faP (α := Tcounted25) (β := TAccount) 0 (fun x : Tcounted25 => x.fA) G G (Fg G) pcounted25_1 G fun v31 => faP (α := TAccount) (β := ByteArray) 0 (fun x : TAccount => x.fKey) G G (Fg G) pAccount_0 G fun v32 => ldV 0 G G (Og G) G fun w33 => ru 2 G<|ixQ 5 G G G slt_137 G fun v36 => faP (α := Tcounted25) (β := TAccount) 0 (fun x : Tcounted25 => x.fA) G G (Fg G) pcounted25_1 G fun v37 => faP (α := TAccount) (β := ByteArray) 0 (fun x : TAccount => x.fKey) G G (Fg G) pAccount_0 G fun v38 => ldV 0 G G (Og G) G fun w39 => ru 1 G<|nlQ<|nx<|cdP G (fun h40 => ?_) (fun h40 => ?_)
   ·
    have hd : dupR aa = true := by rw [dupR, allI_false i (by omega) (by rw [allI_false k (by omega) (not_decfalse h40)])]; rfl
    have hZ2 : (([], 171) : List TTotal × Int) = Z := by rw [← hZ, toldR, if_pos hd]
    subst hZ2
    exact emC (α := TTotal)<|sa 2 G<|rt<|bR<|tR<|tR<|bR<|bR<|tR<|tR<|bR<|tR<|fR2 nS G G G G G (Sc 0 G Sn)
   ·
    refine sk<|bN<|nx<|rg<|mv G G<|adI G G inI G<|ru 1 G<|nl ?_
    exact ag (k + 1) ⟨(by omega), (all_snoc hall_k ((not_dectrue h40)))⟩ (by omega) (Gs G) G (Si [6,7,8] G)
  ·
   refine ex<|tE<|tE<|bE<|bN<|nx<|rg<|mv G G<|adI G G inI G<|ru 1 G<|nl ?_
   exact ag (i + 1) ⟨(by omega), (all_snoc hall ((allI_true (fun q hq => hall_k q (by omega)))))⟩ (by omega) (Gs G) G (Si [0,1,2] G)
 ·
  have hd : ¬ dupR aa = true := by rw [dupR, allI_true (fun j hj => hall j (by omega))]; decide
  refine ex<|tE<|tE<|bE<|nx<|sa 1 G<|sq<|sa 1 G<|bk<|rwC TTotal 78<|lpE (σ := Nat × Value) [(0, _), (1, _), (2, _)] _ (fun s C => (11, .int .i64 (s.1 : Int)) :: (10, s.2) :: C) (fun s => [@row TTotal rTotal 78 s.2 (outR ss rr aa s.1), fz X w]) (fun _ Dc => Dc) (fun s => s.1 ≤ aa.length ∧ ∀ j, j < s.1 → (hasV ss rr (toC (aa.getD j default))).2 = true) (fun s => aa.length - s.1) (0, .slice none 0 0) (Gs G) (Sc 0 G (Sc 1 G (Sc 2 G Sn))) ⟨Nat.zero_le _, fun j hj => absurd hj (Nat.not_lt_zero j)⟩ (Gs G) G (Sc 0 G (Sc 1 G (Sc 2 G Sn))) ?_
  rintro ⟨i, rv⟩ ⟨hi, hall⟩
  simp only at hi hall
  have hol := outR_len ss rr aa i
  show WC _ _ _ [(11, .int .i64 ((i : Int))), (10, _), (0, _), (1, _), (2, _)] [@row TTotal rTotal 78 rv (outR ss rr aa i), fz X w] _
  refine sq<|qg<|ru 2 G<|lnP 2 G G Tryz.underlying137 G fun l43 => ru 1 G<|nl<|nx<|cdP G (fun h44 => ?_) (fun h44 => ?_)
  ·
   have hco := hok (aa.getD i default) (getD_mem (by omega))
   refine sk<|nx<|sq<|bk<|qg<|ru 2 G<|ixQ 2 G G G slt_137 G fun v49 => faP (α := Tcounted25) (β := TAccount) 0 (fun x : Tcounted25 => x.fA) G G (Fg G) pcounted25_1 G fun v50 => ldS 0 G G (Rg G) G fun q51 w51 => ?_
   refine al zero_70 G fun b12 => oc 1 G fun o_q51 => stW 0 (us := (cAccount ((aa.getD i default).fA) q51)) G G G (Rg G) (by simp only [List.all_cons, List.all_nil, Bool.and_true, o_q51]; rfl) G<|nl<|nx<|sq<|rgQ mixed (by kernel_rfl)<|ru 4 G<|ixQ 6 G G G slt_137 G fun v57 => faP (α := Tcounted25) (β := Int) 0 (fun x : Tcounted25 => x.fGroup) G G (Fg G) pcounted25_0 G fun v58 => ldV 0 G G (Og G) G fun w59 => ldM 0 (cAccount ((aa.getD i default).fA) q51) G G (Rg G) G G<|cfq (has25_c _ _ _ _ _ _ _ w51 w59 hco.hh hco.hn hrw hg hco.hlk) (Kg G) G (Si [6,7,3] G) G<|cfq (wint_c (partsC ss rr (toC (aa.getD i default))).sum (partsC_BW hrw w51.2.2.1 w51.2.2.2.2.2.2.2.2 hco.hh)) (Kg G) G Sn G<|ru 5 G<|nlQ<|nx<|sq<|qg<|mv G G<|ru 2 G<|jz 67 6 [0,1,2,10,11,12,13] G G (fun h67 K73 => ru 1 G<|gY G G G<|ldM 0 (cSpan ((aa.getD i default).fA.fSpan)) G G (Rg G) G G<|ru 1 G<|gY G G G<|cfv (has01_c _ _ w51.2.1 (wrapi_in _)) (Kg G) G Sn G<|ru 2 G<|K73 G Sr)<|nl<|nx<|cdB G (fun h73 => ?_) (fun h73 => ?_)
   ·
    have hno1 : (hasV ss rr (toC (aa.getD i default))).2 = false := by
     have e : (!(hasV ss rr (toC (aa.getD i default))).2) = true := told_ok.symm.trans h73
     simpa only [Bool.not_eq_true'] using e
    have hno : ¬ okR ss rr aa = true := by rw [okR, allI_false i (by omega) hno1]; decide
    have hZ2 : (([], 150) : List TTotal × Int) = Z := by rw [← hZ, toldR, if_neg hd, if_neg hno]
    subst hZ2
    exact emC (α := TTotal)<|sa 2 G<|rt<|tR<|bR<|tR<|tR<|bR<|tR<|dpQ<|dpQ<|fR2 nS G G G G G (Sc 0 G Sn)
   ·
    have hok2 : (hasV ss rr (toC (aa.getD i default))).2 = true := (by
     have e : (!(hasV ss rr (toC (aa.getD i default))).2) = false := told_ok.symm.trans h73
     simpa only [Bool.not_eq_false'] using e)
    have hso : sumOk (partsC ss rr (toC (aa.getD i default))).sum = true := by simp only [Bool.or_eq_false_iff, Bool.not_eq_false'] at h73; exact h73.1
    rw [wrapS hso]
    refine sk<|nx<|qg<|rl 3 [0] G G<|ldM 0 (cSpan ((aa.getD i default).fA.fSpan)) G G (Rg G) G G<|mv G G<|bd (ps := [(0, .tmp 75), (1, .tmp 77), (2, .tmp 78)]) (cs := (cTotal ((⟨(aa.getD i default).fA.fKey, (aa.getD i default).fA.fSpan, (sumI (partsC ss rr (toC (aa.getD i default))).sum)⟩ : TTotal)))) (by rfl) (by kernel_rfl) G<|al zero_78 G fun b15 => stW 0 (us := (cTotal ((⟨(aa.getD i default).fA.fKey, (aa.getD i default).fA.fSpan, (sumI (partsC ss rr (toC (aa.getD i default))).sum)⟩ : TTotal)))) G G G (Rg G) G G<|nl<|nx<|sq<|qg<|ldM 0 (cTotal ((⟨(aa.getD i default).fA.fKey, (aa.getD i default).fA.fSpan, (sumI (partsC ss rr (toC (aa.getD i default))).sum)⟩ : TTotal))) G G (Rg G) G G<|rl 2 [1] G G<|bd (ps := [(0, .tmp 82)]) (cs := (cTotal ((⟨(aa.getD i default).fA.fKey, (⟨0, 0⟩ : TSpan), 0⟩ : TTotal)))) (by rfl) (by kernel_rfl) G<|eqT eq_Total ((⟨(aa.getD i default).fA.fKey, (aa.getD i default).fA.fSpan, (sumI (partsC ss rr (toC (aa.getD i default))).sum)⟩ : TTotal)) ((⟨(aa.getD i default).fA.fKey, (⟨0, 0⟩ : TSpan), 0⟩ : TTotal)) G G G<|nl<|nx<|cdP G (fun h84 => ?_) (fun h84 => ?_)
    ·
     refine ex<|tE<|bE<|nx<|rg<|mv G G<|adI G G inI G<|ru 1 G<|nl<|dpQ<|dpQ ?_
     rw [show (outR ss rr aa i) = outR ss rr aa (i + 1) from outR_T (by omega) h84]
     exact ag ((i + 1, rv) : Nat × Value) ⟨by show i + 1 ≤ aa.length; omega, all_snoc hall hok2⟩ (by show aa.length - (i + 1) < aa.length - i; omega) (Gs G) G (Si [6,7,8] G)
    ·
     refine sk<|nx<|sq<|mtC 2 G<|frR<|rg<|mv G G<|lnP 0 G G Tryz.underlying72 G fun l86 => ru 1 G<|nl<|nx<|sq<|bk<|lpC (σ := Nat) [(0, _), (1, _), (2, _), (10, _), (11, _), (15, _)] _ (fun k C => (16, .int .i64 (k : Int)) :: C) (fun k => k ≤ (outR ss rr aa i).length ∧ atB TTotal.fKey (outR ss rr aa i) (totC ss rr (toC (aa.getD i default))) (outR ss rr aa i).length = atB TTotal.fKey (outR ss rr aa i) (totC ss rr (toC (aa.getD i default))) k) (fun k => k) (outR ss rr aa i).length (Gs G) (Sc 0 G (Sc 4 G (Sc 7 G (Sc 8 G (Sc 9 G Sn))))) ⟨Nat.le_refl _, G⟩ (Gs G) ?_
     rintro k ⟨hk, hka⟩
     refine sq<|sq<|rgQ mixed (by kernel_rfl)<|ru 3 G ?_
     refine jy 89 10 [0,1,2,10,11,15,16] G G (fun h89 K99 => by
      have p89 := of_decide_eq_true h89
      exact ru 2 G<|gY G G G<|sbI G G inI G<|gY G G G<|ixQ 0 G G G slt_72 G fun v93 => gY G G G<|faP (α := TTotal) (β := ByteArray) 0 (fun x : TTotal => x.fKey) G G (Fg G) pTotal_0 G fun v94 => gY G G G<|ldV 0 G G (Og G) G fun w95 => rl 2 [0] G G<|gY G G G<|gtS G G G<|ru 1 G<|K99 G (SubD.tail (SubD.tail Sr))) ?_
     refine nlQ<|nx<|cdB G (fun h99 => ?_) (fun h99 => ?_)
     ·
      have h99 : 0 < k ∧ ltB (totC ss rr (toC (aa.getD i default))).fKey ((outR ss rr aa i).getD (k - 1) default).fKey = true := by
       have e := h99
       simp only [gt_ltB, Bool.and_eq_true, decide_eq_true_eq] at e
       exact ⟨by omega, by rw [show k - 1 = ((k : Int) - 1).toNat by omega]; exact e.2⟩
      refine sk<|nx<|bk<|rg<|mv G G<|sbE (r := ((k - 1 : Nat) : Int)) G G (by omega) inI G<|ru 1 G<|nl<|bN ?_
      exact ag (k - 1) ⟨by omega, hka.trans (atB_T h99.1 h99.2)⟩ (by omega) (Gs G) G (Si [0,1,2,3,4] G)
     ·
      have hat : atB TTotal.fKey (outR ss rr aa i) (totC ss rr (toC (aa.getD i default))) (outR ss rr aa i).length = k := hka.trans (atB_F fun h0 => by
       have e := h99
       simp only [gt_ltB, Bool.and_eq_false_iff, decide_eq_false_iff_not] at e
       rcases e with e | e
       ·
        omega
       ·
        rw [show k - 1 = ((k : Int) - 1).toNat by omega]; exact e)
      refine ex<|tE<|tE<|bE<|nx ?_
      refine rgHH 11 ⟨fun q_ => ([[], [], [0, 1], [2], [], [4], [3, 5], [], [], [7, 8], [6, 9]] : List (List Nat)).getD q_ [], fun _ _ => True, fun q_ => ([fun _ => [], fun _ => [], fun u => [⟨u, ((outR ss rr aa i).take k)⟩], fun _ => [], fun _ => [], fun u => [⟨u, [(totC ss rr (toC (aa.getD i default)))]⟩], fun _ => [], fun _ => [], fun _ => [], fun u => [⟨u, ((outR ss rr aa i).drop k)⟩], fun _ => []] : List (Value → List Atom)).getD q_ (fun _ => []), fun q_ => ([some (rv), some (.int .i64 ((k : Int))), none, none, some (.agg (cTotal ((⟨(aa.getD i default).fA.fKey, (aa.getD i default).fA.fSpan, (sumI (partsC ss rr (toC (aa.getD i default))).sum)⟩ : TTotal))).toArray), none, none, some (rv), some (.int .i64 ((k : Int))), none, none] : List (Option Value)).getD q_ none, fun h_ => match h_ with
        | [] => fun vs_ => [bl b15 78 (cTotal ((⟨(aa.getD i default).fA.fKey, (aa.getD i default).fA.fSpan, (sumI (partsC ss rr (toC (aa.getD i default))).sum)⟩ : TTotal))), bl b12 70 (cAccount ((aa.getD i default).fA) q51), fz X w]
        | [3] => fun vs_ => [row 78 (vs_.getD 0 undef) ((outR ss rr aa i).take k), bl b15 78 (cTotal ((⟨(aa.getD i default).fA.fKey, (aa.getD i default).fA.fSpan, (sumI (partsC ss rr (toC (aa.getD i default))).sum)⟩ : TTotal))), bl b12 70 (cAccount ((aa.getD i default).fA) q51), fz X w]
        | [3, 6] => fun vs_ => [row 78 (vs_.getD 1 undef) ((outR ss rr aa i).take k ++ [(totC ss rr (toC (aa.getD i default)))]), bl b15 78 (cTotal ((⟨(aa.getD i default).fA.fKey, (aa.getD i default).fA.fSpan, (sumI (partsC ss rr (toC (aa.getD i default))).sum)⟩ : TTotal))), bl b12 70 (cAccount ((aa.getD i default).fA) q51), fz X w]
        | [3, 6, 10] => fun vs_ => [row 78 (vs_.getD 2 undef) ((outR ss rr aa i).take k ++ [(totC ss rr (toC (aa.getD i default)))] ++ (outR ss rr aa i).drop k), bl b15 78 (cTotal ((⟨(aa.getD i default).fA.fKey, (aa.getD i default).fA.fSpan, (sumI (partsC ss rr (toC (aa.getD i default))).sum)⟩ : TTotal))), bl b12 70 (cAccount ((aa.getD i default).fA) q51), fz X w]
        | _ => fun _ => [], [3, 6, 10], [[], [3], [3, 6], [3, 6, 10]]⟩ (fun V => [row 78 (V 10) ((outR ss rr aa i).take k ++ [(totC ss rr (toC (aa.getD i default)))] ++ (outR ss rr aa i).drop k), bl b15 78 (cTotal ((⟨(aa.getD i default).fA.fKey, (aa.getD i default).fA.fSpan, (sumI (partsC ss rr (toC (aa.getD i default))).sum)⟩ : TTotal))), bl b12 70 (cAccount ((aa.getD i default).fA) q51), fz X w]) mixed (by kernel_rfl) rfl (Nat.le_of_ble_eq_true rfl) rfl (show AllP _ [[3, 6, 10]] from ⟨fun _ => rfl, trivial⟩) ?_ ?_
      ·
       refine ⟨fun V De _=>aP4 (mv G G<|oh G G G G) (mv G G<|oh G G G G) (mv G G<|oh G G G G) (mv G G<|oh G G G G),fun V De _=>aP4 (mv G G<|oh G G G G) (mv G G<|oh G G G G) (mv G G<|oh G G G G) (mv G G<|oh G G G G),fun V De _=>aP1 (slH 0 k G G slt_72 G G (by omega) G fun v104 => nl (odH G G G trivial (Sc 0 G Sn) (SubD.tail Sr))),fun V De _=>aP1 (rwL TTotal 78<|ap 0 0 G G G G app_72 (by simp only [List.length_append, List.length_take, List.length_drop, List.length_cons, List.length_nil]; omega) (by simp only [List.length_append, List.length_take, List.length_drop, List.length_cons, List.length_nil]; omega) G fun v105 => nl (odH G G G trivial Sn (SubD.tail Sr))),fun V De _=>aP4 (ldM 0 (cTotal ((⟨(aa.getD i default).fA.fKey, (aa.getD i default).fA.fSpan, (sumI (partsC ss rr (toC (aa.getD i default))).sum)⟩ : TTotal))) G G (Rg G) G G<|oh G G G G) (ldM 1 (cTotal ((⟨(aa.getD i default).fA.fKey, (aa.getD i default).fA.fSpan, (sumI (partsC ss rr (toC (aa.getD i default))).sum)⟩ : TTotal))) G G (Rg G) G G<|oh G G G G) (ldM 1 (cTotal ((⟨(aa.getD i default).fA.fKey, (aa.getD i default).fA.fSpan, (sumI (partsC ss rr (toC (aa.getD i default))).sum)⟩ : TTotal))) G G (Rg G) G G<|oh G G G G) (ldM 1 (cTotal ((⟨(aa.getD i default).fA.fKey, (aa.getD i default).fA.fSpan, (sumI (partsC ss rr (toC (aa.getD i default))).sum)⟩ : TTotal))) G G (Rg G) G G<|oh G G G G),fun V De _=>aP2 (bsM G app_72 G G G G fun b107 => frS1 (α := TTotal) (totC ss rr (toC (aa.getD i default))) (fun S w h => ⟨(), G, by simp, w51.1, w51.2.1, sumI_in _⟩)<|nl (odH G G G trivial (Sc 0 G Sn) (SubD.tail Sr))) (bsM G app_72 G G G G fun b107 => frS1 (α := TTotal) (totC ss rr (toC (aa.getD i default))) (fun S w h => ⟨(), G, by simp, w51.1, w51.2.1, sumI_in _⟩)<|nl (odH G G G trivial (Sc 0 G Sn) (SubD.tail Sr))),fun V De _=>aP1 (ap 0 0 G G G G app_72 (by simp only [List.length_append, List.length_take, List.length_drop, List.length_cons, List.length_nil]; omega) (by simp only [List.length_append, List.length_take, List.length_drop, List.length_cons, List.length_nil]; omega) G fun v108 => nl (odH G G G trivial Sn (SubD.tail Sr))),fun V De _=>aP4 (mv G G<|oh G G G G) (mv G G<|oh G G G G) (mv G G<|oh G G G G) (mv G G<|oh G G G G),?_⟩
       exact ⟨fun V De _=>aP4 (mv G G<|oh G G G G) (mv G G<|oh G G G G) (mv G G<|oh G G G G) (mv G G<|oh G G G G),fun V De _=>aP3 (slF 0 k G G slt_72 G G (by omega) G fun v111 => nl (odH G G G trivial (Sc 0 G Sn) (SubD.tail Sr))) (slF 0 k G G slt_72 G G (by omega) G fun v111 => nl (odH G G G trivial (Sc 0 G Sn) (SubD.tail Sr))) (slF 0 k G G slt_72 G G (by omega) G fun v111 => nl (odH G G G trivial (Sc 0 G Sn) (SubD.tail Sr))),fun V De _=>aP1 (ap 0 0 G G G G app_72 (by simp only [List.length_append, List.length_take, List.length_drop, List.length_cons, List.length_nil]; omega) (by simp only [List.length_append, List.length_take, List.length_drop, List.length_cons, List.length_nil]; omega) G fun v112 => nl (odH G G G trivial Sn (SubD.tail Sr))),trivial⟩
      ·
       intro V _
       refine wkL (L := [row 78 (V 10) ((outR ss rr aa i).take k ++ [(totC ss rr (toC (aa.getD i default)))] ++ (outR ss rr aa i).drop k), bl b15 78 (cTotal ((⟨(aa.getD i default).fA.fKey, (aa.getD i default).fA.fSpan, (sumI (partsC ss rr (toC (aa.getD i default))).sum)⟩ : TTotal))), bl b12 70 (cAccount ((aa.getD i default).fA) q51), fz X w]) [(0, _), (1, _), (2, _), (11, _), (112, V 10)] [_, _, _, _, _] (Gs G) (Sc 3 G (Sc 4 G (Sc 5 G (Sc 6 G (Sc 7 G Sn))))) ?_
       generalize V 10 = v10
       refine ru 1 G<|nl<|bN<|nx<|rg<|mv G G<|adI G G inI G<|ru 1 G<|nl<|mtQ 1 G<|dpQ<|mtQ 1 G<|dpQ ?_
       rw [show (outR ss rr aa i).take k ++ [(totC ss rr (toC (aa.getD i default)))] ++ (outR ss rr aa i).drop k = outR ss rr aa (i + 1) from outR_F (by omega) h84 hat]
       exact ag ((i + 1, v10) : Nat × Value) ⟨by show i + 1 ≤ aa.length; omega, all_snoc hall hok2⟩ (by show aa.length - (i + 1) < aa.length - i; omega) (Gs G) G (Si [2,3,4] G)
  ·
   obtain rfl : i = aa.length := by omega
   have hZ2 : (outR ss rr aa aa.length, 0) = Z := by rw [← hZ, toldR, if_neg hd, if_pos (show okR ss rr aa = true from allI_true hall)]
   subst hZ2
   exact ex<|tE<|tE<|bE<|nx<|sq<|frR<|ra 3 G<|nx<|rt<|fR2 _ G G G G G (Sc 0 G Sn)
end Go.Proofs.YtmpoffijcfaalaaGreat
namespace Go.Proofs.YtmpoffijcfaalaaGreat
open Go.Eng
theorem app_137 : AppTy Pg 137 139 11 112 := AppTy.mk Tryz.underlying137 (by kernel_rfl) (by decide)
end Go.Proofs.YtmpoffijcfaalaaGreat
namespace Go.YtmpoffijcfaalaaGreat
open Go.Eng
def cnt25 (gr : Int) (a : TAccount) : Tcounted25 := ⟨gr, a⟩
def allR (ss : List TState) : Nat → List Tcounted25
 | 0 => []
 | i + 1 => allR ss i ++ (listP ss (ss.getD i default)).map (cnt25 ((i : Int) + 1))
def sokR (S : TState) (j : Nat) : Bool := decide (S.fGroup = (j : Int) + 1) && sright19 S && (decide (S.fOut.fNumber = 0) || fitsR (rdState S.fImage).1.fAccounts S.fOut)
def okS (c : TChart) (ss : List TState) (rr : List (List TRight)) : Nat → Bool
 | 0 => (right20 c && decide ((ss.length : Int) = 7)) && decide ((rr.length : Int) ≤ 5)
 | i + 1 => okS c ss rr i && sokR (ss.getD i default) i
def okT (c : TChart) (ss : List TState) (rr : List (List TRight)) : Nat → Bool
 | 0 => okS c ss rr ss.length
 | i + 1 => okT c ss rr i && rights16 (rr.getD i default)
def truthR (c : TChart) (ss : List TState) (rr : List (List TRight)) : List TTotal × Int :=
 if okT c ss rr rr.length = true then toldR ss rr (allR ss ss.length) else ([], 1)
theorem okS_T {c : TChart} {ss : List TState} {rr : List (List TRight)} {i : Nat} (h : ((okS c ss rr i && decide ((ss.getD i default).fGroup = (i : Int) + 1) && sright19 (ss.getD i default)) && !decide ((ss.getD i default).fOut.fNumber = 0)) = true) :
 fitsR (rdState (ss.getD i default).fImage).1.fAccounts (ss.getD i default).fOut = okS c ss rr (i + 1) := by
 simp only [Bool.and_eq_true, Bool.not_eq_true'] at h
 obtain ⟨⟨⟨h1, h2⟩, h3⟩, h4⟩ := h
 rw [okS, sokR, h1, h2, h3, h4]
 rfl
theorem okS_F {c : TChart} {ss : List TState} {rr : List (List TRight)} {i : Nat} (h : ((okS c ss rr i && decide ((ss.getD i default).fGroup = (i : Int) + 1) && sright19 (ss.getD i default)) && !decide ((ss.getD i default).fOut.fNumber = 0)) = false) :
 (okS c ss rr i && decide ((ss.getD i default).fGroup = (i : Int) + 1) && sright19 (ss.getD i default)) = okS c ss rr (i + 1) := by
 rw [okS, sokR]
 rcases Bool.eq_false_or_eq_true (decide ((ss.getD i default).fOut.fNumber = 0)) with h0 | h0
 · rw [h0, Bool.true_or, Bool.and_true, Bool.and_assoc]
 · rw [h0, Bool.not_false, Bool.and_true] at h
   rw [h]
   rw [Bool.and_assoc] at h
   rw [← Bool.and_assoc, h, Bool.false_and]
theorem okS_all {c : TChart} {ss : List TState} {rr : List (List TRight)} : ∀ {n : Nat}, okS c ss rr n = true → okS c ss rr 0 = true ∧ ∀ j, j < n → sokR (ss.getD j default) j = true
 | 0, h => ⟨h, fun j hj => absurd hj (Nat.not_lt_zero j)⟩
 | n + 1, h => by
  rw [okS, Bool.and_eq_true] at h
  obtain ⟨a, b⟩ := okS_all h.1
  refine ⟨a, fun j hj => ?_⟩
  by_cases e : j = n
  · subst e; exact h.2
  · exact b j (by omega)
theorem okT_all {c : TChart} {ss : List TState} {rr : List (List TRight)} : ∀ {n : Nat}, okT c ss rr n = true → okS c ss rr ss.length = true ∧ ∀ j, j < n → rights16 (rr.getD j default) = true
 | 0, h => ⟨h, fun j hj => absurd hj (Nat.not_lt_zero j)⟩
 | n + 1, h => by
  rw [okT, Bool.and_eq_true] at h
  obtain ⟨a, b⟩ := okT_all h.1
  refine ⟨a, fun j hj => ?_⟩
  by_cases e : j = n
  · subst e; exact h.2
  · exact b j (by omega)
theorem waits_num {ss : List TState} {S : TState} (h : waitsP ss S = true) : ¬ S.fOut.fNumber = 0 := by
 intro e
 rw [waitsP, if_pos e] at h
 cases h
theorem fits_all {l : List TAccount} {p : TPlan} (h : fitsR l p = true) : rising19 l = true ∧ ∀ j, j < l.length → fitB p (l.getD j default) = false := by
 rw [fitsR] at h
 split at h
 · rename_i h2
   exact ⟨h, fun j hj => by simpa using (allI_iff.1 h2) j hj⟩
 · cases h
theorem rising_all {l : List TAccount} (h : rising19 l = true) : l.length ≤ 12 ∧ ∀ j, j < l.length → right15 (l.getD j default) = true := by
 rw [rising19] at h
 split at h
 · rename_i h2
   refine ⟨by simp only [decide_eq_true_eq] at h; omega, fun j hj => ?_⟩
   have := (allI_iff.1 h2) j hj
   simp only [risj, Bool.not_eq_true', Bool.or_eq_false_iff, Bool.not_eq_false'] at this
   exact this.1.1
 · cases h
theorem right15_facts {a : TAccount} (h : right15 a = true) : a.fHolders.length ≤ 5 ∧ (∀ x ∈ a.fHolders, 1 ≤ x.fNode) ∧ (¬ a.fLock.fClient = 0 → 1 ≤ a.fLock.fHome ∧ a.fLock.fHome ≤ 7) := by
 unfold right15 at h
 split at h
 · cases h
 · split at h
   · rename_i hh
     have h5 := hold_len hh
     have hn : ∀ x ∈ a.fHolders, 1 ≤ x.fNode := by
      have key : ∀ j, j < a.fHolders.length → (a.fHolders.getD j default).fNode ≥ (j : Int) + 1 := by
       intro j
       induction j with
       | zero =>
        intro hj
        have := (allI_iff.1 hh) 0 hj
        simp only [holdP, Bool.not_eq_true', Bool.or_eq_false_iff, decide_eq_false_iff_not] at this
        have h1 : ¬ (a.fHolders.getD 0 default).fNode ≤ 0 := this.1.1.1.1
        omega
       | succ j ih =>
        intro hj
        have := (allI_iff.1 hh) (j + 1) hj
        simp only [holdP, Bool.not_eq_true', Bool.or_eq_false_iff, decide_eq_false_iff_not] at this
        have h1 : ¬ (a.fHolders.getD (j + 1) default).fNode ≤ (a.fHolders.getD j default).fNode := this.1.1.1.1
        have := ih (by omega)
        omega
      intro x hx
      obtain ⟨j, hj, rfl⟩ := getD_of_mem hx
      have := key j hj
      omega
     refine ⟨h5, hn, fun hc => ?_⟩
     split at h
     · cases h
     · split at h
       · rename_i h0
         exact absurd (of_decide_eq_true h0) hc
       · simp only [keeperP, Bool.and_eq_true, decide_eq_true_eq] at h
         omega
   · cases h
theorem sok_parts {S : TState} {j : Nat} (h : sokR S j = true) : S.fGroup = (j : Int) + 1 ∧ sright19 S = true ∧ (¬ S.fOut.fNumber = 0 → fitsR (rdState S.fImage).1.fAccounts S.fOut = true) := by
 simp only [sokR, Bool.and_eq_true, Bool.or_eq_true, decide_eq_true_eq] at h
 exact ⟨h.1.1, h.1.2, fun hn => h.2.resolve_left hn⟩
theorem sright_rising {S : TState} (h : sright19 S = true) : rising19 S.fAccounts = true := by
 unfold sright19 at h
 split at h
 · cases h
 split at h
 · cases h
 split at h
 · cases h
 rename_i hc
 simp only [q19c, Bool.or_eq_true, not_or, Bool.not_eq_true', Bool.not_eq_false] at hc
 exact hc.1.1.1.1
theorem list_facts {ss : List TState} {S : TState} {j : Nat} (h : sokR S j = true) : (listP ss S).length ≤ 24 ∧ ∀ a ∈ listP ss S, right15 a = true := by
 obtain ⟨_, h2, h3⟩ := sok_parts h
 obtain ⟨l1, r1⟩ := rising_all (sright_rising h2)
 have m1 : ∀ a ∈ S.fAccounts, right15 a = true := fun a ha => by
  obtain ⟨q, hq, rfl⟩ := getD_of_mem ha
  exact r1 q hq
 rw [listP]
 split
 · rename_i hw
   obtain ⟨l2, r2⟩ := rising_all (fits_all (h3 (waits_num hw))).1
   refine ⟨by rw [List.length_append]; omega, fun a ha => ?_⟩
   rcases List.mem_append.1 ha with ha | ha
   · exact m1 a ha
   · obtain ⟨q, hq, rfl⟩ := getD_of_mem ha
     exact r2 q hq
 · exact ⟨by omega, m1⟩
theorem allR_facts {ss : List TState} (h7 : ss.length = 7) (h : ∀ j, j < ss.length → sokR (ss.getD j default) j = true) : ∀ i, i ≤ ss.length → (allR ss i).length ≤ 24 * i ∧ ∀ c ∈ allR ss i, CntOk ss c
 | 0, _ => ⟨Nat.le_refl _, fun c hc => absurd hc (List.not_mem_nil)⟩
 | i + 1, hi => by
  obtain ⟨h1, h2⟩ := allR_facts h7 h i (by omega)
  obtain ⟨h3, h4⟩ := list_facts (ss := ss) (h i (by omega))
  rw [allR]
  refine ⟨by rw [List.length_append, List.length_map]; omega, fun c hc => ?_⟩
  rcases List.mem_append.1 hc with hc | hc
  · exact h2 c hc
  · obtain ⟨a, ha, rfl⟩ := List.mem_map.1 hc
    obtain ⟨f1, f2, f3⟩ := right15_facts (h4 a ha)
    exact ⟨by show a.fHolders.length ≤ 1000; omega, f2, fun hn => by have := f3 hn; show 1 ≤ a.fLock.fHome ∧ a.fLock.fHome ≤ (ss.length : Int); omega⟩
theorem allR_T {ss : List TState} {i : Nat} (h : waitsP ss (ss.getD i default) = true) : allR ss i ++ (ss.getD i default).fAccounts.map (cnt25 ((i : Int) + 1)) ++ (rdState (ss.getD i default).fImage).1.fAccounts.map (cnt25 ((i : Int) + 1)) = allR ss (i + 1) := by
 rw [allR, listP, if_pos h, List.map_append, List.append_assoc]
theorem allR_F {ss : List TState} {i : Nat} (h : waitsP ss (ss.getD i default) = false) : allR ss i ++ (ss.getD i default).fAccounts.map (cnt25 ((i : Int) + 1)) = allR ss (i + 1) := by
 rw [allR, listP, if_neg (by rw [h]; decide)]
theorem map_snoc {α β : Type} [Inhabited α] {l : List α} {f : α → β} {k : Nat} (h : k < l.length) : (l.take k).map f ++ [f (l.getD k default)] = (l.take (k + 1)).map f := by
 rw [List.take_add_one, List.getElem?_eq_getElem h, List.map_append, List.getD_eq_getElem?_getD, List.getElem?_eq_getElem h]
 rfl
theorem app_snoc {α β : Type} [Inhabited α] {l : List α} {f : α → β} {k : Nat} {z : List β} (h : k < l.length) : z ++ (l.take k).map f ++ [f (l.getD k default)] = z ++ (l.take (k + 1)).map f := by
 rw [List.append_assoc, map_snoc h]
theorem drop1 {l : List TScene} {j : Nat} : (l.drop 1).getD j default = l.getD (j + 1) default := by
 rw [List.getD_eq_getElem?_getD, List.getElem?_drop, List.getD_eq_getElem?_getD, Nat.add_comm]
theorem stF_at {l : List TScene} {j : Nat} : upS (l.getD (j + 1) default) (stF l j) (l.getD (j + 1) default).fStates.length = stF l (j + 1) := by rw [stF, drop1]
theorem chF_T {l : List TScene} {j : Nat} (h : (l.getD (j + 1) default).fChart.fIndex > (chF l j).fIndex) : (l.getD (j + 1) default).fChart = chF l (j + 1) := by rw [chF, drop1, upC, if_pos h]
theorem chF_F {l : List TScene} {j : Nat} (h : ¬ (l.getD (j + 1) default).fChart.fIndex > (chF l j).fIndex) : chF l j = chF l (j + 1) := by rw [chF, drop1, upC, if_neg h]
end Go.YtmpoffijcfaalaaGreat
