/- Part 16 of the proof of auditOrder_holds: Eng26, Eng27, Eng28, Eng29. Every text below begins with what it shows. -/
import Derived.Test.YtmpoffijcfaalaaGreatAu15

/- Slices of one's own, element by element: read and written in place. Generic: no program. -/

namespace Go.Eng
open Go.RowKit
/-- The place o cells behind the head of a slice. -/
def elp : Value → Nat → Value
  | .slice (some a) _ _, o => .pointer (some (a.add o))
  | _, _ => undef
theorem spl_at : ∀ (us cs : List Value) (o j : Nat), o + us.length ≤ cs.length → (spl cs o us)[j]? = if o ≤ j ∧ j < o + us.length then us[j - o]? else cs[j]?
  | [], cs, o, j, _ => by
    rw [spl, if_neg (by simp)]
  | u :: us, cs, o, j, h => by
    simp only [List.length_cons] at h
    rw [spl, spl_at us (cs.set o u) (o + 1) j (by simp; omega)]
    by_cases h1 : o + 1 ≤ j ∧ j < o + 1 + us.length
    · rw [if_pos h1, if_pos (by simp only [List.length_cons]; omega), show j - o = (j - (o + 1)) + 1 by omega]
      rfl
    · rw [if_neg h1]
      by_cases h2 : j = o
      · subst h2
        rw [if_pos (by simp), List.getElem?_set_self (by omega)]
        simp
      · rw [if_neg (by simp only [List.length_cons]; omega), List.getElem?_set_ne (Ne.symm h2)]
theorem spl_len : ∀ (us cs : List Value) (o : Nat), (spl cs o us).length = cs.length
  | [], _, _ => rfl
  | _ :: us, cs, o => by rw [spl, spl_len us]; simp
/-- What a row of one's own is, where it has elements. -/
theorem row_open {α : Type} [r : Rep α] {S : Nat → Prop} {w : World} {e : TypeId} {v : Value} {xs : List α} (h : (row e v xs).holds S w) (hx : xs ≠ []) :
    ∃ (g cap : Nat) (cs : List Value) (css : List (List Value)), v = .slice (some ⟨g, 0, none⟩) xs.length cap ∧ w.heap[g]? = some (.cells cs.toArray e (0, 0)) ∧ xs.length ≤ cap ∧ cap ≤ maxLen ∧ cs.length = cap * Rep.size α ∧ cs.take (xs.length * Rep.size α) = css.flatten ∧ rdL S w css xs ∧ xs.length ≤ 140737488355328 := by
  obtain ⟨css, hown, hrd, hl⟩ := h
  rcases hown.2 with ⟨_, hn⟩ | ⟨g, cap, cur, hv, _, hg, hc, hm, hs, ht⟩
  · exact absurd (List.length_eq_zero_iff.1 hn) hx
  · exact ⟨g, cap, cur.toList, css, hv, by simpa using hg, hc, hm, by simpa using hs, ht, hrd, hl⟩
theorem row_lies {w : World} {g : Nat} {e : TypeId} {cs fl : List Value} {k : Nat} (hg : w.heap[g]? = some (.cells cs.toArray e (0, 0))) (ht : cs.take k = fl) : Lies w g 0 fl := fun j u hj => by
  subst ht
  rw [List.getElem?_take] at hj
  split at hj
  · rw [cell_of_row w g _ _ e (0, 0) hg]
    simpa using hj
  · cases hj
section
variable {c : Cx} {ops : Array Oper} {J : Cx → Array Oper → List Oper → Env → Own → List Atom → Prop} [iJ : IsJ J] {env : Env} {L : Own} {D : List Atom} {rest : List Oper} {d : Nat} {v : Value} {t : TypeId} {p : String} {af : Array Edge} {x y z : Operand} {T : TypeId}
include iJ
/-- The place of an element. -/
theorem ixR {α : Type} {r : Rep α} (i : Nat) {xs : List α} {m : Int} {E e : TypeId} (hx : ev env x = some v) (hi : L[i]? = some (@row α r e v xs)) (hy : ev env y = some (.int .i64 m)) (ht : SliceTy c.P T E r.size) (h0 : 0 ≤ m) (h1 : m < (xs.length : Int)) (hn : Nat.blt d c.n = true)
    (k : J c ops rest ((d, elp v (m.toNat * r.size)) :: env) L D) : J c ops (⟨some d, .indexAddr T x y, t, p, af, none⟩ :: rest) env L D :=
  iJ.read (σ := Unit) rfl rfl (fun _ => (d, elp v (m.toNat * r.size)) :: env) (fun _ => D) (fun a w f st dh => by
    obtain ⟨g, cap, cs, css, rfl, _⟩ := @row_open α r _ _ _ _ _ (st.own _ (List.mem_of_getElem? hi)) (by intro e; rw [e] at h1; simp at h1; omega)
    obtain ⟨j, hj, hs⟩ := Option.map_eq_some_iff.1 ht.2
    refine ⟨(), _, fun w' hs' => ?_, f.put _ (lt_blt hn), dh⟩
    simp [execOp, f.ev hx, f.ev hy, Instr.indexAt, asIntOf, run_underlying ht.1, h0, h1, sizeOf, typeInfo, hj, hs, elp]) (fun _ => k)
/-- An element is read. -/
theorem ldR {α : Type} {s : Shape α} (i m : Nat) {xs : List α} {ov : α} {e : TypeId} (hx : ev env x = some (elp v (m * s.size))) (hi : L[i]? = some (@row α (Rep.ofShape s) e v xs)) (hm : xs[m]? = some ov) {E : TypeId} (ht : RowTy c.P E s.size) (hn : Nat.blt d c.n = true)
    (k : ∀ h, s.wf ov → J c ops rest ((d, .agg (s.cells ov h).toArray) :: env) L ((@Atom.mk α (Rep.ofShape s) (.agg (s.cells ov h).toArray) ov) :: (s.sub ov h ++ D))) :
    J c ops (⟨some d, .load E x, t, p, af, none⟩ :: rest) env L D :=
  iJ.read (σ := { h // s.wf ov }) rfl rfl (fun h => (d, .agg (s.cells ov h.1).toArray) :: env) (fun h => (@Atom.mk α (Rep.ofShape s) (.agg (s.cells ov h.1).toArray) ov) :: (s.sub ov h.1 ++ D)) (fun a w f st dh => by
    have hmem := List.mem_of_getElem? hi
    obtain ⟨g, cap, cs, css, rfl, hg, _, _, _, htk, hrd, _⟩ := @row_open α (Rep.ofShape s) _ _ _ _ _ (st.own _ hmem) (by intro e; rw [e] at hm; simp at hm)
    obtain ⟨ds, ⟨h, rfl, hsub, hwf⟩, hl⟩ := @lies_of α (Rep.ofShape s) _ _ _ css xs 0 hrd (row_lies hg htk) m ov hm
    have hgb : g ∈ L.bs := mem_bsOf.2 ⟨_, hmem, by simp [Value.ownBlock]⟩
    refine ⟨⟨h, hwf⟩, .agg (s.cells ov h).toArray, fun w' hs => ?_, f.put _ (lt_blt hn), DH.cons ⟨rfl, ⟨h, by simp [Value.cells], hsub, hwf⟩⟩ (DH.app (fun t ht => hsub t ht) dh)⟩
    have hl' : Lies w' g (0 + m * s.size) (s.cells ov h) := hl.keep (hs.block g (lt_of_heap hg) (by simp))
    have hrun := run_loadAtM (P := c.P) (T := E) (b := g) (o := 0 + m * s.size) (cs := s.cells ov h) (by rw [s.len]; exact ht) hl'
    have hx' := f.ev hx
    simp only [elp, Addr.add_mid, Nat.zero_add] at hx' hrun
    simp [execOp, hx', hrun]) (fun h => k h.1 h.2)
end
section
variable {c : Cx} {ops : Array Oper} {Q : Exit → Act → World → Prop} {env : Env} {L : Own} {D : List Atom} {rest : List Oper} {v : Value} {t : TypeId} {p : String} {af : Array Edge} {x y z : Operand}
/-- An element is written. -/
theorem stE {α : Type} {s : Shape α} (i m : Nat) {xs : List α} {ov : α} {e : TypeId} (h : s.H) (hx : ev env x = some (elp v (m * s.size))) (hy : ev env y = some (.agg (s.cells ov h).toArray)) (hi : L[i]? = some (@row α (Rep.ofShape s) e v xs)) (hm : m < xs.length) {E : TypeId} (ht : RowTy c.P E s.size) (hA : SubD (s.sub ov h) D) (hw : s.wf ov)
    (k : WL Q c ops rest env (L.set i (@row α (Rep.ofShape s) e v (xs.set m ov))) D) : WL Q c ops (⟨none, .store E x y, t, p, af, none⟩ :: rest) env L D := by
  refine wpl_skip (env' := env) rfl rfl (fun a w f st dh => ?_) k
  have hmem := List.mem_of_getElem? hi
  obtain ⟨g, cap, cs, css, rfl, hg, hc, hmx, hsz, htk, hrd, hlen⟩ := @row_open α (Rep.ofShape s) _ _ _ _ _ (st.own _ hmem) (by intro e; rw [e] at hm; simp at hm)
  have hR : @Rep.size α (Rep.ofShape s) = s.size := rfl
  rw [hR] at hsz htk
  obtain ⟨us, hus⟩ : ∃ us, us = s.cells ov h := ⟨_, rfl⟩
  have hul : us.length = s.size := by rw [hus]; exact s.len ov h
  have hgb : g ∈ L.bs := mem_bsOf.2 ⟨_, hmem, by simp [Value.ownBlock]⟩
  have hm1 : (m + 1) * s.size ≤ cap * s.size := Nat.mul_le_mul_right _ (by omega)
  rw [Nat.succ_mul] at hm1
  have hsub : ∀ t ∈ s.sub ov h, t.holds (Sf L.bs w) w := fun t ht => dh t (hA t ht)
  have hone : us.toArray.all (·.oneCell') = true := by
    rw [hus]
    simpa using s.one ov h hsub
  have hs : Stp [g] w (w.setCells g (m * s.size) us) := stp_setCells g us _ w
  have hg' := heap_setCells us cs (m * s.size) w hg
  have hsv : Stp (@row α (Rep.ofShape s) e (.slice (some ⟨g, 0, none⟩) xs.length cap) xs).bs w (w.setCells g (m * s.size) us) := hs.mono fun b hb => by simpa [Value.ownBlock] using hb
  have hSS : ∀ b, Sf L.bs w b → Sf (Own.bs (L.set i (@row α (Rep.ofShape s) e (.slice (some ⟨g, 0, none⟩) xs.length cap) (xs.set m ov)))) (w.setCells g (m * s.size) us) b := fun b hb => ⟨Nat.lt_of_lt_of_le hb.1 hs.size, fun hx => by
    rcases bs_set hi b hx with h1 | h1
    · have : b = g := by simpa [Value.ownBlock] using h1
      exact hb.2 (this ▸ hgb)
    · exact hb.2 h1⟩
  have hHH : ∀ b, Sf L.bs w b → (w.setCells g (m * s.size) us).heap[b]? = w.heap[b]? := fun b hb => hs.block b hb.1 (fun hx => by
    have : b = g := by simpa using hx
    exact hb.2 (this ▸ hgb))
  have hst := st.upd (p' := @row α (Rep.ofShape s) e (.slice (some ⟨g, 0, none⟩) xs.length cap) (xs.set m ov)) i hi hsv ?_ (by simp [Value.ownBlock]) (fun b hb => .inl hb)
  · have hdh := dh.upd (p' := @row α (Rep.ofShape s) e (.slice (some ⟨g, 0, none⟩) xs.length cap) (xs.set m ov)) i hi hsv (fun b hb => .inl hb)
    refine ⟨w.setCells g (m * s.size) us, ?_, f.putNone _, hst, hdh⟩
    have hrun := run_storeAt_mid (P := c.P) w g (m * s.size) E us.toArray (fun j hj => by
      have hj' : m * s.size + j < cs.length := by simp at hj; omega
      exact ⟨by rw [cell_of_row w g _ _ e (0, 0) hg]; simp [List.getElem?_eq_getElem hj'], frozen_of_row w g _ _ e hg⟩) (by rw [show us.toArray.size = s.size by simpa using hul]; exact ht.2) hone
    have hx' := f.ev hx
    simp only [elp, Addr.add_mid, Nat.zero_add] at hx'
    have hy' := f.ev hy
    rw [← hus] at hy'
    simp [execOp, hx', hy', hrun]
  · -- the row as it is now
    have hlie : ∀ i' x', (xs.set m ov)[i']? = some x' → ∃ ds, @Rep.rd α (Rep.ofShape s) (Sf (Own.bs (L.set i (@row α (Rep.ofShape s) e (.slice (some ⟨g, 0, none⟩) xs.length cap) (xs.set m ov)))) (w.setCells g (m * s.size) us)) (w.setCells g (m * s.size) us) ds x' ∧ Lies (w.setCells g (m * s.size) us) g (0 + (0 + i') * s.size) ds := by
      intro i' x' hx'
      by_cases him : i' = m
      · subst him
        rw [List.getElem?_set_self hm] at hx'
        have : x' = ov := by simpa using hx'.symm
        subst this
        refine ⟨us, ⟨h, hus, fun t ht => Atom.keep (hsub t ht) hSS hHH, hw⟩, fun j u hj => ?_⟩
        have hj' : j < us.length := (List.getElem?_eq_some_iff.1 hj).1
        simp only [Nat.zero_add]
        rw [cell_of_row _ g _ _ e (0, 0) hg', List.getElem?_toArray, spl_at us cs _ _ (by omega), if_pos (by omega), show i' * s.size + j - i' * s.size = j by omega]
        exact hj
      · rw [List.getElem?_set_ne (Ne.symm him)] at hx'
        obtain ⟨ds, hd1, hd2⟩ := @lies_of α (Rep.ofShape s) _ _ _ css xs 0 hrd (row_lies hg htk) i' x' hx'
        have hdl : ds.length = s.size := @Rep.len α (Rep.ofShape s) _ _ _ _ hd1
        refine ⟨ds, @Rep.keep α (Rep.ofShape s) _ _ _ _ _ _ hd1 hSS hHH, fun j u hj => ?_⟩
        have hj' : j < ds.length := (List.getElem?_eq_some_iff.1 hj).1
        have hold := hd2 j u hj
        simp only [Nat.zero_add] at hold ⊢
        rw [cell_of_row w g _ _ e (0, 0) hg, List.getElem?_toArray] at hold
        rw [cell_of_row _ g _ _ e (0, 0) hg', List.getElem?_toArray, spl_at us cs _ _ (by omega), if_neg ?_]
        · exact hold
        · rcases Nat.lt_or_gt_of_ne him with hlt | hlt
          · have := Nat.mul_le_mul_right s.size (show i' + 1 ≤ m by omega)
            rw [Nat.succ_mul] at this
            omega
          · have := Nat.mul_le_mul_right s.size (show m + 1 ≤ i' by omega)
            rw [Nat.succ_mul] at this
            omega
    obtain ⟨css', hr', hl'⟩ := @rdL_of α (Rep.ofShape s) _ _ g 0 (xs.set m ov) 0 hlie
    have hfl := @rdL.len α (Rep.ofShape s) _ _ css' _ hr'
    rw [hR, List.length_set] at hfl
    refine ⟨css', ⟨by rw [List.length_set]; exact hfl, .inr ⟨g, cap, (spl cs (m * s.size) us).toArray, by rw [List.length_set], Nat.zero_le _, hg', by rw [List.length_set]; exact hc, hmx, (show (spl cs (m * s.size) us).toArray.size = cap * s.size by simpa [spl_len] using hsz), ?_⟩⟩, hr', by rw [List.length_set]; exact hlen⟩
    rw [List.length_set]
    show List.take (xs.length * s.size) _ = css'.flatten
    refine List.ext_getElem? fun j => ?_
    by_cases hj : j < xs.length * s.size
    · rw [List.getElem?_take, if_pos hj]
      have hj2 : j < css'.flatten.length := by rw [hfl]; exact hj
      have := hl' j _ (List.getElem?_eq_getElem hj2)
      rw [cell_of_row _ g _ _ e (0, 0) hg', List.getElem?_toArray] at this
      rw [List.getElem?_eq_getElem hj2, ← this]
      simp
    · rw [List.getElem?_eq_none (by simp; omega), List.getElem?_eq_none (by omega)]
end
end Go.Eng

/- The library's stable sort, as plain lists. No program. -/

namespace Go.Eng
section
variable {α : Type} [Inhabited α]
/-- Two places change what they have. -/
def swapL (xs : List α) (i j : Nat) : List α := (xs.set i (xs.getD j default)).set j (xs.getD i default)
theorem swapL_len (xs : List α) (i j : Nat) : (swapL xs i j).length = xs.length := by simp [swapL]
variable (lt : α → α → Bool)
/-- One is brought down to its place. -/
def insJ (a : Nat) : Nat → List α → List α
  | 0, xs => xs
  | j + 1, xs => if a < j + 1 ∧ lt (xs.getD (j + 1) default) (xs.getD j default) = true then insJ a j (swapL xs (j + 1) j) else xs
theorem insJ_len (a : Nat) : ∀ (j : Nat) (xs : List α), (insJ lt a j xs).length = xs.length
  | 0, _ => rfl
  | j + 1, xs => by
    rw [insJ]
    split
    · rw [insJ_len a j, swapL_len]
    · rfl
def insI (a : Nat) : Nat → Nat → List α → List α
  | 0, _, xs => xs
  | n + 1, i, xs => insI a n (i + 1) (insJ lt a i xs)
theorem insI_len (a : Nat) : ∀ (n i : Nat) (xs : List α), (insI lt a n i xs).length = xs.length
  | 0, _, _ => rfl
  | n + 1, i, xs => by rw [insI, insI_len a n, insJ_len]
/-- The places from a on below b, each brought to its place. -/
def insP (a b : Nat) (xs : List α) : List α := insI lt a (b - (a + 1)) (a + 1) xs
theorem insP_len (a b : Nat) (xs : List α) : (insP lt a b xs).length = xs.length := insI_len lt a _ _ xs
/-- The first place from i on below j of which f does not hold, halved. -/
def search (f : Nat → Bool) : Nat → Nat → Nat → Nat
  | 0, i, _ => i
  | n + 1, i, j => if i < j then (if f ((i + j) / 2) = true then search f n ((i + j) / 2 + 1) j else search f n i ((i + j) / 2)) else i
theorem search_end (f : Nat → Bool) (n i j : Nat) (h : j ≤ i) : search f n i j = i := by
  cases n
  · rfl
  · rw [search, if_neg (by omega)]
def shU : Nat → Nat → List α → List α
  | 0, _, xs => xs
  | n + 1, k, xs => shU n (k + 1) (swapL xs k (k + 1))
theorem shU_len : ∀ (n k : Nat) (xs : List α), (shU n k xs).length = xs.length
  | 0, _, _ => rfl
  | n + 1, k, xs => by rw [shU, shU_len n, swapL_len]
def shD : Nat → Nat → List α → List α
  | 0, _, xs => xs
  | n + 1, k, xs => shD n (k - 1) (swapL xs k (k - 1))
theorem shD_len : ∀ (n k : Nat) (xs : List α), (shD n k xs).length = xs.length
  | 0, _, _ => rfl
  | n + 1, k, xs => by rw [shD, shD_len n, swapL_len]
/-- n places from a on change with n from b on. -/
def swR (a b : Nat) : Nat → Nat → List α → List α
  | 0, _, xs => xs
  | n + 1, i, xs => swR a b n (i + 1) (swapL xs (a + i) (b + i))
theorem swR_len (a b : Nat) : ∀ (n i : Nat) (xs : List α), (swR a b n i xs).length = xs.length
  | 0, _, _ => rfl
  | n + 1, i, xs => by rw [swR, swR_len a b n, swapL_len]
/-- What is from a on below m, and from m on below b, change places. -/
def rotF (m : Nat) : Nat → Nat → Nat → List α → List α
  | 0, i, _, xs => swR (m - i) m i 0 xs
  | f + 1, i, j, xs => if i = j then swR (m - i) m i 0 xs else if j < i then rotF m f (i - j) j (swR (m - i) m j 0 xs) else rotF m f i (j - i) (swR (m - i) (m + j - i) i 0 xs)
theorem rotF_len (m : Nat) : ∀ (f i j : Nat) (xs : List α), (rotF m f i j xs).length = xs.length
  | 0, _, _, _ => swR_len ..
  | f + 1, i, j, xs => by
    rw [rotF]
    split
    · exact swR_len ..
    · split
      · rw [rotF_len m f, swR_len]
      · rw [rotF_len m f, swR_len]
def rotP (a m b : Nat) (xs : List α) : List α := rotF m (b - a) (m - a) (b - m) xs
theorem rotP_len (a m b : Nat) (xs : List α) : (rotP a m b xs).length = xs.length := rotF_len ..
def symS (a m b : Nat) (xs : List α) : Nat :=
  if (a + b) / 2 < m then search (fun c => !lt (xs.getD ((a + b) / 2 + m - 1 - c) default) (xs.getD c default)) (b - a) ((a + b) / 2 + m - b) ((a + b) / 2)
  else search (fun c => !lt (xs.getD ((a + b) / 2 + m - 1 - c) default) (xs.getD c default)) (b - a) a m
/-- What is in order from a on below m, and from m on below b, is brought into one order. -/
def symP : Nat → Nat → Nat → Nat → List α → List α
  | 0, _, _, _, xs => xs
  | f + 1, a, m, b, xs =>
    if m - a = 1 then shU (search (fun h => lt (xs.getD h default) (xs.getD a default)) (b - m) m b - 1 - a) a xs
    else if b - m = 1 then shD (m - search (fun h => !lt (xs.getD m default) (xs.getD h default)) (m - a) a m) m xs
    else
      let s := symS lt a m b xs
      let e := (a + b) / 2 + m - s
      let x1 := if s < m ∧ m < e then rotP s m e xs else xs
      let x2 := if a < s ∧ s < (a + b) / 2 then symP f a s ((a + b) / 2) x1 else x1
      if (a + b) / 2 < e ∧ e < b then symP f ((a + b) / 2) e b x2 else x2
theorem symP_len : ∀ (f a m b : Nat) (xs : List α), (symP lt f a m b xs).length = xs.length
  | 0, _, _, _, _ => rfl
  | f + 1, a, m, b, xs => by
    rw [symP]
    split
    · exact shU_len ..
    · split
      · exact shD_len ..
      · simp only
        split
        · rw [symP_len f]
          split
          · rw [symP_len f]
            split
            · exact rotP_len ..
            · rfl
          · split
            · exact rotP_len ..
            · rfl
        · split
          · rw [symP_len f]
            split
            · exact rotP_len ..
            · rfl
          · split
            · exact rotP_len ..
            · rfl
/-- Blocks of twenty. -/
def blkP (n : Nat) : Nat → Nat → List α → List α
  | 0, a, xs => insP lt a n xs
  | f + 1, a, xs => if a + 20 ≤ n then blkP n f (a + 20) (insP lt a (a + 20) xs) else insP lt a n xs
theorem blkP_len (n : Nat) : ∀ (f a : Nat) (xs : List α), (blkP lt n f a xs).length = xs.length
  | 0, _, _ => insP_len ..
  | f + 1, a, xs => by
    rw [blkP]
    split
    · rw [blkP_len n f, insP_len]
    · exact insP_len ..
def mrgP (n z : Nat) : Nat → Nat → List α → List α
  | 0, a, xs => if a + z < n then symP lt (n - a) a (a + z) n xs else xs
  | f + 1, a, xs => if a + 2 * z ≤ n then mrgP n z f (a + 2 * z) (symP lt (2 * z) a (a + z) (a + 2 * z) xs) else if a + z < n then symP lt (n - a) a (a + z) n xs else xs
theorem mrgP_len (n z : Nat) : ∀ (f a : Nat) (xs : List α), (mrgP lt n z f a xs).length = xs.length
  | 0, _, _ => by
    rw [mrgP]
    split
    · exact symP_len ..
    · rfl
  | f + 1, a, xs => by
    rw [mrgP]
    split
    · rw [mrgP_len n z f, symP_len]
    · split
      · exact symP_len ..
      · rfl
def outP (n : Nat) : Nat → Nat → List α → List α
  | 0, _, xs => xs
  | f + 1, z, xs => if z < n then outP n f (2 * z) (mrgP lt n z n 0 xs) else xs
theorem outP_len (n : Nat) : ∀ (f z : Nat) (xs : List α), (outP lt n f z xs).length = xs.length
  | 0, _, _ => rfl
  | f + 1, z, xs => by
    rw [outP]
    split
    · rw [outP_len n f, mrgP_len]
    · rfl
/-- As the library sorts, what is alike as it came. -/
def sortP (xs : List α) : List α := outP lt xs.length xs.length 20 (blkP lt xs.length xs.length 0 xs)
theorem sortP_len (xs : List α) : (sortP lt xs).length = xs.length := by rw [sortP, outP_len, blkP_len]
end
end Go.Eng

/- Rows of one's own: single fields, stores of things that are known as data; quiet calls of function values. Generic: no program. -/

namespace Go.Eng
open Go.RowKit
/-- What stands when one element of a row was turned. -/
theorem row_put {α : Type} {s : Shape α} {c : Cx} {w w' : World} {L : Own} {D : List Atom} (i m : Nat) {xs : List α} {ov : α} {e : TypeId} {g cap : Nat} {cs : List Value} (h : s.H) (hi : L[i]? = some (@row α (Rep.ofShape s) e (.slice (some ⟨g, 0, none⟩) xs.length cap) xs)) (hm : m < xs.length) (hA : SubD (s.sub ov h) D) (hw : s.wf ov)
    (st : St c.w0 c.M w L) (dh : DH D w L) (hg : w.heap[g]? = some (.cells cs.toArray e (0, 0))) (hs : Stp [g] w w') (hg' : w'.heap[g]? = some (.cells (spl cs (m * s.size) (s.cells ov h)).toArray e (0, 0))) :
    St c.w0 c.M w' (L.set i (@row α (Rep.ofShape s) e (.slice (some ⟨g, 0, none⟩) xs.length cap) (xs.set m ov))) ∧ DH D w' (L.set i (@row α (Rep.ofShape s) e (.slice (some ⟨g, 0, none⟩) xs.length cap) (xs.set m ov))) := by
  have hmem := List.mem_of_getElem? hi
  obtain ⟨g1, cap1, cs1, css, hv1, hg1, hc, hmx, hsz, htk, hrd, hlen⟩ := @row_open α (Rep.ofShape s) _ _ _ _ _ (st.own _ hmem) (by intro e; rw [e] at hm; simp at hm)
  simp only [Value.slice.injEq, Option.some.injEq, Addr.mk.injEq, and_true, true_and] at hv1
  obtain ⟨rfl, rfl⟩ := hv1
  rw [hg] at hg1
  have hcs : cs = cs1 := by simpa using hg1
  subst hcs
  have hR : @Rep.size α (Rep.ofShape s) = s.size := rfl
  rw [hR] at hsz htk
  obtain ⟨us, hus⟩ : ∃ us, us = s.cells ov h := ⟨_, rfl⟩
  have hul : us.length = s.size := by rw [hus]; exact s.len ov h
  rw [← hus] at hg'
  have hgb : g ∈ L.bs := mem_bsOf.2 ⟨_, hmem, by simp [Value.ownBlock]⟩
  have hm1 : (m + 1) * s.size ≤ cap * s.size := Nat.mul_le_mul_right _ (by omega)
  rw [Nat.succ_mul] at hm1
  have hsub : ∀ t ∈ s.sub ov h, t.holds (Sf L.bs w) w := fun t ht => dh t (hA t ht)
  have hsv : Stp (@row α (Rep.ofShape s) e (.slice (some ⟨g, 0, none⟩) xs.length cap) xs).bs w w' := hs.mono fun b hb => by simpa [Value.ownBlock] using hb
  have hSS : ∀ b, Sf L.bs w b → Sf (Own.bs (L.set i (@row α (Rep.ofShape s) e (.slice (some ⟨g, 0, none⟩) xs.length cap) (xs.set m ov)))) w' b := fun b hb => ⟨Nat.lt_of_lt_of_le hb.1 hs.size, fun hx => by
    rcases bs_set hi b hx with h1 | h1
    · have : b = g := by simpa [Value.ownBlock] using h1
      exact hb.2 (this ▸ hgb)
    · exact hb.2 h1⟩
  have hHH : ∀ b, Sf L.bs w b → w'.heap[b]? = w.heap[b]? := fun b hb => hs.block b hb.1 (fun hx => by
    have : b = g := by simpa using hx
    exact hb.2 (this ▸ hgb))
  refine ⟨st.upd (p' := @row α (Rep.ofShape s) e (.slice (some ⟨g, 0, none⟩) xs.length cap) (xs.set m ov)) i hi hsv ?_ (by simp [Value.ownBlock]) (fun b hb => .inl hb), dh.upd (p' := @row α (Rep.ofShape s) e (.slice (some ⟨g, 0, none⟩) xs.length cap) (xs.set m ov)) i hi hsv (fun b hb => .inl hb)⟩
  have hlie : ∀ i' x', (xs.set m ov)[i']? = some x' → ∃ ds, @Rep.rd α (Rep.ofShape s) (Sf (Own.bs (L.set i (@row α (Rep.ofShape s) e (.slice (some ⟨g, 0, none⟩) xs.length cap) (xs.set m ov)))) w') w' ds x' ∧ Lies w' g (0 + (0 + i') * s.size) ds := by
    intro i' x' hx'
    by_cases him : i' = m
    · subst him
      rw [List.getElem?_set_self hm] at hx'
      have : x' = ov := by simpa using hx'.symm
      subst this
      refine ⟨us, ⟨h, hus, fun t ht => Atom.keep (hsub t ht) hSS hHH, hw⟩, fun j u hj => ?_⟩
      have hj' : j < us.length := (List.getElem?_eq_some_iff.1 hj).1
      simp only [Nat.zero_add]
      rw [cell_of_row _ g _ _ e (0, 0) hg', List.getElem?_toArray, spl_at us cs _ _ (by omega), if_pos (by omega), show i' * s.size + j - i' * s.size = j by omega]
      exact hj
    · rw [List.getElem?_set_ne (Ne.symm him)] at hx'
      obtain ⟨ds, hd1, hd2⟩ := @lies_of α (Rep.ofShape s) _ _ _ css xs 0 hrd (row_lies hg htk) i' x' hx'
      have hdl : ds.length = s.size := @Rep.len α (Rep.ofShape s) _ _ _ _ hd1
      refine ⟨ds, @Rep.keep α (Rep.ofShape s) _ _ _ _ _ _ hd1 hSS hHH, fun j u hj => ?_⟩
      have hj' : j < ds.length := (List.getElem?_eq_some_iff.1 hj).1
      have hold := hd2 j u hj
      simp only [Nat.zero_add] at hold ⊢
      rw [cell_of_row w g _ _ e (0, 0) hg, List.getElem?_toArray] at hold
      rw [cell_of_row _ g _ _ e (0, 0) hg', List.getElem?_toArray, spl_at us cs _ _ (by omega), if_neg ?_]
      · exact hold
      · rcases Nat.lt_or_gt_of_ne him with hlt | hlt
        · have := Nat.mul_le_mul_right s.size (show i' + 1 ≤ m by omega)
          rw [Nat.succ_mul] at this
          omega
        · have := Nat.mul_le_mul_right s.size (show m + 1 ≤ i' by omega)
          rw [Nat.succ_mul] at this
          omega
  obtain ⟨css', hr', hl'⟩ := @rdL_of α (Rep.ofShape s) _ _ g 0 (xs.set m ov) 0 hlie
  have hfl := @rdL.len α (Rep.ofShape s) _ _ css' _ hr'
  rw [hR, List.length_set] at hfl
  refine ⟨css', ⟨by rw [List.length_set]; exact hfl, .inr ⟨g, cap, (spl cs (m * s.size) us).toArray, by rw [List.length_set], Nat.zero_le _, hg', by rw [List.length_set]; exact hc, hmx, (show (spl cs (m * s.size) us).toArray.size = cap * s.size by simpa [spl_len] using hsz), ?_⟩⟩, hr', by rw [List.length_set]; exact hlen⟩
  rw [List.length_set]
  show List.take (xs.length * s.size) _ = css'.flatten
  refine List.ext_getElem? fun j => ?_
  by_cases hj : j < xs.length * s.size
  · rw [List.getElem?_take, if_pos hj]
    have hj2 : j < css'.flatten.length := by rw [hfl]; exact hj
    have := hl' j _ (List.getElem?_eq_getElem hj2)
    rw [cell_of_row _ g _ _ e (0, 0) hg', List.getElem?_toArray] at this
    rw [List.getElem?_eq_getElem hj2, ← this]
    simp
  · rw [List.getElem?_eq_none (by simp; omega), List.getElem?_eq_none (by omega)]

section
variable {c : Cx} {ops : Array Oper} {J : Cx → Array Oper → List Oper → Env → Own → List Atom → Prop} [iJ : IsJ J] {env : Env} {L : Own} {D : List Atom} {rest : List Oper} {d : Nat} {v : Value} {t : TypeId} {p : String} {af : Array Edge} {x y z : Operand} {T : TypeId}
include iJ
/-- The place of an element, told as a number of cells. -/
theorem ixN {α : Type} {r : Rep α} (i n : Nat) {xs : List α} {m : Int} {E e : TypeId} (hx : ev env x = some v) (hi : L[i]? = some (@row α r e v xs)) (hy : ev env y = some (.int .i64 m)) (ht : SliceTy c.P T E r.size) (hm : m = (n : Int)) (h1 : n < xs.length) (hn : Nat.blt d c.n = true)
    (k : J c ops rest ((d, elp v (n * r.size)) :: env) L D) : J c ops (⟨some d, .indexAddr T x y, t, p, af, none⟩ :: rest) env L D :=
  ixR i hx hi hy ht (by omega) (by omega) hn (by rw [hm]; exact k)
omit iJ in
theorem elp_fields {S : Nat → Prop} {w : World} {α : Type} [r : Rep α] {e : TypeId} {v : Value} {xs : List α} (h : (row e v xs).holds S w) (hx : xs ≠ []) : ∃ g cap, v = .slice (some ⟨g, 0, none⟩) xs.length cap := by
  obtain ⟨g, cap, cs, css, hv, _⟩ := row_open h hx
  exact ⟨g, cap, hv⟩
/-- The place of a field of an element. -/
theorem faE {α : Type} {r : Rep α} (i : Nat) {xs : List α} {e : TypeId} {o off j : Nat} (hx : ev env x = some (elp v o)) (hi : L[i]? = some (@row α r e v xs)) (hne : 0 < xs.length) (hF : FieldAt c.P T j off) (hn : Nat.blt d c.n = true)
    (k : J c ops rest ((d, elp v (o + off)) :: env) L D) : J c ops (⟨some d, .fieldAddr T x j, t, p, af, none⟩ :: rest) env L D :=
  iJ.fact (q := ∃ g cap, v = .slice (some ⟨g, 0, none⟩) xs.length cap) (fun a w f st dh => @elp_fields _ _ α r _ _ _ (st.own _ (List.mem_of_getElem? hi)) (by intro e; rw [e] at hne; simp at hne)) fun ⟨g, cap, hv⟩ => by
    subst hv
    simp only [elp, Addr.add_mid] at hx k
    exact fa hx hF hn (by rw [Nat.add_assoc]; exact k)
/-- A field of an element is read. -/
theorem ldE {α : Type} {s : Shape α} (i m o : Nat) {xs : List α} {ov : α} {e : TypeId} (u : s.H → Value) (hx : ev env x = some (elp v (m * s.size + o))) (hi : L[i]? = some (@row α (Rep.ofShape s) e v xs)) (hm : xs[m]? = some ov) (hu : ∀ h, (s.cells ov h)[o]? = some (u h)) {E : TypeId} (ht : OneTy c.P E) (hn : Nat.blt d c.n = true)
    (k : ∀ h, s.wf ov → J c ops rest ((d, u h) :: env) L (s.sub ov h ++ D)) :
    J c ops (⟨some d, .load E x, t, p, af, none⟩ :: rest) env L D :=
  iJ.read (σ := { h // s.wf ov }) rfl rfl (fun h => (d, u h.1) :: env) (fun h => s.sub ov h.1 ++ D) (fun a w f st dh => by
    have hmem := List.mem_of_getElem? hi
    obtain ⟨g, cap, cs, css, rfl, hg, _, _, _, htk, hrd, _⟩ := @row_open α (Rep.ofShape s) _ _ _ _ _ (st.own _ hmem) (by intro e; rw [e] at hm; simp at hm)
    obtain ⟨ds, ⟨h, rfl, hsub, hwf⟩, hl⟩ := @lies_of α (Rep.ofShape s) _ _ _ css xs 0 hrd (row_lies hg htk) m ov hm
    have hgb : g ∈ L.bs := mem_bsOf.2 ⟨_, hmem, by simp [Value.ownBlock]⟩
    refine ⟨⟨h, hwf⟩, u h, fun w' hs => ?_, f.put _ (lt_blt hn), DH.app (fun t ht => hsub t ht) dh⟩
    have hl' : Lies w' g (0 + m * s.size) (s.cells ov h) := hl.keep (hs.block g (lt_of_heap hg) (by simp))
    have hc := hl' o _ (hu h)
    have hrun := run_loadAt1 (P := c.P) ht (a := ⟨g, m * s.size + o, none⟩) (v := u h) (w := w') (by simpa using hc)
    have hx' := f.ev hx
    simp only [elp, Addr.add_mid, Nat.zero_add] at hx'
    simp [execOp, hx', hrun]) (fun h => k h.1 h.2)
end
section
variable {c : Cx} {ops : Array Oper} {Q : Exit → Act → World → Prop} {env : Env} {L : Own} {D : List Atom} {rest : List Oper} {d : Nat} {v : Value} {t : TypeId} {p : String} {af : Array Edge} {x y z : Operand}
/-- An element is written, by what is known as data. -/
theorem stA {α : Type} {s : Shape α} (i m j : Nat) {xs : List α} {ov : α} {u : Value} {e : TypeId} (hx : ev env x = some (elp v (m * s.size))) (hy : ev env y = some u) (hj : D[j]? = some (@Atom.mk α (Rep.ofShape s) u ov)) (hi : L[i]? = some (@row α (Rep.ofShape s) e v xs)) (hm : m < xs.length) {E : TypeId} (ht : RowTy c.P E s.size)
    (k : WL Q c ops rest env (L.set i (@row α (Rep.ofShape s) e v (xs.set m ov))) D) : WL Q c ops (⟨none, .store E x y, t, p, af, none⟩ :: rest) env L D := by
  intro a w f st dh
  obtain ⟨ha, h, hcs, hsub, hwf⟩ := dh.at_ j hj
  have hu : u = .agg (s.cells ov h).toArray := by
    cases u with
    | agg cs =>
      simp only [Value.cells] at hcs
      rw [← hcs]
    | _ => exact absurd ha (by simp [isAggV, Rep.ofShape])
  subst hu
  exact stE (D := s.sub ov h ++ D) i m h hx hy hi hm ht (fun t ht => List.mem_append_left _ ht) hwf (fun a w f st dh => k a w f st (fun t ht => dh t (List.mem_append_right _ ht))) a w f st (DH.app (fun t ht => hsub t ht) dh)
/-- A slice in an element is put anew, by one that reads alike. -/
theorem stF {α β : Type} {s : Shape α} {r2 : Rep β} (i m o j : Nat) (h' : s.H) {xs : List α} {ys : List β} {ov : α} {u : Value} {e : TypeId} (hx : ev env x = some (elp v (m * s.size + o))) (hy : ev env y = some u) (hj : D[j]? = some (@Atom.mk (List β) (@repList β r2) u ys)) (hi : L[i]? = some (@row α (Rep.ofShape s) e v xs)) (hm : xs[m]? = some ov) (ho : o < s.size)
    (hc : ∀ h, (s.cells ov h).set o u = s.cells ov h') (hA : SubD (s.sub ov h') D) {E : TypeId} (ht : OneTy c.P E) (k : WL Q c ops rest env L D) : WL Q c ops (⟨none, .store E x y, t, p, af, none⟩ :: rest) env L D := by
  refine gtL (iJ := isJ_WL Q) (q := u.oneCell' = true) (fun _ _ h => oneCell_of_list (h _ (List.mem_of_getElem? hj))) fun hu => wpl_skip (env' := env) rfl rfl (fun a w f st dh => ?_) k
  have hmem := List.mem_of_getElem? hi
  have hml : m < xs.length := (List.getElem?_eq_some_iff.1 hm).1
  obtain ⟨g, cap, cs, css, rfl, hg, hc1, hmx, hsz, htk, hrd, hlen⟩ := @row_open α (Rep.ofShape s) _ _ _ _ _ (st.own _ hmem) (by intro e; rw [e] at hm; simp at hm)
  have hR : @Rep.size α (Rep.ofShape s) = s.size := rfl
  rw [hR] at hsz
  have hm1 : (m + 1) * s.size ≤ cap * s.size := Nat.mul_le_mul_right _ (by omega)
  rw [Nat.succ_mul] at hm1
  obtain ⟨ds, ⟨h, rfl, hsub, hwf⟩, hl⟩ := @lies_of α (Rep.ofShape s) _ _ _ css xs 0 hrd (row_lies hg htk) m ov hm
  rw [hR] at hl
  have hlen0 : (s.cells ov h).length = s.size := s.len ov h
  have hlen1 : (s.cells ov h').length = s.size := s.len ov h'
  have hspl : spl cs (m * s.size) (s.cells ov h') = cs.set (m * s.size + o) u := by
    refine List.ext_getElem? fun q => ?_
    rw [spl_at _ _ _ _ (by omega)]
    by_cases hq : m * s.size ≤ q ∧ q < m * s.size + (s.cells ov h').length
    · rw [if_pos hq, ← hc h, List.getElem?_set, List.getElem?_set]
      by_cases hqo : o = q - m * s.size
      · rw [if_pos hqo, if_pos (by omega), if_pos (by omega), if_pos (by omega)]
      · rw [if_neg hqo, if_neg (by omega)]
        have := hl (q - m * s.size) _ (List.getElem?_eq_getElem (show q - m * s.size < (s.cells ov h).length by omega))
        rw [cell_of_row w g _ _ e (0, 0) hg, List.getElem?_toArray, show 0 + m * s.size + (q - m * s.size) = q by omega] at this
        rw [this, List.getElem?_eq_getElem (by omega)]
    · rw [if_neg hq, List.getElem?_set_ne (by omega)]
  have hs : Stp [g] w (w.setCell ⟨g, m * s.size + o, none⟩ u) := stp_setCell w g (m * s.size + o) u
  have hg' : (w.setCell ⟨g, m * s.size + o, none⟩ u).heap[g]? = some (.cells (spl cs (m * s.size) (s.cells ov h')).toArray e (0, 0)) := by
    rw [hspl, heap_setCell_same w g _ _ e u hg]
    simp
  have hput := row_put i m h' hi hml hA hwf st dh hg hs hg'
  have hset : xs.set m ov = xs := by
    refine List.ext_getElem? fun q => ?_
    rw [List.getElem?_set]
    split
    · rename_i e1
      subst e1
      rw [hm]
    · rfl
  have hLL : L.set i (@row α (Rep.ofShape s) e (.slice (some ⟨g, 0, none⟩) xs.length cap) (xs.set m ov)) = L := by
    rw [hset]
    refine List.ext_getElem? fun q => ?_
    rw [List.getElem?_set]
    split
    · rename_i e1
      subst e1
      rw [if_pos (List.getElem?_eq_some_iff.1 hi).1, hi]
    · rfl
  rw [hLL] at hput
  refine ⟨w.setCell ⟨g, m * s.size + o, none⟩ u, ?_, f.putNone _, hput.1, hput.2⟩
  have h1 : w.cell? ⟨g, m * s.size + o, none⟩ = some cs[m * s.size + o] := by rw [cell_of_row w g _ _ e (0, 0) hg, List.getElem?_toArray, List.getElem?_eq_getElem (by omega)]
  have h2 : w.frozen? ⟨g, m * s.size + o, none⟩ = false := frozen_of_row w g _ _ e hg
  obtain ⟨j', hj', hs'⟩ := Option.map_eq_some_iff.1 ht.2
  have hcu : u.cells = #[u] := by cases u <;> first | rfl | simp [Value.oneCell'] at hu
  have hst : (store ⟨g, m * s.size + o, none⟩ u).run c.P w = .ok () (w.setCell ⟨g, m * s.size + o, none⟩ u) := by
    rw [run_store c.P w ⟨g, m * s.size + o, none⟩ u .plain hu]
    simp [stored, h1, h2]
  have hx' := f.ev hx
  simp only [elp, Addr.add_mid, Nat.zero_add] at hx'
  simp [execOp, hx', f.ev hy, Instr.storeAt, Instr.sureAddr, storeVar, hcu, sizeOf, typeInfo, hj', hs', storeCells, Addr.add, hst]
/-- A call of a function value that only reads, in a walk that only reads. -/
theorem cfqc {f : FuncId} {vs us : List Value} {As : List Atom} {v : Value} {first cap : Array Value} {x : Operand} (h : FnV c.P f us As v) (hok : FnOk c.P f) {xs : List Operand} {ats : Array TypeId}
    (hx : ev env x = some (.func (.func f) first cap)) (hxs : evs env xs = some vs) (hus : first.toList ++ vs ++ cap.toList = us) (hA : SubD As D) (hn : Nat.blt d c.n = true) (k : WLQ Q c ops rest ((d, v) :: env) L D) :
    WLQ Q c ops (⟨some d, .call { callee := .value x, args := xs.toArray, argTypes := ats }, t, p, af, none⟩ :: rest) env L D := by
  intro a w fr st dh
  subst hus
  unfold wpQuiet
  rw [if_pos (show Region.wanted ⟨some d, .call { callee := .value x, args := xs.toArray, argTypes := ats }, t, p, af, none⟩ (yielded ops a.tmps) = true from rfl)]
  refine ⟨v, fun w' hw' => ?_, k _ w (fr.put v (lt_blt hn)) st dh⟩
  have hrun := run_call (P := c.P) (ρ := a.eval) (o := ⟨some d, .call { callee := .value x, args := xs.toArray, argTypes := ats }, t, p, af, none⟩) (x := x) (xs := xs) (ats := ats) (f := f) (first := first) (cap := cap) (vs := vs) rfl (fr.ev hx) (fr.evs hxs) hok w'
  unfold Oper.quietAt
  rw [hrun]
  refine ⟨rfl, ?_⟩
  have hc := h L.bs w' (by simpa [Own.bs, bsOf] using st.nd) (fun b hb => Nat.lt_of_lt_of_le (st.lt b hb) hw'.size) (by simp) (fun t ht => by
    have := (dh.step hw'.nil) t (hA t ht)
    simpa [Own.bs, bsOf] using this)
  refine Calls.mono hc fun e w'' ⟨u, he, hp⟩ => ?_
  obtain ⟨hs, y, hR, _⟩ := hp
  have hR' : u = v := hR
  subst hR'
  have hs' : Stp [] w' w'' := by simpa [Own.bs, bsOf] using hs
  exact ⟨he, hw'.trans hs'⟩
end
end Go.Eng

/- Lengths of rows. Generic: no program. -/

namespace Go.Eng
open Go.RowKit
section
variable {c : Cx} {Q : Exit → Act → World → Prop} {env : Env} {L : Own} {D : List Atom}
theorem lenRC {xx : Code} {α : Type} {r : Rep α} (i : Nat) {xs : List α} {v : Value} {e : TypeId} (hi : L[i]? = some (@row α r e v xs)) (k : xs.length ≤ 140737488355328 → WC c xx Q env L D) : WC c xx Q env L D := by
  intro a w f st dh
  obtain ⟨css, _, _, hl⟩ := st.own _ (List.mem_of_getElem? hi)
  exact k hl a w f st dh
end
section
variable {c : Cx} {ops : Array Oper} {J : Cx → Array Oper → List Oper → Env → Own → List Atom → Prop} [iJ : IsJ J] {env : Env} {L : Own} {D : List Atom} {rest : List Oper} {d : Nat} {t : TypeId} {p : String} {af : Array Edge} {x y : Operand} {xt yt : TypeId}
include iJ
/-- A difference, told otherwise. -/
theorem sbE {m n r : Int} (hx : ev env x = some (.int .i64 m)) (hy : ev env y = some (.int .i64 n)) (hr : m - n = r) (hi : InI r) (hn : Nat.blt d c.n = true) (k : J c ops rest ((d, .int .i64 r) :: env) L D) :
    J c ops (⟨some d, .binOp .sub xt x y yt, t, p, af, none⟩ :: rest) env L D := by
  subst hr
  exact sbI hx hy hi hn k
theorem adE {m n r : Int} (hx : ev env x = some (.int .i64 m)) (hy : ev env y = some (.int .i64 n)) (hr : m + n = r) (hi : InI r) (hn : Nat.blt d c.n = true) (k : J c ops rest ((d, .int .i64 r) :: env) L D) :
    J c ops (⟨some d, .binOp .add xt x y yt, t, p, af, none⟩ :: rest) env L D := by
  subst hr
  exact adI hx hy hi hn k
theorem mlE {m n r : Int} (hx : ev env x = some (.int .i64 m)) (hy : ev env y = some (.int .i64 n)) (hr : m * n = r) (hi : InI r) (hn : Nat.blt d c.n = true) (k : J c ops rest ((d, .int .i64 r) :: env) L D) :
    J c ops (⟨some d, .binOp .mul xt x y yt, t, p, af, none⟩ :: rest) env L D := by
  subst hr
  exact muW hx hy hn (by rw [wrap_i64_in hi]; exact k)
end
section
variable {c : Cx} {Q : Exit → Act → World → Prop} {env : Env} {L : Own} {D : List Atom} {x : Code}
/-- What stands behind ways that meet again. -/
theorem jnC {σ : Type} (C : Env) (Dc : List Atom) (V : σ → Env → Env) (LL : σ → Own) (I : σ → Prop) (_hC : Go.Eng.Sub C env) (_hc : SubD Dc D) (h1 : WC c x (Exit.then (JK c (fun s => V s C) LL (fun _ => Dc) I) Q) env L D) (h2 : ∀ s, I s → WQ c Q .normal (V s C) (LL s) Dc) : WC c x Q env L D :=
  jn (fun s => V s C) LL (fun _ => Dc) I h1 h2
end
theorem u64_nat {n : Nat} (h : n < 9223372036854775808) : IntKind.u64.wrap (n : Int) = (n : Int) := by
  simp [IntKind.wrap, IntKind.signed, IntKind.bits]
  omega
theorem i64_nat {n : Nat} (h : n < 9223372036854775808) : IntKind.i64.wrap (n : Int) = (n : Int) := wrap_i64_in ⟨by omega, by omega⟩
theorem shr1n (u : Nat) : ((u : Int)).fdiv (2 ^ min (1 : Int).toNat IntKind.u64.bits) = ((u / 2 : Nat) : Int) := by
  rw [show ((2 : Int) ^ min (1 : Int).toNat IntKind.u64.bits) = 2 by decide]
  rw [Int.fdiv_eq_ediv_of_nonneg _ (by decide)]
  omega
section
variable {α : Type} [Inhabited α]
theorem search_lt (f : Nat → Bool) {n i j : Nat} (h : i < j) (hn : 0 < n) : search f n i j = if f ((i + j) / 2) = true then search f (n - 1) ((i + j) / 2 + 1) j else search f (n - 1) i ((i + j) / 2) := by
  obtain ⟨n, rfl⟩ : ∃ k, n = k + 1 := ⟨n - 1, by omega⟩
  rw [search, if_pos h]
  rfl
theorem search_t (f : Nat → Bool) {n i j : Nat} (h : i < j) (hn : j - i ≤ n) (hf : f ((i + j) / 2) = true) : search f n i j = search f (n - 1) ((i + j) / 2 + 1) j := by rw [search_lt f h (by omega), if_pos hf]
theorem search_f (f : Nat → Bool) {n i j : Nat} (h : i < j) (hn : j - i ≤ n) (hf : ¬ f ((i + j) / 2) = true) : search f n i j = search f (n - 1) i ((i + j) / 2) := by rw [search_lt f h (by omega), if_neg hf]
theorem rotF_gt (m : Nat) {f i j : Nat} {xs : List α} (h : j < i) (hf : 0 < f) : rotF m f i j xs = rotF m (f - 1) (i - j) j (swR (m - i) m j 0 xs) := by
  obtain ⟨f, rfl⟩ : ∃ k, f = k + 1 := ⟨f - 1, by omega⟩
  rw [rotF, if_neg (by omega), if_pos h]
  rfl
theorem rotF_lt (m : Nat) {f i j : Nat} {xs : List α} (h : i < j) (hf : 0 < f) : rotF m f i j xs = rotF m (f - 1) i (j - i) (swR (m - i) (m + j - i) i 0 xs) := by
  obtain ⟨f, rfl⟩ : ∃ k, f = k + 1 := ⟨f - 1, by omega⟩
  rw [rotF, if_neg (by omega), if_neg (by omega)]
  rfl
theorem rotF_end (m : Nat) {f i : Nat} {xs : List α} : rotF m f i i xs = swR (m - i) m i 0 xs := by
  cases f
  · rfl
  · rw [rotF, if_pos rfl]
theorem shU_lt {k e : Nat} {xs : List α} (h : k < e) : shU (e - k) k xs = shU (e - (k + 1)) (k + 1) (swapL xs k (k + 1)) := by rw [show e - k = e - (k + 1) + 1 by omega, shU]
theorem shD_gt {k e : Nat} {xs : List α} (h : e < k) : shD (k - e) k xs = shD (k - 1 - e) (k - 1) (swapL xs k (k - 1)) := by rw [show k - e = k - 1 - e + 1 by omega, shD]
theorem blkP_le (lt : α → α → Bool) {n f a : Nat} {xs : List α} (h : a + 20 ≤ n) (hf : 0 < f) : blkP lt n f a xs = blkP lt n (f - 1) (a + 20) (insP lt a (a + 20) xs) := by
  obtain ⟨f, rfl⟩ : ∃ k, f = k + 1 := ⟨f - 1, by omega⟩
  rw [blkP, if_pos h]
  rfl
theorem blkP_end (lt : α → α → Bool) {n f a : Nat} {xs : List α} (h : ¬ a + 20 ≤ n) : blkP lt n f a xs = insP lt a n xs := by
  cases f
  · rfl
  · rw [blkP, if_neg h]
theorem mrgP_le (lt : α → α → Bool) {n z f a : Nat} {xs : List α} (h : a + 2 * z ≤ n) (hf : 0 < f) : mrgP lt n z f a xs = mrgP lt n z (f - 1) (2 * z + a) (symP lt (2 * z) a (a + z) (2 * z + a) xs) := by
  rw [Nat.add_comm (2 * z) a]
  obtain ⟨f, rfl⟩ : ∃ k, f = k + 1 := ⟨f - 1, by omega⟩
  rw [mrgP, if_pos h]
  rfl
theorem mrgP_end (lt : α → α → Bool) {n z f a : Nat} {xs : List α} (h : ¬ a + 2 * z ≤ n) : mrgP lt n z f a xs = if a + z < n then symP lt (n - a) a (a + z) n xs else xs := by
  cases f
  · rfl
  · rw [mrgP, if_neg h]
theorem outP_lt (lt : α → α → Bool) {n z f : Nat} {xs : List α} (h : z < n) (hf : 0 < f) : outP lt n f z xs = outP lt n (f - 1) (2 * z) (mrgP lt n z n 0 xs) := by
  obtain ⟨f, rfl⟩ : ∃ k, f = k + 1 := ⟨f - 1, by omega⟩
  rw [outP, if_pos h]
  rfl
theorem outP_end (lt : α → α → Bool) {n z f : Nat} {xs : List α} (h : ¬ z < n) : outP lt n f z xs = xs := by
  cases f
  · rfl
  · rw [outP, if_neg h]
theorem insJ_eq (lt : α → α → Bool) (a j : Nat) (xs : List α) : insJ lt a j xs = if a < j ∧ lt (xs.getD j default) (xs.getD (j - 1) default) = true then insJ lt a (j - 1) (swapL xs j (j - 1)) else xs := by
  cases j with
  | zero => rw [if_neg (by omega)]; rfl
  | succ j => rfl
end
end Go.Eng
