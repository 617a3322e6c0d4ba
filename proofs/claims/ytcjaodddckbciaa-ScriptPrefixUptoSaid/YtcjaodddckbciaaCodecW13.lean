/- Walks: written by specs1.py. -/
import Derived.Test.YtcjaodddckbciaaCodecW12
namespace Go.Proofs.Ytcjaodddckbciaa
open Go.Eng Go.Ytcjaodddckbciaa

theorem scriptBack_c (n : Int) (hni : InI n) (lv : Value) (l : List Ev) (hl : ∀ e ∈ l, EvIn e) : FnV Try.prog 3 [.int .i64 n, lv] [⟨lv, l⟩] (.bool true) := by
  refine Fnc.proof Try.func3 rfl 70 rfl rfl fun X w => ?_
  have hbl := encS_len (nodes := n) hl
  have he1 := encode_c n hni lv l
  rcases hE : encS n l with ⟨b, e⟩
  rw [hE] at he1 hbl
  simp only at hbl
  have hlen : b.length ≤ 140737488355328 := by omega
  refine sq ?_
  refine rg ?_
  refine asg rfl rfl ?_
  refine nl ?_
  refine nx ?_
  refine sq ?_
  refine rg ?_
  refine mv rfl rfl ?_
  refine mv rfl rfl ?_
  refine cf (he1) ok_5 rfl (SubD.cons 0 rfl SubD.nil) rfl fun y15 v15 h15 => ?_
  have h15 : v15 = .tuple #[y15, .int .i64 (e : Int)] := h15
  subst h15
  refine mv rfl rfl ?_
  refine xt rfl rfl rfl ?_
  refine xt rfl rfl rfl ?_
  refine asg rfl rfl ?_
  refine asg rfl rfl ?_
  refine nl ?_
  refine nx ?_
  refine sq ?_
  refine sq ?_
  refine rg ?_
  refine cfv (awake_c) ok_6 rfl SubD.nil rfl ?_
  refine nt rfl rfl ?_
  refine nl ?_
  refine nx ?_
  refine cdF rfl ?_
  refine sk ?_
  refine nx ?_
  refine sq ?_
  refine sq ?_
  refine rg ?_
  refine mv rfl rfl ?_
  refine neI rfl rfl rfl ?_
  refine nl ?_
  refine nx ?_
  refine cdN rfl (fun h21 => ?_) (fun h21 => ?_)
  ·
    refine sq ?_
    refine rg ?_
    refine mv rfl rfl ?_
    refine lnP 0 rfl rfl Try.underlying23 rfl fun l23 => ?_
    refine eqI rfl rfl rfl ?_
    refine asg rfl rfl ?_
    refine nl ?_
    refine nx ?_
    refine rt ?_
    refine tR ?_
    obtain rfl : b = [] := encS_bad hE (by omega)
    exact fR1 () rfl rfl rfl rfl SubD.nil
  ·
    obtain rfl : e = 0 := by omega
    obtain ⟨hB1, hB2⟩ := back hl hE
    have hd1 := decode_c y15 b hlen
    rw [hB1] at hd1
    have he2 := fun v => encode_c n hni v (l.map plainEv)
    rw [hB2] at he2
    refine sk ?_
    refine nx ?_
    refine sq ?_
    refine rg ?_
    refine mv rfl rfl ?_
    refine cf (hd1) ok_7 rfl (SubD.cons 0 rfl SubD.nil) rfl fun y27 v27 h27 => ?_
    have h27 : v27 = .tuple #[.int .i64 n, y27] := h27
    subst h27
    refine mv rfl rfl ?_
    refine xt rfl rfl rfl ?_
    refine xt rfl rfl rfl ?_
    refine asg rfl rfl ?_
    refine asg rfl rfl ?_
    refine nl ?_
    refine nx ?_
    refine sq ?_
    refine sq ?_
    refine rg ?_
    refine mv rfl rfl ?_
    refine mv rfl rfl ?_
    refine neI rfl rfl rfl ?_
    refine mv rfl rfl ?_
    refine spN (i := 33) rfl (fun h33 => ?_) (fun h33 => ?_)
    ·
      exact absurd rfl h33 --#done
    ·
      refine gY rfl rfl rfl ?_
      refine mv rfl rfl ?_
      refine gY rfl rfl rfl ?_
      refine lnP 0 rfl rfl Try.underlying22 rfl fun l35 => ?_
      refine gY rfl rfl rfl ?_
      refine mv rfl rfl ?_
      refine gY rfl rfl rfl ?_
      refine lnP 2 rfl rfl Try.underlying22 rfl fun l37 => ?_
      refine gY rfl rfl rfl ?_
      refine neI rfl rfl rfl ?_
      refine pkF rfl rfl rfl ?_
      refine nl ?_
      refine nx ?_
      refine cdN rfl (fun h39 => ?_) (fun h39 => ?_)
      ·
        exact absurd (by simp) h39 --#done
      ·
        refine sk ?_
        refine nx ?_
        refine sq ?_
        refine sq ?_
        refine rg ?_
        refine asg rfl rfl ?_
        refine nl ?_
        refine nx ?_
        refine bk ?_
        refine lp (σ := Nat) (fun i => [(0, .int .i64 n), (1, lv), (5, y15), (7, .int .i64 n), (8, y27), (9, .int .i64 (i : Int))]) (fun _ => [fz X w]) (fun _ => [⟨y27, l.map plainEv⟩, ⟨y15, b⟩, ⟨lv, l⟩]) (fun i => i ≤ l.length) (fun i => l.length - i) 0 (Nat.zero_le _) ⟨rfl, rfl, rfl, rfl, rfl, rfl, trivial⟩ rfl (SubD.cons 0 rfl (SubD.cons 1 rfl (SubD.cons 2 rfl SubD.nil))) ?_
        intro i hi
        refine sq ?_
        refine sq ?_
        refine rg ?_
        refine mv rfl rfl ?_
        refine mv rfl rfl ?_
        refine lnP 2 rfl rfl Try.underlying22 rfl fun l42 => ?_
        refine ltI rfl rfl rfl ?_
        refine nl ?_
        refine nx ?_
        refine cdP rfl (fun h43 => ?_) (fun h43 => ?_)
        ·
          obtain ⟨x, hx⟩ : ∃ x, l[i]? = some x := ⟨_, getE (by omega)⟩
          have hx2 : (l.map plainEv)[i]? = some (plainEv x) := by rw [List.getElem?_map, hx]; rfl
          refine sk ?_
          refine nx ?_
          refine sq ?_
          refine bk ?_
          refine sq ?_
          refine rgQ mixed (by kernel_rfl) ?_
          refine mv rfl rfl ?_
          refine mv rfl rfl ?_
          refine ixP 0 rfl rfl rfl slt_22 (by omega) hx2 rfl fun v48 => ?_
          refine ldS 0 rfl rfl row_35 rfl fun q49 w49 => ?_
          refine mv rfl rfl ?_
          refine mv rfl rfl ?_
          refine ixP 5 rfl rfl rfl slt_22 (by omega) hx rfl fun v52 => ?_
          refine ldS 0 rfl rfl row_35 rfl fun q53 w53 => ?_
          refine cfq (plain_ev _ _) ok_9 rfl (SubD.cons 1 rfl SubD.nil) rfl ?_
          refine adL ⟨if keeps x.kind = true then q53 else .slice none 0 0, (plainEv x).keep⟩ (fun S w h => ?_) ?_
          · have q := h ⟨q53, x.keep⟩ (List.mem_of_getElem? (i := 1) rfl)
            unfold plainEv
            simp only
            split
            · exact q
            · exact nil_list S w
          refine cfq (event_eq _ _ _ _) ok_8 rfl (SubD.cons 5 rfl (SubD.cons 0 rfl SubD.nil)) rfl ?_
          refine nt rfl rfl ?_
          refine nlQ ?_
          refine nx ?_
          refine cdB rfl (fun h56 => ?_) (fun h56 => ?_)
          ·
            exact absurd h56 (by simp [evEq_self]) --#done
          ·
            refine sk ?_
            refine bN ?_
            refine nx ?_
            refine rg ?_
            refine mv rfl rfl ?_
            refine adI rfl rfl (inI (by omega) (by omega)) rfl ?_
            refine asg rfl rfl ?_
            refine nl ?_
            exact ag (i + 1) (by omega) (by omega) ⟨rfl, rfl, rfl, rfl, rfl, rfl, trivial⟩ rfl (SubD.cons 7 rfl (SubD.cons 8 rfl (SubD.cons 9 rfl SubD.nil)))
        ·
          refine ex ?_
          refine tE ?_
          refine tE ?_
          refine bE ?_
          refine nx ?_
          refine sq ?_
          refine rg ?_
          refine mv rfl rfl ?_
          refine mv rfl rfl ?_
          refine cf (he2 _) ok_5 rfl (SubD.cons 0 rfl SubD.nil) rfl fun y60 v60 h60 => ?_
          have h60 : v60 = .tuple #[y60, .int .i64 0] := h60
          subst h60
          refine mv rfl rfl ?_
          refine xt rfl rfl rfl ?_
          refine xt rfl rfl rfl ?_
          refine asg rfl rfl ?_
          refine asg rfl rfl ?_
          refine nl ?_
          refine nx ?_
          refine sq ?_
          refine rg ?_
          refine mv rfl rfl ?_
          refine eqI rfl rfl rfl ?_
          refine mv rfl rfl ?_
          refine spP (i := 65) rfl (fun h65 => ?_) (fun h65 => ?_)
          ·
            refine gY rfl rfl rfl ?_
            refine mv rfl rfl ?_
            refine gY rfl rfl rfl ?_
            refine mv rfl rfl ?_
            refine gY rfl rfl rfl ?_
            refine cfv (bytes_c _ _ _ _) ok_10 rfl (SubD.cons 2 rfl (SubD.cons 0 rfl SubD.nil)) rfl ?_
            refine pkT rfl rfl rfl ?_
            refine asg rfl rfl ?_
            refine nl ?_
            refine nx ?_
            refine rt ?_
            first | exact absurd rfl h65 | exact fR1 () rfl rfl (by simp) rfl SubD.nil
          ·
            refine gN rfl rfl rfl rfl rfl ?_
            refine gN rfl rfl rfl rfl rfl ?_
            refine gN rfl rfl rfl rfl rfl ?_
            refine pkF rfl rfl rfl ?_
            refine asg rfl rfl ?_
            refine nl ?_
            refine nx ?_
            refine rt ?_
            first | exact absurd rfl h65 | exact fR1 () rfl rfl (by simp) rfl SubD.nil
end Go.Proofs.Ytcjaodddckbciaa
