/- Walks: written by specs1.py. -/
import Derived.Test.YtcjaodddckbciaaCodecW11
import Derived.Test.YtcjaodddckbciaaCodecD
namespace Go.Proofs.Ytcjaodddckbciaa
open Go.Eng Go.Ytcjaodddckbciaa

theorem awake_c : FnV Try.prog 6 [] [] (.bool true) := by
  refine Fnc.proof Try.func6 rfl 16 rfl rfl fun X w => ?_
  refine sq ?_
  refine rg ?_
  refine asg rfl rfl ?_
  refine nl ?_
  refine nx ?_
  refine sq ?_
  refine rg ?_
  obtain ⟨b, hb1, hb2⟩ := ev0_enc
  refine emL (α := Int) ?_
  refine bd (ps := [(0, .const (.int .i64 7)), (2, .const (.int .i64 1))]) (cs := evCells ev0 (.slice none 0 0)) (by rfl) (by kernel_rfl) rfl ?_
  refine bsM rfl app_22 rfl rfl rfl rfl fun b5 => ?_
  refine frS1 (α := Ev) ev0 (fun S w h => by exact ⟨.slice none 0 0, rfl, fun t ht => (List.mem_singleton.1 ht) ▸ nil_list S w, ev0_in.1⟩) ?_
  refine cf ((by have q := encode_c 1 (inI (by omega) (by omega)) (.slice (some ⟨b5, 0, none⟩) 1 1) [ev0]; rw [hb1] at q; exact q)) ok_5 rfl (SubD.cons 0 rfl SubD.nil) rfl fun y6 v6 h6 => ?_
  have h6 : v6 = .tuple #[y6, .int .i64 0] := h6
  subst h6
  refine mv rfl rfl ?_
  refine xt rfl rfl rfl ?_
  refine xt rfl rfl rfl ?_
  refine asg rfl rfl ?_
  refine asg rfl rfl ?_
  refine nl ?_
  refine nx ?_
  refine sq ?_
  refine rg ?_
  refine mv rfl rfl ?_
  refine eqI rfl rfl rfl ?_
  refine mv rfl rfl ?_
  refine spP (i := 11) rfl (fun h11 => ?_) (fun h11 => ?_)
  ·
    refine gY rfl rfl rfl ?_
    refine mv rfl rfl ?_
    refine gY rfl rfl rfl ?_
    refine lnP 0 rfl rfl Try.underlying23 rfl fun l13 => ?_
    refine gY rfl rfl rfl ?_
    refine eqI rfl rfl rfl ?_
    refine pkT rfl rfl rfl ?_
    refine asg rfl rfl ?_
    refine nl ?_
    refine nx ?_
    refine rt ?_
    first | exact absurd rfl h11 | exact fR1 () rfl rfl (by simp [hb2]) rfl SubD.nil
  ·
    refine gN rfl rfl rfl rfl rfl ?_
    refine gN rfl rfl rfl rfl rfl ?_
    refine gN rfl rfl rfl rfl rfl ?_
    refine pkF rfl rfl rfl ?_
    refine asg rfl rfl ?_
    refine nl ?_
    refine nx ?_
    refine rt ?_
    first | exact absurd rfl h11 | exact fR1 () rfl rfl (by simp [hb2]) rfl SubD.nil
end Go.Proofs.Ytcjaodddckbciaa
