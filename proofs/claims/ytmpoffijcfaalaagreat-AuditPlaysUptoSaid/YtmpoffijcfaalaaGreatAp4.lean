/- Part 4 of auditPlays_holds. -/
import Derived.Test.YtmpoffijcfaalaaGreatAp3

set_option maxRecDepth 20000
set_option maxHeartbeats 1000000
namespace Go.Eng
section
def Flds (P : Program) (T : TypeId) (offs : List Nat) : Prop := ∃ fs : Array Field, P.underlying T = some (.struct fs) ∧ (fs.toList.map fun f => ((P.info? f.type).map (fun j => j.size == 0), f.offset)) = offs.map (fun o => (some false, o))
theorem Flds.at_ {P : Program} {T : TypeId} {offs : List Nat} (h : Flds P T offs) {i off : Nat} (hi : offs[i]? = some off) : FieldAt P T i off := by
 obtain ⟨fs, hu, he⟩ := h
 have h1 : (offs.map (fun o => ((some false : Option Bool), o)))[i]? = some (some false, off) := by simp [hi]
 rw [← he, List.getElem?_map] at h1
 obtain ⟨f, hf, h2⟩ := Option.map_eq_some_iff.1 h1
 simp only [Prod.mk.injEq] at h2
 exact FieldAt.mk hu (f := f) (by simpa using hf) h2.1 h2.2
def AllF (P : Program) : List (Nat × List Nat) → Prop
 | [] => True
 | p :: r => Flds P p.1 p.2 ∧ AllF P r
def AllO (P : Program) : List Nat → Prop
 | [] => True
 | T :: r => OneTy P T ∧ AllO P r
def AllR (P : Program) : List (Nat × Nat) → Prop
 | [] => True
 | p :: r => RowTy P p.1 p.2 ∧ AllR P r
class Ft (P : Program) where
 fs : List (Nat × List Nat)
 os : List Nat
 rs : List (Nat × Nat)
 okF : AllF P fs
 okO : AllO P os
 okR : AllR P rs
 okM : P.follows .mixedOrders = true
def fo : List (Nat × List Nat) → Nat → Nat → Option Nat
 | [], _, _ => none
 | (T, l) :: r, s, i => bif T == s then l[i]? else fo r s i
def ho : List Nat → Nat → Bool
 | [], _ => false
 | T :: r, s => bif T == s then true else ho r s
def ro : List (Nat × Nat) → Nat → Option Nat
 | [], _ => none
 | (T, n) :: r, s => bif T == s then some n else ro r s
theorem ro_ok {P : Program} {s n : Nat} : ∀ {l : List (Nat × Nat)}, AllR P l → ro l s = some n → RowTy P s n
 | [], _, h => by cases h
 | (T, m) :: r, hl, h => by
  simp only [ro] at h
  by_cases hT : T = s
  · subst hT
    simp at h
    subst h
    exact hl.1
  · have : (T == s) = false := by simpa using hT
    rw [this] at h
    exact ro_ok hl.2 h
theorem fo_ok {P : Program} {s i off : Nat} : ∀ {l : List (Nat × List Nat)}, AllF P l → fo l s i = some off → FieldAt P s i off
 | [], _, h => by cases h
 | (T, l) :: r, hl, h => by
  simp only [fo] at h
  by_cases hT : T = s
  · subst hT
    simp at h
    exact hl.1.at_ h
  · have : (T == s) = false := by simpa using hT
    rw [this] at h
    exact fo_ok hl.2 h
theorem ho_ok {P : Program} {s : Nat} : ∀ {l : List Nat}, AllO P l → ho l s = true → OneTy P s
 | [], _, h => by cases h
 | T :: r, hl, h => by
  simp only [ho] at h
  by_cases hT : T = s
  · subst hT
    exact hl.1
  · have : (T == s) = false := by simpa using hT
    rw [this] at h
    exact ho_ok hl.2 h
def gval (ops : Array Oper) (env : Env) (j : Nat) (b : Bool) : Option Bool := match ops[j]? with
 | some o => match o.dst with
  | some d => match lk env d with
   | some (.bool b') => some (b' == b)
   | some (.tuple _) => some false
   | _ => none
  | none => none
 | none => none
def bo : BinOp → Value → Value → Option Value
 | .lss, .int q m, .int q' n => if q = q' then some (.bool (decide (m < n))) else none
 | .leq, .int q m, .int q' n => if q = q' then some (.bool (decide (m ≤ n))) else none
 | .gtr, .int q m, .int q' n => if q = q' then some (.bool (decide (n < m))) else none
 | .geq, .int q m, .int q' n => if q = q' then some (.bool (decide (n ≤ m))) else none
 | .eql, .int q m, .int q' n => if q = q' then some (.bool (decide (m = n))) else none
 | .neq, .int q m, .int q' n => if q = q' then some (.bool (!decide (m = n))) else none
 | .eql, .string s, .string s' => some (.bool (decide (s = s')))
 | .neq, .string s, .string s' => some (.bool (!decide (s = s')))
 | _, _, _ => none
def pv (fs : List (Nat × List Nat)) (env : Env) : Op → Option Value
 | .move x => ev env x
 | .assign x => ev env x
 | .nilCheck x => match ev env x with
  | some (.pointer (some a)) => some (.pointer (some a))
  | _ => none
 | .extract x i => match ev env x with
  | some (.tuple vs) => vs[i]?
  | _ => none
 | .pick x y z => match ev env x with
  | some (.bool true) => ev env y
  | some (.bool false) => ev env z
  | _ => none
 | .unOp .not _ x => match ev env x with
  | some (.bool b) => some (.bool (!b))
  | _ => none
 | .fieldAddr s x i => match ev env x with
  | some (.pointer (some ⟨b, o, none⟩)) => match fo fs s i with
   | some off => some (.pointer (some ⟨b, o + off, none⟩))
   | none => none
  | _ => none
 | .binOp op _ x y _ => match ev env x with
  | some u => match ev env y with
   | some v => bo op u v
   | none => none
  | none => none
 | _ => none
def pl (fs : List (Nat × List Nat)) (os : List Nat) (L : Own) (env : Env) (h : List Nat) : Op → Option (Value × List Nat × List (OwnE × OwnE))
 | .load E x => match h with
  | i :: h' => match ev env x with
   | some (.pointer (some ⟨b, o, none⟩)) => match L[i]? with
    | some q => match q.cs[o]? with
     | some v => bif ho os E then some (v, h', [(q, bl b q.ty q.cs)]) else none
     | none => none
    | none => none
   | _ => none
  | [] => none
 | op => match pv fs env op with
  | some v => some (v, h, [])
  | none => none
def run (n : Nat) (fs : List (Nat × List Nat)) (os : List Nat) (ops : Array Oper) (L : Own) : Nat → List Nat → List Oper → Env → Option (List Oper × Env × List (OwnE × OwnE))
 | 0, _, l, env => some (l, env, [])
 | _ + 1, _, [], _ => none
 | k + 1, h, o :: r, env => match o.dst with
  | none => none
  | some d => bif Nat.blt d n then (match (match o.guard with
   | none => some true
   | some (j, b) => gval ops env j b) with
   | some true => match pl fs os L env h o.op with
    | some (v, h', a) => match run n fs os ops L k h' r ((d, v) :: env) with
     | some (r', e', b) => some (r', e', a ++ b)
     | none => none
    | none => none
   | some false => run n fs os ops L k h r ((d, undef) :: env)
   | none => none) else none
section
variable {c : Cx} {ops : Array Oper} {J : Cx → Array Oper → List Oper → Env → Own → List Atom → Prop} [iJ : IsJ J] {env env' : Env} {L : Own} {D : List Atom} {rest l l' : List Oper} {d : Nat} {v : Value} {t : TypeId} {p : String} {af : Array Edge}
include iJ
theorem pv_ok {fs : List (Nat × List Nat)} (hf : AllF c.P fs) {op : Op} (h : pv fs env op = some v) (hn : Nat.blt d c.n = true) (k : J c ops rest ((d, v) :: env) L D) : J c ops (⟨some d, op, t, p, af, none⟩ :: rest) env L D := by
 cases op <;> simp only [pv, reduceCtorEq] at h
 case move x => exact mv h hn k
 case assign x => exact asg h hn k
 case nilCheck x =>
  split at h
  · rename_i a ha
    injection h with h; subst h
    exact nc ha hn k
  · cases h
 case extract x i =>
  split at h
  · rename_i vs hx
    exact xt hx h hn k
  · cases h
 case pick x y z =>
  split at h
  · rename_i hx; exact pkT hx h hn k
  · rename_i hx; exact pkF hx h hn k
  · cases h
 case unOp o ty x =>
  cases o <;> simp only [pv, reduceCtorEq] at h
  split at h
  · rename_i b hx
    injection h with h; subst h
    exact nt hx hn k
  · cases h
 case fieldAddr s x i =>
  split at h
  · rename_i b o hx
    split at h
    · rename_i off ho
      injection h with h; subst h
      exact fa hx (fo_ok hf ho) hn k
    · cases h
  · cases h
 case binOp op xt' x y yt =>
  split at h
  · rename_i u hx
    split at h
    · rename_i u' hy
      unfold bo at h
      split at h
      · split at h
        · rename_i hq; subst hq; injection h with h; subst h; exact ltI hx hy hn k
        · cases h
      · split at h
        · rename_i hq; subst hq; injection h with h; subst h; exact leI hx hy hn k
        · cases h
      · split at h
        · rename_i hq; subst hq; injection h with h; subst h; exact gtI hx hy hn k
        · cases h
      · split at h
        · rename_i hq; subst hq; injection h with h; subst h; exact geI hx hy hn k
        · cases h
      · split at h
        · rename_i hq; subst hq; injection h with h; subst h; exact eqI hx hy hn k
        · cases h
      · split at h
        · rename_i hq; subst hq; injection h with h; subst h; exact neI hx hy hn k
        · cases h
      · injection h with h; subst h; exact eqS hx hy hn k
      · injection h with h; subst h; exact neS hx hy hn k
      · cases h
    · cases h
  · cases h
theorem pl_ok {fs : List (Nat × List Nat)} {os : List Nat} (hf : AllF c.P fs) (ho' : AllO c.P os) {op : Op} {hs hs' : List Nat} {a : List (OwnE × OwnE)} (h : pl fs os L env hs op = some (v, hs', a)) (ha : a.map Prod.fst = a.map Prod.snd) (hn : Nat.blt d c.n = true) (k : J c ops rest ((d, v) :: env) L D) : J c ops (⟨some d, op, t, p, af, none⟩ :: rest) env L D := by
 unfold pl at h
 split at h
 · split at h
   · split at h
     · rename_i b o hx
       split at h
       · rename_i q hq
         split at h
         · rename_i v' hv
           cases hO : ho os _ with
           | false => rw [hO] at h; cases h
           | true =>
            rw [hO] at h
            simp only [cond_true, Option.some.injEq, Prod.mk.injEq] at h
            obtain ⟨rfl, rfl, rfl⟩ := h
            simp only [List.map_cons, List.map_nil, List.cons.injEq, and_true] at ha
            exact ldB _ hx (hq.trans (congrArg some ha)) (ho_ok ho' hO) hv hn k
         · cases h
       · cases h
     · cases h
   · cases h
 · split at h
   · rename_i v' hv
     simp only [Option.some.injEq, Prod.mk.injEq] at h
     obtain ⟨rfl, rfl, rfl⟩ := h
     exact pv_ok hf hv hn k
   · cases h
theorem gv_ok {dst : Option Tmp} {op : Op} {j : Nat} {b : Bool} (h : gval ops env j b = some true) (k : J c ops (⟨dst, op, t, p, af, none⟩ :: rest) env L D) : J c ops (⟨dst, op, t, p, af, some (j, b)⟩ :: rest) env L D := by
 unfold gval at h
 split at h
 · rename_i oj hj
   split at h
   · rename_i dj hdj
     split at h
     · rename_i b' hb
       simp only [Option.some.injEq, beq_iff_eq] at h
       subst h
       exact gY hj hdj hb k
     · cases h
     · cases h
   · cases h
 · cases h
theorem gn_ok {op : Op} {j : Nat} {b : Bool} (h : gval ops env j b = some false) (hn : Nat.blt d c.n = true) (k : J c ops rest ((d, undef) :: env) L D) : J c ops (⟨some d, op, t, p, af, some (j, b)⟩ :: rest) env L D := by
 unfold gval at h
 split at h
 · rename_i oj hj
   split at h
   · rename_i dj hdj
     split at h
     · rename_i b' hb
       simp only [Option.some.injEq] at h
       exact gN hj hdj hb h hn k
     · rename_i ts hb
       exact iJ.wantN (fun a w f st dh => by
        have := f.at_ _ _ hb
        exact ⟨by simp [Region.wanted, yielded, hj, hdj, this], f.put undef (lt_blt hn)⟩) k
     · cases h
   · cases h
 · cases h
theorem run_ok {fs : List (Nat × List Nat)} {os : List Nat} (hf : AllF c.P fs) (ho' : AllO c.P os) : ∀ (n : Nat) {hs : List Nat} {l : List Oper} {env : Env} {a : List (OwnE × OwnE)}, run c.n fs os ops L n hs l env = some (l', env', a) → a.map Prod.fst = a.map Prod.snd → J c ops l' env' L D → J c ops l env L D
 | 0, hs, l, env, a, h, ha, k => by
  simp only [run, Option.some.injEq, Prod.mk.injEq] at h
  obtain ⟨rfl, rfl, rfl⟩ := h
  exact k
 | n + 1, hs, [], env, a, h, ha, k => by simp [run] at h
 | n + 1, hs, o :: r, env, a, h, ha, k => by
  have ih : ∀ {hs : List Nat} {l : List Oper} {env : Env} {a : List (OwnE × OwnE)}, run c.n fs os ops L n hs l env = some (l', env', a) → a.map Prod.fst = a.map Prod.snd → J c ops l env L D := fun h ha => run_ok hf ho' n h ha k
  obtain ⟨dst, op, t, p, af, g⟩ := o
  cases dst with
  | none => simp [run] at h
  | some d =>
   simp only [run] at h
   cases hn : Nat.blt d c.n with
   | false => rw [hn] at h; cases h
   | true =>
    rw [hn] at h
    simp only [cond_true] at h
    split at h
    · rename_i hg
      split at h
      · rename_i v h' a1 hv
        split at h
        · rename_i r' e' b hr
          simp only [Option.some.injEq, Prod.mk.injEq] at h
          obtain ⟨rfl, rfl, rfl⟩ := h
          simp only [List.map_append] at ha
          have hl := List.append_inj ha (by simp)
          have kk := pl_ok (t := t) (p := p) (af := af) hf ho' hv hl.1 hn (ih hr hl.2)
          cases g with
          | none => exact kk
          | some g => exact gv_ok hg kk
        · cases h
      · cases h
    · rename_i hg
      have kk := ih h ha
      cases g with
      | none => cases hg
      | some g => exact gn_ok hg hn kk
    · cases h
theorem ru [ft : Ft c.P] (n : Nat) (h : run c.n ft.fs ft.os ops L n [] l env = some (l', env', [])) (k : J c ops l' env' L D) : J c ops l env L D := run_ok ft.okF ft.okO n h rfl k
theorem rl [ft : Ft c.P] (n : Nat) (hs : List Nat) {a : List (OwnE × OwnE)} (h : run c.n ft.fs ft.os ops L n hs l env = some (l', env', a)) (ha : a.map Prod.fst = a.map Prod.snd) (k : J c ops l' env' L D) : J c ops l env L D := run_ok ft.okF ft.okO n h ha k
end
end
section
def res : List Nat → Env → Option Env
 | [], _ => some []
 | i :: r, env => match lk env i with
  | some v => match res r env with
   | some e => some ((i, v) :: e)
   | none => none
  | none => none
theorem res_sub : ∀ {ss : List Nat} {env e : Env}, res ss env = some e → Sub e env
 | [], env, e, h => by
  simp only [res, Option.some.injEq] at h
  subst h
  trivial
 | i :: r, env, e, h => by
  simp only [res] at h
  split at h
  · rename_i v hv
    split at h
    · rename_i e' he
      injection h with h
      subst h
      exact ⟨hv, res_sub he⟩
    · cases h
  · cases h
section
variable {c : Cx} {ops : Array Oper} {J : Cx → Array Oper → List Oper → Env → Own → List Atom → Prop} [iJ : IsJ J] {env env0 env1 env2 : Env} {L : Own} {D : List Atom} {l rest : List Oper} {d : Nat} {t u : Bool} {a : List (OwnE × OwnE)}
include iJ
theorem ja [ft : Ft c.P] (i n : Nat) (hs ss : List Nat)
 (h : (lk env i, run c.n ft.fs ft.os ops L n hs l ((i, .bool true) :: env), run c.n ft.fs ft.os ops L n [] l ((i, .bool false) :: env)) = (some (.bool t), some (rest, (d, .bool u) :: env1, a), some (rest, (d, .bool false) :: env2, [])))
 (ha : a.map Prod.fst = a.map Prod.snd) (he : (res ss env1, res ss env2) = (some env0, some env0)) (K : J c ops rest ((d, .bool (t && u)) :: env0) L D) : J c ops l env L D := by
 simp only [Prod.mk.injEq] at h he
 exact spA h.1 (fun ht => run_ok ft.okF ft.okO n h.2.1 ha (jA K ht (res_sub he.1) SubD.refl)) (fun ht => run_ok ft.okF ft.okO n h.2.2 rfl (jA0 K ht (res_sub he.2) SubD.refl))
theorem jb [ft : Ft c.P] (i n : Nat) (hs ss : List Nat)
 (h : (lk env i, run c.n ft.fs ft.os ops L n hs l ((i, .bool false) :: env), run c.n ft.fs ft.os ops L n [] l ((i, .bool true) :: env)) = (some (.bool t), some (rest, (d, .bool u) :: env1, a), some (rest, (d, .bool true) :: env2, [])))
 (ha : a.map Prod.fst = a.map Prod.snd) (he : (res ss env1, res ss env2) = (some env0, some env0)) (K : J c ops rest ((d, .bool (t || u)) :: env0) L D) : J c ops l env L D := by
 simp only [Prod.mk.injEq] at h he
 exact spO h.1 (fun ht => run_ok ft.okF ft.okO n h.2.1 ha (jR K ht (res_sub he.1) SubD.refl)) (fun ht => run_ok ft.okF ft.okO n h.2.2 rfl (jR0 K ht (res_sub he.2) SubD.refl))
end
section
variable {c : Cx} {Q Q' : Exit → Act → World → Prop} {env env' : Env} {L : Own} {D : List Atom} {l : List Oper} {y : Code} {id : Nat} {a : List (OwnE × OwnE)}
theorem ra [ft : Ft c.P] (n : Nat) (h : run c.n ft.fs ft.os l.toArray L n [] l env = some ([], env', [])) (k : WQ c Q .normal env' L D) : WC c (.region id l.toArray false) Q env L D := rg (ru n h (nl k))
theorem rb [ft : Ft c.P] (n : Nat) (hs : List Nat) (h : run c.n ft.fs ft.os l.toArray L n hs l env = some ([], env', a)) (ha : a.map Prod.fst = a.map Prod.snd) (k : WQ c Q .normal env' L D) : WC c (.region id l.toArray false) Q env L D := rg (rl n hs h ha (nl k))
theorem sa [ft : Ft c.P] (n : Nat) (h : run c.n ft.fs ft.os l.toArray L n [] l env = some ([], env', [])) (k : WC c y Q env' L D) : WC c (.seq (.region id l.toArray false) y) Q env L D := sq (ra n h (nx k))
theorem sb [ft : Ft c.P] (n : Nat) (hs : List Nat) (h : run c.n ft.fs ft.os l.toArray L n hs l env = some ([], env', a)) (ha : a.map Prod.fst = a.map Prod.snd) (k : WC c y Q env' L D) : WC c (.seq (.region id l.toArray false) y) Q env L D := sq (rb n hs h ha (nx k))
theorem qg (h : WL (Exit.then (Code.wp c.P y Q) Q) c l.toArray l env L D) : WC c (.seq (.region id l.toArray false) y) Q env L D := sq (rg h)
end
end
section
structure FvC (P : Program) where
 f : FuncId
 us : List Value
 As : List Atom
 u : Value
 h : FnV P f us As u
 ok : FnOk P f
theorem size_at {l : List Oper} {n i d : Nat} {o : Oper} (h : ckSize l n = true) (hi : l[i]? = some o) (hd : o.dst = some d) : Nat.blt d n = true := by
 have := List.all_eq_true.1 h o (List.mem_of_getElem? hi)
 rw [hd] at this
 exact this
theorem subD_app {D1 D : List Atom} : SubD D (D1 ++ D) := fun t h => List.mem_append.2 (.inr h)
inductive KX (P : Program) where
 | ld (i : Nat)
 | st (i : Nat)
 | cv (ix : List Nat) (x : FvC P)
 | eq (u v : Value) (h : u = v)
def kx {P : Program} : List (Nat × KX P) → Nat → Option (KX P)
 | [], _ => none
 | (j, k) :: r, i => bif Nat.beq j i then some k else kx r i
structure Ef where
 j : Nat
 b : Nat
 o : Nat
 us : List Value
def lkE {α : Type _} : List (Nat × α) → Nat → Option α
 | [], _ => none
 | (j, k) :: r, i => bif Nat.beq j i then some k else lkE r i
def apE (L : Own) (e : Ef) : Own := match L[e.j]? with
 | some q => L.set e.j (bl e.b q.ty (spl q.cs e.o e.us))
 | none => L
def Lx (efs : List (Nat × Ef)) (L : Own) (h : List Nat) : Own := h.foldl (fun L i => match lkE efs i with
 | some e => apE L e
 | none => L) L
theorem Lx_snoc {efs : List (Nat × Ef)} {L : Own} {h : List Nat} {i : Nat} {e : Ef} (he : lkE efs i = some e) : Lx efs L (h ++ [i]) = apE (Lx efs L h) e := by
 simp only [Lx, List.foldl_append, List.foldl_cons, List.foldl_nil, he]
def ovr {β : Type} : List Value → List Value → (List Value → Option β) → Option β
 | cs, [], k => k cs
 | [], _ :: _, _ => none
 | _ :: cs, u :: us, k => ovr cs us fun r => k (u :: r)
def spK {β : Type} : List Value → Nat → List Value → (List Value → Option β) → Option β
 | cs, 0, us, k => ovr cs us k
 | [], _ + 1, _, _ => none
 | c :: cs, n + 1, us, k => spK cs n us fun r => k (c :: r)
def seK {β : Type} : Own → Nat → (OwnE → (OwnE → Option β) → Option β) → (Own → Option β) → Option β
 | [], _, _, _ => none
 | q :: L, 0, g, k => g q fun q' => k (q' :: L)
 | q :: L, n + 1, g, k => seK L n g fun r => k (q :: r)
def tkK {β : Type} : List Value → Nat → (List Value → Option β) → Option β
 | _, 0, k => k []
 | [], _ + 1, _ => none
 | c :: cs, n + 1, k => tkK cs n fun r => k (c :: r)
def vlX {P : Program} (fs : List (Nat × List Nat)) (rs : List (Nat × Nat)) (k : Option (KX P)) (E : Env) (L : Own) (op : Op) : Option Value := match k with
 | some (.cv _ x) => some x.u
 | some (.eq _ v _) => some v
 | some (.ld j) => match op with
  | .load T x => match ev E x with
   | some (.pointer (some ⟨_, a, none⟩)) => match L[j]? with
    | some q => match ro rs T with
     | some n => tkK (q.cs.drop a) n fun us => some (.agg us.toArray)
     | none => q.cs[a]?
    | none => none
   | _ => none
  | _ => none
 | _ => pv fs E op
def runX {P : Program} (fs : List (Nat × List Nat)) (os : List Nat) (rs : List (Nat × Nat)) (ks : List (Nat × KX P)) (ops : Array Oper) : List Oper → Nat → Own → List (Nat × Value) → List (Nat × Ef) → Env → Option (List (Nat × Value) × List (Nat × Ef) × Own × Env)
 | [], _, L, vs, efs, E => some (vs, efs, L, E)
 | o :: r, i, L, vs, efs, E => match (match o.guard with
  | none => some true
  | some (j, b) => gval ops E j b) with
  | some false => match o.dst with
   | some d => runX fs os rs ks ops r (i + 1) L ((i, undef) :: vs) efs ((d, undef) :: E)
   | none => none
  | none => none
  | some true => match kx ks i with
  | some (.st j) => match o.op with
   | .store _ x y => match ev E x with
    | some (.pointer (some ⟨b, a, none⟩)) => match ev E y with
     | some (.agg us) => seK L j (fun q k => spK q.cs a us.toList fun cs => k (bl b q.ty cs)) fun L' => runX fs os rs ks ops r (i + 1) L' vs (efs ++ [(i, ⟨j, b, a, us.toList⟩)]) E
     | some u => seK L j (fun q k => spK q.cs a [u] fun cs => k (bl b q.ty cs)) fun L' => runX fs os rs ks ops r (i + 1) L' vs (efs ++ [(i, ⟨j, b, a, [u]⟩)]) E
     | none => none
    | _ => none
   | _ => none
  | k => match o.dst with
   | none => none
   | some d => match vlX fs rs k E L o.op with
    | some u => runX fs os rs ks ops r (i + 1) L ((i, u) :: vs) efs ((d, u) :: E)
    | none => none
def isDs (l : List Oper) (d : Nat) : Bool := l.any fun o => match o.dst with
 | some e => Nat.beq e d
 | none => false
def drE (l : List Oper) : Env → Env
 | [] => []
 | (d, v) :: r => bif isDs l d then drE l r else (d, v) :: drE l r
def drK {β : Type} (l : List Oper) : Env → (Env → Option β) → Option β
 | [], k => k []
 | (d, v) :: r, k => bif isDs l d then drK l r k else drK l r fun e => k ((d, v) :: e)
inductive Tg where
 | v (l : List Value)
 | o (q : OwnE)
 | a (l : List (Option Atom))
def depX (l : List Oper) (i : Nat) : List Nat := match l[i]? with
 | some o => (o.after.toList.filter fun e => Region.binds .any e && ((match e.ground with
  | .data => true
  | .guard => true
  | _ => false) || (match o.guard with
  | some (j, _) => Nat.beq j e.on
  | none => false)) && (dstOf l e.on).isSome).map (·.on)
 | none => []
def hsX (l : List Oper) (effs : List Nat) : Nat → List (List Nat) → List (List Nat)
 | 0, _ => []
 | n + 1, lv => lv ++ hsX l effs n (lv.flatMap fun h => (effs.filter fun i => !h.contains i && effs.all fun x => !edge l x i || h.contains x).map fun i => h ++ [i])
@[reducible] def xH (l : List Oper) (L : Own) (vs : List (Nat × Value)) (efs : List (Nat × Ef)) : RH :=
 ⟨depX l, fun _ _ => True, fun _ _ => [], lkE vs, fun h _ => Lx efs L h, efs.map (·.1), hsX l (efs.map (·.1)) (efs.length + 1) [[]]⟩
def mapO {α : Type} {β : Type 1} (f : α → Option (List β)) : List α → Option (List β)
 | [] => some []
 | x :: r => match f x with
  | some a => match mapO f r with
   | some b => some (a ++ b)
   | none => none
  | none => none
def ldX (os : List Nat) (rs : List (Nat × Nat)) (T b a j : Nat) (u : Value) (L : Own) : Option (List (Tg × Tg)) := match L[j]? with
 | some q => match ro rs T with
  | some n => bif Nat.beq ((q.cs.drop a).take n).length n then some [(.o q, .o (bl b q.ty q.cs)), (.v [u], .v [.agg ((q.cs.drop a).take n).toArray])] else none
  | none => bif ho os T then (match q.cs[a]? with
   | some v => some [(.o q, .o (bl b q.ty q.cs)), (.v [u], .v [v])]
   | none => none) else none
 | none => none
def stX (os : List Nat) (rs : List (Nat × Nat)) (T b a : Nat) (u : Value) (e : Ef) (L : Own) : Option (List (Tg × Tg)) := match L[e.j]? with
 | some q => match u with
  | .agg us => match ro rs T with
   | some n => bif Nat.beq us.toList.length n && us.toList.all (·.oneCell') && Nat.ble (a + us.toList.length) q.cs.length then some [(.o q, .o (bl b q.ty q.cs)), (.v (.pointer (some ⟨b, a, none⟩) :: us.toList), .v (.pointer (some ⟨e.b, e.o, none⟩) :: e.us))] else none
   | none => none
  | u => bif ho os T && u.oneCell' && Nat.blt a q.cs.length then some [(.o q, .o (bl b q.ty q.cs)), (.v [.pointer (some ⟨b, a, none⟩), u], .v (.pointer (some ⟨e.b, e.o, none⟩) :: e.us))] else none
 | none => none
def rdX {P : Program} (fs : List (Nat × List Nat)) (os : List Nat) (rs : List (Nat × Nat)) (env : Env) (Ls : List Own) (D : List Atom) (k : Option (KX P)) (u : Value) (op : Op) : Option (List (Tg × Tg)) := match k with
 | some (.cv ix x) => match op with
  | .call ⟨.value (.func f), xs, _⟩ => match evs env xs.toList with
   | some us => bif Nat.beq f x.f then some [(.v (u :: us), .v (x.u :: x.us)), (.a (x.As.map some), .a (ix.map fun i => D[i]?))] else none
   | none => none
  | _ => none
 | some (.ld j) => match op with
  | .load T x => match ev env x with
   | some (.pointer (some ⟨b, a, none⟩)) => mapO (ldX os rs T b a j u) Ls
   | _ => none
  | _ => none
 | some (.st _) => none
 | some (.eq v w _) => match pv fs env op with
  | some v' => some [(.v [u, v'], .v [w, v])]
  | none => none
 | none => match pv fs env op with
  | some v => some [(.v [u], .v [v])]
  | none => none
def opX0 {P : Program} (fs : List (Nat × List Nat)) (os : List Nat) (rs : List (Nat × Nat)) (env : Env) (Ls : List Own) (D : List Atom) (k : Option (KX P)) (ef : Option Ef) (val : Option Value) : Oper → Option (List (Tg × Tg))
 | ⟨some _, op, _, _, _, none⟩ => match ef with
  | some _ => none
  | none => match val with
   | some u => rdX fs os rs env Ls D k u op
   | none => none
 | ⟨none, .store T x y, _, _, _, none⟩ => match ef with
  | some e => match ev env x with
   | some (.pointer (some ⟨b, a, none⟩)) => match ev env y with
    | some u => mapO (stX os rs T b a u e) Ls
    | none => none
   | _ => none
  | none => none
 | _ => none
def opX {P : Program} (fs : List (Nat × List Nat)) (os : List Nat) (rs : List (Nat × Nat)) (ops : Array Oper) (env : Env) (Ls : List Own) (D : List Atom) (k : Option (KX P)) (ef : Option Ef) (val : Option Value) (o : Oper) : Option (List (Tg × Tg)) := match (match o.guard with
 | none => some true
 | some (j, b) => gval ops env j b) with
 | some true => opX0 fs os rs env Ls D k ef val ⟨o.dst, o.op, o.type, o.pos, o.after, none⟩
 | some false => match o.dst with
  | some _ => match ef with
   | some _ => none
   | none => match val with
    | some u => some [(.v [u], .v [undef])]
    | none => none
  | none => none
 | none => none
def obX {P : Program} (fs : List (Nat × List Nat)) (os : List Nat) (rs : List (Nat × Nat)) (ks : List (Nat × KX P)) (env : Env) (D : List Atom) (l : List Oper) (s : RH) (efs : List (Nat × Ef)) : List Oper → Nat → Option (List (Tg × Tg))
 | [], _ => some []
 | o :: r, i => match opX fs os rs l.toArray (envOf l (VV s.vals fun _ => undef) (depX l i) ++ env) ((phH l s i).map fun h => s.L h []) D (kx ks i) (lkE efs i) (s.vals i) o with
  | some a => match obX fs os rs ks env D l s efs r (i + 1) with
   | some b => some (a ++ b)
   | none => none
  | none => none
def allX (l : List Oper) (vs : List (Nat × Value)) : Bool := (List.range l.length).all fun i => !(dstOf l i).isSome || (lkE vs i).isSome
def envX (l : List Oper) (vs : List (Nat × Value)) : List Nat → Env
 | [] => []
 | i :: r => match dstOf l i with
  | some d => match lkE vs i with
   | some u => (d, u) :: envX l vs r
   | none => envX l vs r
  | none => envX l vs r
def okX (l : List Oper) (env : Env) (s : RH) (n : Nat) : Bool := ckDst l env && ckBack l && ckSize l n && ckH l s
theorem eqs {α : Type 1} {A : List (α × α)} (h : A.map Prod.fst = A.map Prod.snd) : ∀ p ∈ A, p.1 = p.2 := fun p hp => List.map_inj_left.1 h p hp
theorem mapO_at {α : Type} {β : Type 1} {f : α → Option (List β)} : ∀ {l : List α} {A : List β}, mapO f l = some A → ∀ x ∈ l, ∃ B, f x = some B ∧ ∀ p ∈ B, p ∈ A
 | y :: r, A, h, x, hx => by
  simp only [mapO] at h
  split at h
  · rename_i a ha
    split at h
    · rename_i b hb
      injection h with h
      subst h
      rcases List.mem_cons.1 hx with rfl | hx
      · exact ⟨a, ha, fun p hp => List.mem_append.2 (.inl hp)⟩
      · obtain ⟨B, h1, h2⟩ := mapO_at hb x hx
        exact ⟨B, h1, fun p hp => List.mem_append.2 (.inr (h2 p hp))⟩
    · cases h
  · cases h
theorem lkE_mem {α : Type _} {i : Nat} : ∀ {l : List (Nat × α)}, (l.map (·.1)).contains i = (lkE l i).isSome
 | [] => rfl
 | (j, a) :: r => by
  have ih := lkE_mem (i := i) (l := r)
  simp only [lkE, List.map_cons, List.contains_cons]
  by_cases h : j = i
  · subst h; simp
  · have h1 : Nat.beq j i = false := Bool.not_eq_true _ ▸ fun e => h (Nat.eq_of_beq_eq_true e)
    have h2 : (i == j) = false := by simpa using Ne.symm h
    rw [h1, h2, ih]; rfl
section
variable {c : Cx} {l : List Oper} {env : Env} {L : Own} {D : List Atom} {vs : List (Nat × Value)} {efs : List (Nat × Ef)} {ks : List (Nat × KX c.P)}
theorem ats_nil {V : Nat → Value} : ∀ {is : List Nat}, atsOf (xH l L vs efs).rs V is = []
 | [] => rfl
 | _ :: r => ats_nil (is := r)
theorem envX_eq (ha : allX l vs = true) (V : Nat → Value) (is : List Nat) : envOf l (VV (lkE vs) V) is = envOf l (VV (lkE vs) fun _ => undef) is := envOf_congr fun k _ hk => by
 have hkl : k < l.length := by
  rcases Nat.lt_or_ge k l.length with h | h
  · exact h
  · simp [dstOf, List.getElem?_eq_none h] at hk
 have := List.all_eq_true.1 ha k (List.mem_range.2 hkl)
 rw [hk] at this
 obtain ⟨v, hv⟩ := Option.isSome_iff_exists.1 (by simpa using this)
 simp [VV, hv]
theorem rdX_ok [ft : Ft c.P] {Q : Exit → Act → World → Prop} {ops : Array Oper} {rest : List Oper} {E : Env} {Ls : List Own} {D' : List Atom} {k : Option (KX c.P)} {u : Value} {op : Op} {d : Nat} {t : TypeId} {p : String} {af : Array Edge} {A : List (Tg × Tg)} (hn : Nat.blt d c.n = true) (h : rdX ft.fs ft.os ft.rs E Ls D k u op = some A) (he : ∀ p ∈ A, p.1 = p.2) (hL : L ∈ Ls) (hD : SubD D D')
 (hend : WL Q c ops rest ((d, u) :: E) L D') : WL Q c ops (⟨some d, op, t, p, af, none⟩ :: rest) E L D' := by
 unfold rdX at h
 split at h
 · rename_i ix x
   split at h
   · rename_i f xs ats
     split at h
     · rename_i us hus
       cases hf : Nat.beq f x.f with
       | false => rw [hf] at h; cases h
       | true =>
        rw [hf] at h
        simp only [cond_true, Option.some.injEq] at h
        subst h
        have e1 := he _ (List.mem_cons_self ..)
        have e2 := he _ (List.mem_cons_of_mem _ (List.mem_cons_self ..))
        simp only [Tg.v.injEq, List.cons.injEq, Tg.a.injEq] at e1 e2
        obtain ⟨rfl, rfl⟩ := e1
        have hf := Nat.eq_of_beq_eq_true hf
        subst hf
        have := cfv (Q := Q) (ops := ops) (rest := rest) (d := d) (t := t) (p := p) (af := af) (env := E) (L := L) (D := D') (ats := ats) (xs := xs.toList) x.h x.ok hus (fun a ha => by
         have h1 : some a ∈ x.As.map some := List.mem_map.2 ⟨a, ha, rfl⟩
         rw [e2] at h1
         obtain ⟨q, _, hq⟩ := List.mem_map.1 h1
         exact hD _ (List.mem_of_getElem? hq)) hn hend
        simpa using this
     · cases h
   · cases h
 · rename_i j
   split at h
   · rename_i T x
     split at h
     · rename_i b a hx
       obtain ⟨B, hB, hBA⟩ := mapO_at h _ hL
       unfold ldX at hB
       split at hB
       · rename_i q hq
         split at hB
         · rename_i n hr
           cases hnn : Nat.beq ((q.cs.drop a).take n).length n with
           | false => rw [hnn] at hB; cases hB
           | true =>
            rw [hnn] at hB
            simp only [cond_true, Option.some.injEq] at hB
            subst hB
            have e1 := he _ (hBA _ (List.mem_cons_self ..))
            have e2 := he _ (hBA _ (List.mem_cons_of_mem _ (List.mem_cons_self ..)))
            simp only [Tg.v.injEq, List.cons.injEq, Tg.o.injEq, and_true] at e1 e2
            subst e2
            have hnn := Nat.eq_of_beq_eq_true hnn
            exact ldM j ((q.cs.drop a).take n) hx (hq.trans (congrArg some e1)) (by rw [hnn]; exact ro_ok ft.okR hr) (by rw [hnn]) hn hend
         · cases hO : ho ft.os T with
           | false => rw [hO] at hB; cases hB
           | true =>
            rw [hO] at hB
            simp only [cond_true] at hB
            split at hB
            · rename_i v hv
              injection hB with hB
              subst hB
              have e1 := he _ (hBA _ (List.mem_cons_self ..))
              have e2 := he _ (hBA _ (List.mem_cons_of_mem _ (List.mem_cons_self ..)))
              simp only [Tg.v.injEq, List.cons.injEq, Tg.o.injEq, and_true] at e1 e2
              subst e2
              exact ldB j hx (hq.trans (congrArg some e1)) (ho_ok ft.okO hO) hv hn hend
            · cases hB
       · cases hB
     · cases h
   · cases h
 · cases h
 · rename_i v w hvw
   split at h
   · rename_i v' hv
     injection h with h
     subst h
     have e1 := he _ (List.mem_cons_self ..)
     simp only [Tg.v.injEq, List.cons.injEq, and_true] at e1
     obtain ⟨rfl, rfl⟩ := e1
     subst hvw
     exact pv_ok ft.okF hv hn hend
   · cases h
 · split at h
   · rename_i v hv
     injection h with h
     subst h
     have e1 := he _ (List.mem_cons_self ..)
     simp only [Tg.v.injEq, List.cons.injEq, and_true] at e1
     subst e1
     exact pv_ok ft.okF hv hn hend
   · cases h
theorem opX0_ok [ft : Ft c.P] {i : Nat} {o : Oper} (hg : o.guard = none) {A : List (Tg × Tg)} (hd0 : dstOf l i = o.dst) (hn0 : ∀ d, o.dst = some d → Nat.blt d c.n = true) (he : ∀ p ∈ A, p.1 = p.2)
 (h : opX0 ft.fs ft.os ft.rs (envOf l (VV (lkE vs) fun _ => undef) (depX l i) ++ env) ((phH l (xH l L vs efs) i).map fun h => (xH l L vs efs).L h []) D (kx ks i) (lkE efs i) (lkE vs i) o = some A) (De : List Atom) (ws : List Value) :
 ∀ h ∈ phH l (xH l L vs efs) i, WL (opPostH c l (xH l L vs efs) (D ++ De) i h ws) c l.toArray [o] (envOf l (VV (lkE vs) fun _ => undef) (depX l i) ++ env) (Lx efs L h) (D ++ De) := by
 generalize hE : envOf l (VV (lkE vs) fun _ => undef) (depX l i) ++ env = E at h ⊢
 intro hh hm
 have hLm : Lx efs L hh ∈ (phH l (xH l L vs efs) i).map fun h => (xH l L vs efs).L h [] := List.mem_map.2 ⟨hh, hm, rfl⟩
 have hcon : (xH l L vs efs).effs.contains i = (lkE efs i).isSome := lkE_mem
 obtain ⟨dst, op, t, p, af, g⟩ := o
 simp only at hd0 hn0
 unfold opX0 at h
 split at h
 · rename_i d op' t' p' af' e0
   simp only [Oper.mk.injEq] at e0
   obtain ⟨rfl, rfl, rfl, rfl, rfl, rfl⟩ := e0
   have hn := hn0 _ rfl
   split at h
   · cases h
   · rename_i hef
     split at h
     · rename_i u hu
       have hend : WL (opPostH c l (xH l L vs efs) (D ++ De) i hh ws) c l.toArray [] ((d, u) :: E) (Lx efs L hh) (D ++ De) := nl (odH (d := d) (u := u) hd0 (by simp [lk]) (by
        unfold nextH
        rw [hcon, hef]; rfl) (by show (match lkE vs i with | some v => u = v | none => True); rw [hu]) SubD.nil SubD.refl)
       exact rdX_ok hn h he hLm (fun a ha => List.mem_append.2 (.inl ha)) hend
     · cases h
 · rename_i T x y t' p' af' e0
   simp only [Oper.mk.injEq] at e0
   obtain ⟨rfl, rfl, rfl, rfl, rfl, rfl⟩ := e0
   split at h
   · rename_i e hef
     split at h
     · rename_i b a hx
       split at h
       · rename_i u hy
         obtain ⟨B, hB, hBA⟩ := mapO_at h _ hLm
         unfold stX at hB
         split at hB
         · rename_i q hq
           have hend : ∀ {cs : List Value}, apE (Lx efs L hh) e = (Lx efs L hh).set e.j (bl b q.ty cs) → WL (opPostH c l (xH l L vs efs) (D ++ De) i hh ws) c l.toArray [] E ((Lx efs L hh).set e.j (bl b q.ty cs)) (D ++ De) := fun hcs => nl (od0H hd0 (by
            unfold nextH
            rw [hcon, hef]
            simp only [Option.isSome_some, if_true]
            exact hcs.symm.trans (Lx_snoc hef).symm) SubD.refl)
           have hap : apE (Lx efs L hh) e = (Lx efs L hh).set e.j (bl e.b q.ty (spl q.cs e.o e.us)) := by
            unfold apE
            simp only [show (Lx efs L hh)[e.j]? = some q from hq]
           split at hB
           · rename_i us
             split at hB
             · rename_i n hr
               cases hg : (Nat.beq us.toList.length n && us.toList.all (·.oneCell') && Nat.ble (a + us.toList.length) q.cs.length) with
               | false => rw [hg] at hB; cases hB
               | true =>
                rw [hg] at hB
                simp only [cond_true, Option.some.injEq] at hB
                subst hB
                have e1 := he _ (hBA _ (List.mem_cons_self ..))
                have e2 := he _ (hBA _ (List.mem_cons_of_mem _ (List.mem_cons_self ..)))
                simp only [Tg.v.injEq, List.cons.injEq, Tg.o.injEq, Value.pointer.injEq, Option.some.injEq, Addr.mk.injEq, and_true] at e1 e2
                obtain ⟨⟨eb, eo⟩, eu⟩ := e2
                simp only [Bool.and_eq_true] at hg
                obtain ⟨⟨g1, g2⟩, g3⟩ := hg
                have g1 := Nat.eq_of_beq_eq_true g1
                have g3 := Nat.le_of_ble_eq_true g3
                rw [← eb, ← eo, ← eu] at hap
                exact stM e.j hx (us := us.toList) (by simpa using hy) (hq.trans (congrArg some e1)) (by rw [g1]; exact ro_ok ft.okR hr) g2 g3 (hend hap)
             · cases hB
           · cases hg : (ho ft.os T && u.oneCell' && Nat.blt a q.cs.length) with
             | false => rw [hg] at hB; cases hB
             | true =>
              rw [hg] at hB
              simp only [cond_true, Option.some.injEq] at hB
              subst hB
              have e1 := he _ (hBA _ (List.mem_cons_self ..))
              have e2 := he _ (hBA _ (List.mem_cons_of_mem _ (List.mem_cons_self ..)))
              simp only [Tg.v.injEq, List.cons.injEq, Tg.o.injEq, Value.pointer.injEq, Option.some.injEq, Addr.mk.injEq, and_true] at e1 e2
              obtain ⟨⟨eb, eo⟩, eu⟩ := e2
              simp only [Bool.and_eq_true] at hg
              obtain ⟨⟨g1, g2⟩, g3⟩ := hg
              rw [← eb, ← eo, ← eu] at hap
              exact stB e.j hx hy (hq.trans (congrArg some e1)) (ho_ok ft.okO g1) g2 (lt_blt g3) (hend hap)
         · cases hB
       · cases h
     · cases h
   · cases h
 · cases h
theorem opX_ok [ft : Ft c.P] {i : Nat} {o : Oper} {A : List (Tg × Tg)} (h0 : l[i]? = some o) (hsz : ckSize l c.n = true) (he : ∀ p ∈ A, p.1 = p.2)
 (h : opX ft.fs ft.os ft.rs l.toArray (envOf l (VV (lkE vs) fun _ => undef) (depX l i) ++ env) ((phH l (xH l L vs efs) i).map fun h => (xH l L vs efs).L h []) D (kx ks i) (lkE efs i) (lkE vs i) o = some A) (De : List Atom) (ws : List Value) :
 ∀ h ∈ phH l (xH l L vs efs) i, WL (opPostH c l (xH l L vs efs) (D ++ De) i h ws) c l.toArray [o] (envOf l (VV (lkE vs) fun _ => undef) (depX l i) ++ env) (Lx efs L h) (D ++ De) := by
 obtain ⟨dst, op, t, p, af, g⟩ := o
 have hd0 : dstOf l i = dst := by simp [dstOf, h0]
 have hn0 : ∀ d, dst = some d → Nat.blt d c.n = true := fun d e => size_at hsz h0 e
 unfold opX at h
 simp only at h
 split at h
 · rename_i hg
   intro hh hm
   have k := opX0_ok (o := ⟨dst, op, t, p, af, none⟩) rfl hd0 hn0 he h De ws hh hm
   cases g with
   | none => exact k
   | some g => exact gv_ok hg k
 · rename_i hg
   split at h
   · rename_i d
     split at h
     · cases h
     · rename_i hef
       split at h
       · rename_i u hu
         injection h with h
         subst h
         have e1 := he _ (List.mem_cons_self ..)
         simp only [Tg.v.injEq, List.cons.injEq, and_true] at e1
         subst e1
         intro hh hm
         have hcon : (xH l L vs efs).effs.contains i = (lkE efs i).isSome := lkE_mem
         cases g with
         | none => cases hg
         | some g =>
          refine gn_ok hg (hn0 _ rfl) (nl (odH (d := d) (u := undef) hd0 (by simp [lk]) (by
           unfold nextH
           rw [hcon, hef]; rfl) (by show (match lkE vs i with | some v => undef = v | none => True); rw [hu]) SubD.nil SubD.refl))
       · cases h
   · cases h
 · cases h
theorem obX_ok [ft : Ft c.P] (hsz : ckSize l c.n = true) (hal : allX l vs = true) : ∀ {r : List Oper} {i : Nat} {A : List (Tg × Tg)}, (∀ k, r[k]? = l[i + k]?) → obX ft.fs ft.os ft.rs ks env D l (xH l L vs efs) efs r i = some A → (∀ p ∈ A, p.1 = p.2) → OblH c l (xH l L vs efs) env D r i
 | [], _, _, _, _, _ => trivial
 | o :: r, i, A, hr, h, he => by
  have hr' : ∀ k, r[k]? = l[i + 1 + k]? := fun k => by
   have := hr (k + 1)
   simp only [List.getElem?_cons_succ] at this
   rw [this]; congr 1; omega
  have h0 : l[i]? = some o := by have := hr 0; simpa using this.symm
  simp only [obX] at h
  split at h
  · rename_i a ha
    split at h
    · rename_i b hb
      injection h with h
      subst h
      refine ⟨fun V De _ => AllP.intro fun hh hm => ?_, obX_ok hsz hal hr' hb fun p hp => he p (List.mem_append.2 (.inr hp))⟩
      have := opX_ok h0 hsz (fun p hp => he p (List.mem_append.2 (.inl hp))) ha De (hh.map V) hh hm
      rw [show (xH l L vs efs).deps = depX l from rfl, show (xH l L vs efs).vals = lkE vs from rfl, envX_eq hal V, ats_nil]
      exact this
    · cases h
  · cases h
theorem ckDeps_X : ckDeps l (depX l) = true := List.all_eq_true.2 fun i hi => List.all_eq_true.2 fun k hk => by
 unfold depX at hk
 split at hk
 · rename_i o ho
   obtain ⟨e, he, rfl⟩ := List.mem_map.1 hk
   obtain ⟨h1, h2⟩ := List.mem_filter.1 he
   simp only [Bool.and_eq_true] at h2
   simp only [Bool.and_eq_true]
   exact ⟨(edge_mem ho).2 ⟨e, Array.mem_toList_iff.1 h1, h2.1.1, rfl⟩, h2.2⟩
 · cases hk
theorem envX_at {i : Nat} {v : Value} : ∀ {is : List Nat}, lk (envX l vs is) i = some v → ∃ k ∈ is, dstOf l k = some i ∧ lkE vs k = some v
 | [], h => by cases h
 | k :: r, h => by
  have ih : lk (envX l vs r) i = some v → ∃ k' ∈ k :: r, dstOf l k' = some i ∧ lkE vs k' = some v := fun h => by
   obtain ⟨k', h0, h1⟩ := envX_at h
   exact ⟨k', List.mem_cons_of_mem _ h0, h1⟩
  simp only [envX] at h
  split at h
  · rename_i d hd
    split at h
    · rename_i u hu
      simp only [lk] at h
      by_cases hdi : d = i
      · subst hdi
        simp at h
        subst h
        exact ⟨k, by simp, hd, hu⟩
      · have : (d == i) = false := by simpa using hdi
        rw [this] at h
        exact ih h
    · exact ih h
  · exact ih h
theorem lk_envOf_uni {V : Nat → Value} {k d : Nat} (hd : dstOf l k = some d) (hu : ∀ k', dstOf l k' = some d → k' = k) : ∀ {is : List Nat}, k ∈ is → lk (envOf l V is) d = some (V k)
 | k' :: r, h => by
  simp only [envOf]
  by_cases hk : k' = k
  · subst hk
    rw [hd]
    simp [lk]
  · have ih := lk_envOf_uni (V := V) hd hu (is := r) ((List.mem_cons.1 h).resolve_left (Ne.symm hk))
    split
    · rename_i d' hd'
      have hne : d' ≠ d := fun e => hk (hu k' (e ▸ hd'))
      have : (d' == d) = false := by simpa using hne
      simp only [lk, this, cond_false]
      exact ih
    · exact ih
theorem lk_app {A B : Env} {i : Nat} {v : Value} (h : lk A i = some v) : lk (A ++ B) i = some v := by
 induction A with
 | nil => cases h
 | cons p r ih =>
  obtain ⟨j, u⟩ := p
  simp only [List.cons_append, lk] at h ⊢
  by_cases hj : j = i
  · subst hj; simpa using h
  · have hj' : (j == i) = false := by simpa using hj
    rw [hj'] at h ⊢
    exact ih h
theorem lk_app' {A B : Env} {i : Nat} (h : lk A i = none) : lk (A ++ B) i = lk B i := by
 induction A with
 | nil => rfl
 | cons p r ih =>
  obtain ⟨j, u⟩ := p
  simp only [List.cons_append, lk] at h ⊢
  by_cases hj : j = i
  · subst hj; simp at h
  · have hj' : (j == i) = false := by simpa using hj
    rw [hj'] at h ⊢
    exact ih h
theorem drE_sub {i : Nat} {v : Value} : ∀ {env : Env}, lk (drE l env) i = some v → lk env i = some v
 | [], h => by cases h
 | (d, u) :: r, h => by
  simp only [drE] at h
  by_cases hd : d = i
  · subst hd
    cases hD : isDs l d with
    | false => rw [hD] at h; simpa [lk] using h
    | true =>
     rw [hD] at h
     simp only [cond_true] at h
     exfalso
     have no : ∀ {r : Env} {v : Value}, lk (drE l r) d = some v → False := by
      intro r
      induction r with
      | nil => intro v h; cases h
      | cons p r ih =>
       intro v h
       obtain ⟨e, u⟩ := p
       simp only [drE] at h
       cases hE : isDs l e with
       | true => rw [hE] at h; exact ih h
       | false =>
        rw [hE] at h
        simp only [cond_false, lk] at h
        have hne : e ≠ d := fun e' => by rw [e', hD] at hE; cases hE
        rw [show (e == d) = false by simpa using hne] at h
        exact ih h
     exact no h
  · have hd' : (d == i) = false := by simpa using hd
    simp only [lk, hd', cond_false]
    cases hD : isDs l d with
    | true => rw [hD] at h; exact drE_sub h
    | false =>
     rw [hD] at h
     simp only [cond_false, lk, hd'] at h
     exact drE_sub h
theorem envX_sub {V : Nat → Value} {i : Nat} {v : Value} (h2 : ckDst l env = true) (hi : lk (envX l vs (List.range l.length).reverse ++ env) i = some v) : lk (envOf l (VV (lkE vs) V) (List.range l.length) ++ env) i = some v := by
 have hdst : ∀ {k d : Nat}, dstOf l k = some d → k < l.length ∧ keyIn env d = false ∧ ∀ k', dstOf l k' = some d → k' = k := by
  intro k d hd
  have hkl : ∀ {k d : Nat}, dstOf l k = some d → k < l.length := fun {k d} hd => by
   rcases Nat.lt_or_ge k l.length with h | h
   · exact h
   · simp [dstOf, List.getElem?_eq_none h] at hd
  have := List.all_eq_true.1 h2 k (List.mem_range.2 (hkl hd))
  rw [hd] at this
  simp only [Bool.and_eq_true, Bool.not_eq_true'] at this
  refine ⟨hkl hd, this.1, fun k' hk' => ?_⟩
  have h3 := List.all_eq_true.1 this.2 k' (List.mem_range.2 (hkl hk'))
  rw [hk'] at h3
  simpa using Eq.symm (by simpa using h3)
 rcases lk_append hi with h | ⟨hn, h⟩
 · obtain ⟨k, hk, hd, hv⟩ := envX_at h
   obtain ⟨h6, _, h7⟩ := hdst hd
   have := lk_app (B := env) (lk_envOf_uni (V := VV (lkE vs) V) hd h7 (List.mem_range.2 h6))
   rw [show VV (lkE vs) V k = v by simp [VV, hv]] at this
   exact this
 · rw [lk_app', h]
   cases hx : lk (envOf l (VV (lkE vs) V) (List.range l.length)) i with
   | none => rfl
   | some u =>
    obtain ⟨k, _, hd, _⟩ := lk_envOf hx
    have := (hdst hd).2.1
    rw [keyIn_of_lk h] at this
    cases this
theorem rgX [ft : Ft c.P] {Q : Exit → Act → World → Prop} {id : Nat} (ks : List (Nat × KX c.P)) {Lf : Own} {E : Env}
 (_ : (drK l env fun e => runX ft.fs ft.os ft.rs ks l.toArray l 0 L [] [] e) = some (vs, efs, Lf, E))
 (h : (okX l (drE l env) (xH l L vs efs) c.n, allX l vs, (obX ft.fs ft.os ft.rs ks (drE l env) D l (xH l L vs efs) efs l 0).isSome, (obX ft.fs ft.os ft.rs ks (drE l env) D l (xH l L vs efs) efs l 0).map (fun A => A.map Prod.fst), (fullH (xH l L vs efs)).map (Lx efs L), envX l vs (List.range l.length).reverse ++ drE l env) = (true, true, true, (obX ft.fs ft.os ft.rs ks (drE l env) D l (xH l L vs efs) efs l 0).map (fun A => A.map Prod.snd), (fullH (xH l L vs efs)).map (fun _ => Lf), E))
 (k : WQ c Q .normal E Lf D) : WC c (.region id l.toArray true) Q env L D := by
 simp only [Prod.mk.injEq] at h
 obtain ⟨hok, hal, hob, ha, hf, rfl⟩ := h
 obtain ⟨A, hob⟩ := Option.isSome_iff_exists.1 hob
 simp only [hob, Option.map_some, Option.some.injEq] at ha
 suffices hw : WC c (.region id l.toArray true) Q (drE l env) L D from fun a w f => hw a w ⟨f.size, f.dn, fun i v hi => f.at_ i v (drE_sub hi)⟩
 generalize drE l env = env at *
 simp only [okX, Bool.and_eq_true] at hok
 obtain ⟨⟨⟨h2, h5⟩, hsz⟩, h4⟩ := hok
 refine rgH (xH l L vs efs) (fun _ => Lf) ft.okM (by
  simp only [rhOk, Bool.and_eq_true]
  exact ⟨⟨⟨⟨ckDeps_X, h2⟩, h5⟩, hsz⟩, h4⟩) rfl (AllP.intro fun hh hm _ => ?_) (obX_ok hsz hal (fun k => by simp) hob (eqs ha)) fun V _ => ?_
 · exact List.map_inj_left.1 hf hh hm
 · rw [ats_nil]
   intro a w f st dh
   refine k a w ⟨f.size, f.dn, fun i v hi => f.at_ i v ?_⟩ st dh
   exact envX_sub h2 hi
end
end
section
def vh : List Nat → List Value → Nat → Value
 | i :: h, v :: vs, k => bif Nat.beq i k then v else vh h vs k
 | _, _, _ => undef
def Lg (gs : List (Nat × (Own → (Nat → Value) → Own))) (L : Own) (h : List Nat) (vs : List Value) : Own := h.foldl (fun L i => match lkE gs i with
 | some g => g L (vh h vs)
 | none => L) L
def Lz (gs : List (Nat × (Own → (Nat → Value) → Own))) (L : Own) (V : Nat → Value) (h : List Nat) : Own := h.foldl (fun L i => match lkE gs i with
 | some g => g L V
 | none => L) L
def rpE (p : Nat) (q : OwnE) : Own → Own
 | [] => []
 | x :: r => bif Nat.beq r.length p then q :: r else x :: rpE p q r
def inE (p : Nat) (q : OwnE) : Own → Own
 | [] => [q]
 | x :: r => bif Nat.beq (r.length + 1) p then q :: x :: r else x :: inE p q r
def ceE (p b o : Nat) (u : Value) : Own → Own
 | [] => []
 | x :: r => bif Nat.beq r.length p then bl b x.ty (x.cs.set o u) :: r else x :: ceE p b o u r
structure KY where
 u : Option Value
 at_ : Value → List Atom
 e : Bool
def valY (vs : List (Nat × Value)) (hs : List (Nat × KY)) (i : Nat) : Option Value := match lkE hs i with
 | some k => k.u
 | none => lkE vs i
def atY (hs : List (Nat × KY)) (i : Nat) (u : Value) : List Atom := match lkE hs i with
 | some k => k.at_ u
 | none => []
def efY (hs : List (Nat × KY)) : List Nat := (hs.filter (·.2.e)).map (·.1)
def okY (oks : List (Nat × (Value → Prop))) (i : Nat) (u : Value) : Prop := match lkE oks i with
 | some p => p u
 | none => True
@[reducible] def yH (es : List Nat) (Hs : List (List Nat)) (oks : List (Nat × (Value → Prop))) (l : List Oper) (vs : List (Nat × Value)) (hs : List (Nat × KY)) (Lh : List Nat → List Value → Own) : RH :=
 ⟨depX l, okY oks, atY hs, valY vs hs, Lh, es, Hs⟩
def apK {β : Type 1} : List Atom → List Atom → (List Atom → Option β) → Option β
 | [], B, k => k B
 | a :: r, B, k => apK r B fun x => k (a :: x)
def lsK {β : Type 1} : Own → (Own → Option β) → Option β
 | [], k => k []
 | q :: r, k => lsK r fun x => k (q :: x)
structure Ry where
 es : List Nat
 Hs : List (List Nat)
 vs : List (Nat × Value)
 L : Own
 E : Env
 A : List Atom
def snK {β : Type 1} : List Nat → Nat → (List Nat → Option β) → Option β
 | [], i, k => k [i]
 | j :: r, i, k => snK r i fun x => k (j :: x)
def snL {β : Type 1} : List (List Nat) → List Nat → (List (List Nat) → Option β) → Option β
 | [], i, k => k [i]
 | j :: r, i, k => snL r i fun x => k (j :: x)
def stK {β : Type 1} (e : Bool) (h : List Nat) (i : Nat) (Hs : List (List Nat)) (z : List Nat → List (List Nat) → Option β) : Option β := match e with
 | true => snK h i fun h' => snL Hs h' fun Hs' => z h' Hs'
 | false => z h Hs
def runY {P : Program} (fs : List (Nat × List Nat)) (rs : List (Nat × Nat)) (ks : List (Nat × KX P)) (hs : List (Nat × KY)) (xs : List (List Nat)) (Lq : List Nat → Own) (V : Nat → Value) (ops : Array Oper) : List Oper → Nat → List Nat → List (List Nat) → List (Nat × Value) → Env → Option Ry
 | [], _, h, Hs, vs, E => lsK (Lq h) fun L => some ⟨h, match xs with
  | [] => Hs
  | _ => xs, vs, L, E, []⟩
 | o :: r, i, h, Hs, vs, E => match lkE hs i with
  | some k => stK k.e h i Hs fun h' Hs' => match o.dst with
   | some d => match k.u with
    | some u => match runY fs rs ks hs xs Lq V ops r (i + 1) h' Hs' vs ((d, u) :: E) with
     | some ⟨es', Hs', vs', L', E', A'⟩ => apK (k.at_ u) A' fun A => some ⟨es', Hs', vs', L', E', A⟩
     | none => none
    | none => match runY fs rs ks hs xs Lq V ops r (i + 1) h' Hs' vs ((d, V i) :: E) with
     | some ⟨es', Hs', vs', L', E', A'⟩ => apK (k.at_ (V i)) A' fun A => some ⟨es', Hs', vs', L', E', A⟩
     | none => none
   | none => runY fs rs ks hs xs Lq V ops r (i + 1) h' Hs' vs E
  | none => match o.dst with
   | none => none
   | some d => match (match o.guard with
    | none => some true
    | some (j, b) => gval ops E j b) with
    | some true => match vlX fs rs (kx ks i) E (Lq h) o.op with
     | some u => runY fs rs ks hs xs Lq V ops r (i + 1) h Hs ((i, u) :: vs) ((d, u) :: E)
     | none => none
    | some false => runY fs rs ks hs xs Lq V ops r (i + 1) h Hs ((i, undef) :: vs) ((d, undef) :: E)
    | none => none
def drY {β : Type 1} (l : List Oper) : Env → (Env → Option β) → Option β
 | [], k => k []
 | (d, v) :: r, k => bif isDs l d then drY l r k else drY l r fun e => k ((d, v) :: e)
def obY {P : Program} (fs : List (Nat × List Nat)) (os : List Nat) (rs : List (Nat × Nat)) (ks : List (Nat × KX P)) (hs : List (Nat × KY)) (V : Nat → Value) (env : Env) (D : List Atom) (l : List Oper) (s : RH) : List Oper → Nat → Option (List (Tg × Tg))
 | [], _ => some []
 | o :: r, i => match lkE hs i with
  | some _ => obY fs os rs ks hs V env D l s r (i + 1)
  | none => match opX fs os rs l.toArray (envOf l (VV s.vals V) (depX l i) ++ env) ((phH l s i).map fun h => s.L h (h.map V)) D (kx ks i) none (s.vals i) o with
   | some a => match obY fs os rs ks hs V env D l s r (i + 1) with
    | some b => some (a ++ b)
    | none => none
   | none => none
def OblY (c : Cx) (hs : List (Nat × KY)) (l : List Oper) (s : RH) (env : Env) (D : List Atom) : List Oper → Nat → Prop
 | [], _ => True
 | o :: r, i => match lkE hs i with
  | some _ => (∀ (V : Nat → Value) (De : List Atom), AllP (fun k => s.vals k = none → s.ok k (V k)) (s.deps i) →
   AllP (fun h => WL (opPostH c l s (D ++ De) i h (h.map V)) c l.toArray [o] (envOf l (VV s.vals V) (s.deps i) ++ env) (s.L h (h.map V)) (atsOf s.rs (VV s.vals V) (s.deps i) ++ (D ++ De))) (phH l s i)) ∧ OblY c hs l s env D r (i + 1)
  | none => OblY c hs l s env D r (i + 1)
theorem efY_mem {hs : List (Nat × KY)} {i : Nat} (h : lkE hs i = none) : (efY hs).contains i = false := by
 have h1 : (hs.map (·.1)).contains i = false := by rw [lkE_mem, h]; rfl
 rw [← Bool.not_eq_true] at h1 ⊢
 intro h2
 apply h1
 simp only [efY, List.contains_eq_mem, decide_eq_true_eq] at h2 ⊢
 obtain ⟨p, hp, rfl⟩ := List.mem_map.1 h2
 exact List.mem_map.2 ⟨p, (List.mem_filter.1 hp).1, rfl⟩
section
variable {c : Cx} {l : List Oper} {env : Env} {L : Own} {D : List Atom} {vs : List (Nat × Value)} {ks : List (Nat × KX c.P)} {hs : List (Nat × KY)} {Lh : List Nat → List Value → Own} {oks : List (Nat × (Value → Prop))} {es : List Nat} {Hs : List (List Nat)}
theorem opY_ok [ft : Ft c.P] {V : Nat → Value} {i : Nat} {o : Oper} {A : List (Tg × Tg)} (h0 : l[i]? = some o) (hsz : ckSize l c.n = true) (he : ∀ p ∈ A, p.1 = p.2) (hi : lkE hs i = none) (hes : efY hs = es)
 (h : opX ft.fs ft.os ft.rs l.toArray (envOf l (VV (valY vs hs) V) (depX l i) ++ env) ((phH l (yH es Hs oks l vs hs Lh) i).map fun h => Lh h (h.map V)) D (kx ks i) none (valY vs hs i) o = some A) (De : List Atom) :
 ∀ h ∈ phH l (yH es Hs oks l vs hs Lh) i, WL (opPostH c l (yH es Hs oks l vs hs Lh) (D ++ De) i h (h.map V)) c l.toArray [o] (envOf l (VV (valY vs hs) V) (depX l i) ++ env) (Lh h (h.map V)) (atsOf (yH es Hs oks l vs hs Lh).rs (VV (valY vs hs) V) (depX l i) ++ (D ++ De)) := by
 intro hh hm
 have hLm : Lh hh (hh.map V) ∈ (phH l (yH es Hs oks l vs hs Lh) i).map fun h => Lh h (h.map V) := List.mem_map.2 ⟨hh, hm, rfl⟩
 have hcon : (yH es Hs oks l vs hs Lh).effs.contains i = false := hes ▸ efY_mem hi
 have hD1 : SubD D (atsOf (yH es Hs oks l vs hs Lh).rs (VV (valY vs hs) V) (depX l i) ++ (D ++ De)) := fun t ht => List.mem_append.2 (.inr (List.mem_append.2 (.inl ht)))
 obtain ⟨dst, op, t, p, af, g⟩ := o
 have hd0 : dstOf l i = dst := by simp [dstOf, h0]
 have hn0 : ∀ d, dst = some d → Nat.blt d c.n = true := fun d e => size_at hsz h0 e
 have hend : ∀ {d : Nat} {u : Value}, dst = some d → valY vs hs i = some u → WL (opPostH c l (yH es Hs oks l vs hs Lh) (D ++ De) i hh (hh.map V)) c l.toArray [] ((d, u) :: (envOf l (VV (valY vs hs) V) (depX l i) ++ env)) (Lh hh (hh.map V)) (atsOf (yH es Hs oks l vs hs Lh).rs (VV (valY vs hs) V) (depX l i) ++ (D ++ De)) := fun {d u} e hu =>
  nl (odH (d := d) (u := u) (hd0.trans e) (by simp [lk]) (by
   unfold nextH
   rw [hcon]; rfl) (by show (match valY vs hs i with | some v => u = v | none => okY oks i u); rw [hu]) (by
   show SubD (atY hs i u) _
   unfold atY
   rw [hi]
   exact SubD.nil) subD_app)
 unfold opX at h
 simp only at h
 split at h
 · rename_i hg
   unfold opX0 at h
   split at h
   · rename_i d op' t' p' af' e0
     simp only [Oper.mk.injEq] at e0
     obtain ⟨rfl, rfl, rfl, rfl, rfl, _⟩ := e0
     simp only at h
     split at h
     · rename_i u hu
       have k := rdX_ok (c := c) (ops := l.toArray) (t := t) (p := p) (af := af) (hn0 _ rfl) h he hLm hD1 (hend rfl hu)
       cases g with
       | none => exact k
       | some g => exact gv_ok hg k
     · cases h
   · cases h
   · cases h
 · rename_i hg
   split at h
   · rename_i d
     split at h
     · rename_i u hu
       injection h with h
       subst h
       have e1 := he _ (List.mem_cons_self ..)
       simp only [Tg.v.injEq, List.cons.injEq, and_true] at e1
       subst e1
       cases g with
       | none => cases hg
       | some g => exact gn_ok hg (hn0 _ rfl) (hend rfl hu)
     · cases h
   · cases h
 · cases h
theorem obY_ok [ft : Ft c.P] (hsz : ckSize l c.n = true) (hes : efY hs = es) : ∀ {r : List Oper} {i : Nat} {A : (Nat → Value) → List (Tg × Tg)}, (∀ k, r[k]? = l[i + k]?) → (∀ V, obY ft.fs ft.os ft.rs ks hs V env D l (yH es Hs oks l vs hs Lh) r i = some (A V)) → (∀ V, ∀ p ∈ A V, p.1 = p.2) → OblY c hs l (yH es Hs oks l vs hs Lh) env D r i → OblH c l (yH es Hs oks l vs hs Lh) env D r i
 | [], _, _, _, _, _, _ => trivial
 | o :: r, i, A, hr, h, he, hO => by
  have hr' : ∀ k, r[k]? = l[i + 1 + k]? := fun k => by
   have := hr (k + 1)
   simp only [List.getElem?_cons_succ] at this
   rw [this]; congr 1; omega
  have h0 : l[i]? = some o := by have := hr 0; simpa using this.symm
  simp only [OblY] at hO
  simp only [obY] at h
  cases hi : lkE hs i with
  | some k =>
   rw [hi] at hO
   simp only [hi] at h
   exact ⟨hO.1, obY_ok hsz hes hr' h he hO.2⟩
  | none =>
   rw [hi] at hO
   simp only [hi] at h
   refine ⟨fun V De _ => AllP.intro fun hh hm => ?_, ?_⟩
   · have h := h V
     split at h
     · rename_i a ha
       split at h
       · rename_i b hb
         injection h with h
         exact opY_ok h0 hsz (fun p hp => he V p (h ▸ List.mem_append.2 (.inl hp))) hi hes ha De hh hm
       · cases h
     · cases h
   · refine obY_ok hsz hes hr' (A := fun V => (obY ft.fs ft.os ft.rs ks hs V env D l (yH es Hs oks l vs hs Lh) r (i + 1)).getD []) (fun V => ?_) (fun V p hp => ?_) hO
     · have h := h V
       split at h
       · split at h
         · rename_i b hb
           rw [hb]; rfl
         · cases h
       · cases h
     · have h := h V
       split at h
       · split at h
         · rename_i b hb
           rw [hb] at hp
           injection h with h
           exact he V p (h ▸ List.mem_append.2 (.inr hp))
         · cases h
       · cases h
theorem envY_sub {V : Nat → Value} {i : Nat} {v : Value} (h2 : ckDst l env = true) (hi : lk (envOf l V (List.range l.length).reverse ++ env) i = some v) : lk (envOf l V (List.range l.length) ++ env) i = some v := by
 have hdst : ∀ {k d : Nat}, dstOf l k = some d → k < l.length ∧ keyIn env d = false ∧ ∀ k', dstOf l k' = some d → k' = k := by
  intro k d hd
  have hkl : ∀ {k d : Nat}, dstOf l k = some d → k < l.length := fun {k d} hd => by
   rcases Nat.lt_or_ge k l.length with h | h
   · exact h
   · simp [dstOf, List.getElem?_eq_none h] at hd
  have := List.all_eq_true.1 h2 k (List.mem_range.2 (hkl hd))
  rw [hd] at this
  simp only [Bool.and_eq_true, Bool.not_eq_true'] at this
  refine ⟨hkl hd, this.1, fun k' hk' => ?_⟩
  have h3 := List.all_eq_true.1 this.2 k' (List.mem_range.2 (hkl hk'))
  rw [hk'] at h3
  simpa using Eq.symm (by simpa using h3)
 rcases lk_append hi with h | ⟨hn, h⟩
 · obtain ⟨k, hk, hd, rfl⟩ := lk_envOf h
   obtain ⟨h6, _, h7⟩ := hdst hd
   exact lk_app (lk_envOf_uni hd h7 (List.mem_range.2 h6))
 · rw [lk_app', h]
   cases hx : lk (envOf l V (List.range l.length)) i with
   | none => rfl
   | some u =>
    obtain ⟨k, _, hd, _⟩ := lk_envOf hx
    have := (hdst hd).2.1
    rw [keyIn_of_lk h] at this
    cases this
theorem rgY0 [ft : Ft c.P] {Q : Exit → Act → World → Prop} {id : Nat} (ks : List (Nat × KX c.P)) (hs : List (Nat × KY)) (oks : List (Nat × (Value → Prop))) (xs : List (List Nat)) (Lh : List Nat → List Value → Own) {Lf : (Nat → Value) → Own} {E : (Nat → Value) → Env} {Af : (Nat → Value) → List Atom}
 (h : ∀ V, (okX l (drE l env) (yH es Hs oks l vs hs Lh) c.n, Lh [] [], efY hs, (obY ft.fs ft.os ft.rs ks hs V (drE l env) D l (yH es Hs oks l vs hs Lh) l 0).isSome, (obY ft.fs ft.os ft.rs ks hs V (drE l env) D l (yH es Hs oks l vs hs Lh) l 0).map (fun A => A.map Prod.fst), (fullH (yH es Hs oks l vs hs Lh)).map (fun h => Lh h (h.map V)), envOf l (VV (valY vs hs) V) (List.range l.length).reverse ++ drE l env, atsOf (yH es Hs oks l vs hs Lh).rs (VV (valY vs hs) V) ((List.range l.length).filter fun i => (dstOf l i).isSome)) = (true, L, es, true, (obY ft.fs ft.os ft.rs ks hs V (drE l env) D l (yH es Hs oks l vs hs Lh) l 0).map (fun A => A.map Prod.snd), (fullH (yH es Hs oks l vs hs Lh)).map (fun _ => Lf V), E V, Af V))
 (hO : OblY c hs l (yH es Hs oks l vs hs Lh) (drE l env) D l 0) (k : ∀ V : Nat → Value, AllP (fun i => (dstOf l i).isSome = true → valY vs hs i = none → okY oks i (V i)) (List.range l.length) → WQ c Q .normal (E V) (Lf V) (Af V ++ D)) : WC c (.region id l.toArray true) Q env L D := by
 simp only [Prod.mk.injEq] at h
 suffices hw : WC c (.region id l.toArray true) Q (drE l env) L D from fun a w f => hw a w ⟨f.size, f.dn, fun i v hi => f.at_ i v (drE_sub hi)⟩
 generalize drE l env = env at *
 have hob : ∀ V, obY ft.fs ft.os ft.rs ks hs V env D l (yH es Hs oks l vs hs Lh) l 0 = some ((obY ft.fs ft.os ft.rs ks hs V env D l (yH es Hs oks l vs hs Lh) l 0).getD []) := fun V => by
  obtain ⟨A, hA⟩ := Option.isSome_iff_exists.1 (h V).2.2.2.1
  rw [hA]; rfl
 have ha : ∀ V, ((obY ft.fs ft.os ft.rs ks hs V env D l (yH es Hs oks l vs hs Lh) l 0).getD []).map Prod.fst = ((obY ft.fs ft.os ft.rs ks hs V env D l (yH es Hs oks l vs hs Lh) l 0).getD []).map Prod.snd := fun V => by
  obtain ⟨A, hA⟩ := Option.isSome_iff_exists.1 (h V).2.2.2.1
  have := (h V).2.2.2.2.1
  rw [hA] at this ⊢
  simpa using this
 have hok := (h fun _ => undef).1
 have hL0 := (h fun _ => undef).2.1
 simp only [okX, Bool.and_eq_true] at hok
 obtain ⟨⟨⟨h2, h5⟩, hsz⟩, h4⟩ := hok
 refine rgH (yH es Hs oks l vs hs Lh) Lf ft.okM (by
  simp only [rhOk, Bool.and_eq_true]
  exact ⟨⟨⟨⟨ckDeps_X, h2⟩, h5⟩, hsz⟩, h4⟩) hL0 (AllP.intro fun hh hm V => ?_) (obY_ok hsz (h fun _ => undef).2.2.1 (fun k => by simp) hob (fun V => eqs (ha V)) hO) fun V hV => ?_
 · exact List.map_inj_left.1 (h V).2.2.2.2.2.1 hh hm
 · obtain ⟨_, _, _, _, _, _, h8, h9⟩ := h V
   rw [h9]
   intro a w f st dh
   refine k V hV a w ⟨f.size, f.dn, fun i v hi => f.at_ i v ?_⟩ st dh
   rw [← h8] at hi
   exact envY_sub h2 hi
theorem rgZ [ft : Ft c.P] {Q : Exit → Act → World → Prop} {id : Nat} (ks : List (Nat × KX c.P)) (hs : List (Nat × KY)) (oks : List (Nat × (Value → Prop))) (xs : List (List Nat)) (gs : List (Nat × (Own → (Nat → Value) → Own))) {Lf : (Nat → Value) → Own} {E : (Nat → Value) → Env} {Af : (Nat → Value) → List Atom}
 (_ : ∀ V, (drY l env fun e => runY ft.fs ft.rs ks hs xs (Lz gs L V) V l.toArray l 0 [] [[]] [] e) = some ⟨es, Hs, vs, Lf V, E V, Af V⟩)
 (h : ∀ V, (okX l (drE l env) (yH es Hs oks l vs hs (Lg gs L)) c.n, efY hs, (obY ft.fs ft.os ft.rs ks hs V (drE l env) D l (yH es Hs oks l vs hs (Lg gs L)) l 0).isSome, (obY ft.fs ft.os ft.rs ks hs V (drE l env) D l (yH es Hs oks l vs hs (Lg gs L)) l 0).map (fun A => A.map Prod.fst), (fullH (yH es Hs oks l vs hs (Lg gs L))).map (fun h => Lg gs L h (h.map V)), envOf l (VV (valY vs hs) V) (List.range l.length).reverse ++ drE l env, atsOf (yH es Hs oks l vs hs (Lg gs L)).rs (VV (valY vs hs) V) ((List.range l.length).filter fun i => (dstOf l i).isSome)) = (true, es, true, (obY ft.fs ft.os ft.rs ks hs V (drE l env) D l (yH es Hs oks l vs hs (Lg gs L)) l 0).map (fun A => A.map Prod.snd), (fullH (yH es Hs oks l vs hs (Lg gs L))).map (fun _ => Lf V), E V, Af V))
 (hO : OblY c hs l (yH es Hs oks l vs hs (Lg gs L)) (drE l env) D l 0) (k : ∀ V : Nat → Value, AllP (fun i => (dstOf l i).isSome = true → valY vs hs i = none → okY oks i (V i)) (List.range l.length) → WQ c Q .normal (E V) (Lf V) (Af V ++ D)) : WC c (.region id l.toArray true) Q env L D := by
 refine rgY0 ks hs oks xs (Lg gs L) (fun V => ?_) hO k
 have h := h V
 simp only [Prod.mk.injEq] at h ⊢
 exact ⟨h.1, rfl, h.2⟩
theorem mE {l : List Nat} {a : Nat} (h : l.elem a = true) : a ∈ l := List.mem_of_elem_eq_true h
theorem aC {α : Type} {q : α → Prop} {x : α} {r : List α} (h : q x) (k : AllP q r) : AllP q (x :: r) := ⟨h, k⟩
def pkO (D : List Atom) : List Nat → Option (List Atom)
 | [] => some []
 | i :: r => match D[i]? with
  | some a => match pkO D r with
   | some B => some (a :: B)
   | none => none
  | none => none
theorem pkO_sub : ∀ {ix : List Nat} {D' : List Atom}, pkO D ix = some D' → SubD D' D
 | [], D', h => by
  simp only [pkO, Option.some.injEq] at h
  subst h
  exact SubD.nil
 | i :: r, D', h => by
  simp only [pkO] at h
  split at h
  · rename_i a ha
    split at h
    · rename_i B hB
      injection h with h
      subst h
      intro t ht
      rcases List.mem_cons.1 ht with rfl | ht
      · exact List.mem_of_getElem? ha
      · exact pkO_sub hB t ht
    · cases h
  · cases h
theorem wD {Q : Exit → Act → World → Prop} {x : Exit} {D' : List Atom} (ix : List Nat) (h : pkO D ix = some D') (k : WQ c Q x env L D') : WQ c Q x env L D := fun a w f st dh => k a w f st (dh.sub (pkO_sub h))
end
end
section
section
variable {c : Cx} {ops : Array Oper} {J : Cx → Array Oper → List Oper → Env → Own → List Atom → Prop} [iJ : IsJ J] {env env0 env1 env2 : Env} {L : Own} {D : List Atom} {l rest : List Oper} {d : Nat} {t u : Bool}
include iJ
theorem jy [ft : Ft c.P] (i n : Nat) (ss : List Nat)
 (h : (lk env i, run c.n ft.fs ft.os ops L n [] l ((i, .bool false) :: env)) = (some (.bool t), some (rest, (d, .bool false) :: env2, []))) (he : res ss env2 = some env0)
 (hw : t = true → (∀ {e : Env} {D' : List Atom}, res ss e = some env0 → SubD D D' → J c ops rest ((d, .bool u) :: e) L D') → J c ops l ((i, .bool true) :: env) L D)
 (K : J c ops rest ((d, .bool (t && u)) :: env0) L D) : J c ops l env L D := by
 simp only [Prod.mk.injEq] at h
 exact spA h.1 (fun ht => hw ht fun h1 hD => jA K ht (res_sub h1) hD) (fun ht => run_ok ft.okF ft.okO n h.2 rfl (jA0 K ht (res_sub he) SubD.refl))
theorem jz [ft : Ft c.P] (i n : Nat) (ss : List Nat)
 (h : (lk env i, run c.n ft.fs ft.os ops L n [] l ((i, .bool true) :: env)) = (some (.bool t), some (rest, (d, .bool true) :: env2, []))) (he : res ss env2 = some env0)
 (hw : t = false → (∀ {e : Env} {D' : List Atom}, res ss e = some env0 → SubD D D' → J c ops rest ((d, .bool u) :: e) L D') → J c ops l ((i, .bool false) :: env) L D)
 (K : J c ops rest ((d, .bool (t || u)) :: env0) L D) : J c ops l env L D := by
 simp only [Prod.mk.injEq] at h
 exact spO h.1 (fun ht => hw ht fun h1 hD => jR K ht (res_sub h1) hD) (fun ht => run_ok ft.okF ft.okO n h.2 rfl (jR0 K ht (res_sub he) SubD.refl))
theorem oc {α : Type} {r : Rep α} (i : Nat) {v : Value} {xs : List α} (hi : D[i]? = some (@Atom.mk (List α) (@repList α r) v xs)) (k : v.oneCell' = true → J c ops l env L D) : J c ops l env L D :=
 gtL (fun _ _ h => oneCell_of_list (h _ (List.mem_of_getElem? hi))) k
end
def spO2 : Nat → Own → Option (Own × Own)
 | 0, L => some ([], L)
 | n + 1, q :: L => match spO2 n L with
  | some (A, B) => some (q :: A, B)
  | none => none
 | _ + 1, [] => none
theorem spO2_eq : ∀ {n : Nat} {L A B : Own}, spO2 n L = some (A, B) → L = A ++ B
 | 0, L, A, B, h => by
  simp only [spO2, Option.some.injEq, Prod.mk.injEq] at h
  obtain ⟨rfl, rfl⟩ := h
  rfl
 | n + 1, q :: L, A, B, h => by
  simp only [spO2] at h
  split at h
  · rename_i A' B' e
    simp only [Option.some.injEq, Prod.mk.injEq] at h
    obtain ⟨rfl, rfl⟩ := h
    rw [spO2_eq e]; rfl
  · cases h
section
variable {c : Cx} {ops : Array Oper} {Q : Exit → Act → World → Prop} {env : Env} {L : Own} {D : List Atom} {rest : List Oper} {d : Nat} {t : TypeId} {p : String} {af : Array Edge}
theorem cfN (n : Nat) {L0 Lr : Own} {f : FuncId} {vs : List Value} {As : List Atom} {β : Type} {R : β → Value → Prop} {L1 : β → Value → Own} {out : β → Value → List Atom} (h : Fnc c.P f vs L0 As R L1 out) (hok : FnOk c.P f) (hL : spO2 n L = some (L0, Lr)) {xs : List Operand} {ats : Array TypeId}
 (hxs : evs env xs = some vs) (hA : SubD As D) (hn : Nat.blt d c.n = true) (k : ∀ y v, R y v → WL Q c ops rest ((d, v) :: env) (L1 y v ++ Lr) (out y v ++ D)) :
 WL Q c ops (⟨some d, .call { callee := .value (.func f), args := xs.toArray, argTypes := ats }, t, p, af, none⟩ :: rest) env L D := cfP h hok (spO2_eq hL) hxs hA hn k
theorem cfNc (n : Nat) {L0 Lr : Own} {f : FuncId} {vs us : List Value} {As : List Atom} {β : Type} {R : β → Value → Prop} {L1 : β → Value → Own} {out : β → Value → List Atom} {first cap : Array Value} {x : Operand} (h : Fnc c.P f us L0 As R L1 out) (hok : FnOk c.P f) (hL : spO2 n L = some (L0, Lr)) {xs : List Operand} {ats : Array TypeId}
 (hx : ev env x = some (.func (.func f) first cap)) (hxs : evs env xs = some vs) (hus : first.toList ++ vs ++ cap.toList = us) (hA : SubD As D) (hn : Nat.blt d c.n = true) (k : ∀ y v, R y v → WL Q c ops rest ((d, v) :: env) (L1 y v ++ Lr) (out y v ++ D)) :
 WL Q c ops (⟨some d, .call { callee := .value x, args := xs.toArray, argTypes := ats }, t, p, af, none⟩ :: rest) env L D := cfPc h hok (spO2_eq hL) hx hxs hus hA hn k
end
theorem nlt {a b : Nat} (h : Nat.ble (a + 1) b = true) : a < b := Nat.le_of_ble_eq_true h
theorem gE {α : Type} [Inhabited α] {l : List α} {i : Nat} (h : i < l.length := by omega) : l[i]? = some (l.getD i default) := getDE h
end
end Go.Eng
namespace Go.YtmpoffijcfaalaaGreat
open Go.Eng
theorem wrap_u8 (u : Nat) : IntKind.u8.wrap (u : Int) = ((u % 256 : Nat) : Int) := by simp [IntKind.wrap, IntKind.signed, IntKind.bits]
theorem wrap_u64 (u : Nat) : IntKind.u64.wrap (u : Int) = ((u % 18446744073709551616 : Nat) : Int) := by simp [IntKind.wrap, IntKind.signed, IntKind.bits]
theorem ofInt_nat (n a : Nat) : (BitVec.ofInt n (a : Int)).toNat = a % 2 ^ n := by simp
theorem and_nat8 {a b : Nat} (ha : a < 256) (hb : b < 256) : bitV .and .u8 (a : Int) (b : Int) = ((a &&& b : Nat) : Int) := by
 have h : a &&& b < 2 ^ 8 := Nat.and_lt_two_pow a hb
 show IntKind.u8.wrap ((BitVec.ofInt 8 (a : Int) &&& BitVec.ofInt 8 (b : Int)).toNat : Int) = _
 rw [BitVec.toNat_and, ofInt_nat, ofInt_nat]
 rw [Nat.mod_eq_of_lt (show a < 2 ^ 8 from ha), Nat.mod_eq_of_lt (show b < 2 ^ 8 from hb), wrap_u8, Nat.mod_eq_of_lt h]
theorem or_nat64 {a b : Nat} (ha : a < 2 ^ 64) (hb : b < 2 ^ 64) : bitV .or .u64 (a : Int) (b : Int) = ((a ||| b : Nat) : Int) := by
 have h : a ||| b < 2 ^ 64 := Nat.or_lt_two_pow ha hb
 show IntKind.u64.wrap ((BitVec.ofInt 64 (a : Int) ||| BitVec.ofInt 64 (b : Int)).toNat : Int) = _
 rw [BitVec.toNat_or, ofInt_nat, ofInt_nat]
 rw [Nat.mod_eq_of_lt ha, Nat.mod_eq_of_lt hb, wrap_u64, Nat.mod_eq_of_lt h]
theorem and_nat64 {a b : Nat} (ha : a < 2 ^ 64) (hb : b < 2 ^ 64) : bitV .and .u64 (a : Int) (b : Int) = ((a &&& b : Nat) : Int) := by
 have h : a &&& b < 2 ^ 64 := Nat.and_lt_two_pow a hb
 show IntKind.u64.wrap ((BitVec.ofInt 64 (a : Int) &&& BitVec.ofInt 64 (b : Int)).toNat : Int) = _
 rw [BitVec.toNat_and, ofInt_nat, ofInt_nat]
 rw [Nat.mod_eq_of_lt ha, Nat.mod_eq_of_lt hb, wrap_u64, Nat.mod_eq_of_lt h]
theorem and_127 (c : UInt8) : bitV .and .u8 (c.toNat : Int) 127 = ((c.toNat % 128 : Nat) : Int) := by
 rw [show ((127 : Int)) = ((127 : Nat) : Int) from rfl, and_nat8 c.toNat_lt (by decide)]
 congr 1
 exact Nat.and_two_pow_sub_one_eq_mod c.toNat 7
theorem shr1 (u : Nat) : ((u : Int)).fdiv (2 ^ min (1 : Int).toNat IntKind.u64.bits) = ((u / 2 : Nat) : Int) := by
 rw [Int.fdiv_eq_ediv_of_nonneg _ (by decide)]
 rfl
theorem shl_k (a k : Nat) (h : a * 2 ^ k < 2 ^ 64) (hk : k ≤ 63) : IntKind.u64.wrap ((a : Int) * 2 ^ min ((k : Nat) : Int).toNat IntKind.u64.bits) = ((a * 2 ^ k : Nat) : Int) := by
 have e : min ((k : Nat) : Int).toNat IntKind.u64.bits = k := by simp only [Int.toNat_natCast]; show min k 64 = k; omega
 rw [e, show (a : Int) * 2 ^ k = ((a * 2 ^ k : Nat) : Int) by push_cast; rfl, wrap_u64, Nat.mod_eq_of_lt h]
theorem or_add {v a k : Nat} (hv : v < 2 ^ k) (h : a * 2 ^ k < 2 ^ 64) (hk : k ≤ 63) : bitV .or .u64 (v : Int) ((a * 2 ^ k : Nat) : Int) = ((v + a * 2 ^ k : Nat) : Int) := by
 have hv' : v < 2 ^ 64 := Nat.lt_of_lt_of_le hv (Nat.pow_le_pow_right (by decide) (by omega))
 rw [or_nat64 hv' h, Nat.or_comm, Nat.mul_comm a, ← Nat.two_pow_add_eq_or_of_lt hv]
 congr 1
 omega
theorem and_1 {v : Nat} (hv : v < 2 ^ 64) : bitV .and .u64 (v : Int) 1 = ((v % 2 : Nat) : Int) := by
 rw [show ((1 : Int)) = ((1 : Nat) : Int) from rfl, and_nat64 hv (by decide)]
 congr 1
 exact Nat.and_two_pow_sub_one_eq_mod v 1
theorem cpl {x : Int} (h : InI x) : bitV .xor .i64 (if IntKind.i64.signed then -1 else IntKind.i64.max) x = -x - 1 := by
 obtain ⟨h1, h2⟩ := h
 have e : (BitVec.ofInt 64 (-1) ^^^ BitVec.ofInt 64 x) = BitVec.ofInt 64 (-x - 1) := by
  have a : BitVec.ofInt 64 (-1) = BitVec.allOnes 64 := by decide
  rw [a, BitVec.allOnes_xor]
  have : BitVec.ofInt 64 (-x - 1) = ~~~ BitVec.ofInt 64 x := by
   apply BitVec.eq_of_toInt_eq
   rw [BitVec.toInt_not, BitVec.toInt_ofInt]
   have t : (BitVec.ofInt 64 x).toNat = (x % 2 ^ 64).toNat := by simp [BitVec.toNat_ofInt]
   rw [t]
   simp only [Int.bmod]
   omega
  rw [this]
 show IntKind.i64.wrap _ = _
 have : ∀ y : Int, InI y → IntKind.i64.wrap ((BitVec.ofInt 64 y).toNat : Int) = y := by
  intro y hy
  obtain ⟨h3, h4⟩ := hy
  have t : (BitVec.ofInt 64 y).toNat = (y % 2 ^ 64).toNat := by simp [BitVec.toNat_ofInt]
  rw [t]
  simp only [IntKind.wrap, IntKind.signed, IntKind.bits]
  simp
  omega
 rw [← this (-x - 1) ⟨by omega, by omega⟩, ← e]
 rfl
theorem i64_of_nat {v : Nat} (h : v < 9223372036854775808) : IntKind.i64.wrap (v : Int) = (v : Int) := wrap_i64_in ⟨by omega, by omega⟩
def zag (v : Nat) : Int := if v % 2 = 1 then -((v / 2 : Nat) : Int) - 1 else ((v / 2 : Nat) : Int)
theorem zag_in {v : Nat} (h : v < 2 ^ 64) : InI (zag v) := by
 unfold zag
 split <;> constructor <;> omega
def numD (i v : Nat) : List UInt8 → Nat × Nat × Nat
 | [] => (0, 0, 20)
 | c :: r =>
  if i = 9 ∧ 1 < c.toNat then (0, 0, 21)
  else if 128 ≤ c.toNat then numD (i + 1) (v + c.toNat % 128 * 2 ^ (7 * i)) r
  else if c.toNat = 0 ∧ 0 < i then (0, 0, 21)
  else (v + c.toNat % 128 * 2 ^ (7 * i), i + 1, 0)
structure Rd where
 pos : Nat
 fault : Nat
def Rd.step (s : Rd) (n e : Nat) : Rd := if s.fault ≠ 0 then s else if e ≠ 0 then { s with fault := e } else { s with pos := s.pos + n }
def Rd.val {α : Type} (s : Rd) (d x : α) (e : Nat) : α := if s.fault ≠ 0 then d else if e ≠ 0 then d else x
def countD (bs : List UInt8) (most : Int) : Nat × Nat × Nat :=
 let (v, n, e) := numD 0 0 bs
 if e = 0 ∧ max most 0 < (v : Int) then (0, 0, 22) else if e ≠ 0 then (0, 0, e) else (v, n, 0)
def textD (bs : List UInt8) (most : Int) : List UInt8 × Nat × Nat :=
 let (v, n, e) := countD bs most
 if e ≠ 0 then ([], 0, e) else if bs.length < n + v then ([], 0, 20) else ((bs.drop n).take v, n + v, 0)
def byteD : List UInt8 → UInt8 × Nat × Nat
 | [] => (0, 0, 20)
 | c :: _ => (c, 1, 0)
abbrev Rdg (α : Type) := Rd → α × Rd
def rdOf {α : Type} (bs : List UInt8) (d : α) (f : List UInt8 → α × Nat × Nat) : Rdg α := fun s =>
 let (x, n, e) := f (bs.drop s.pos)
 (s.val d x e, s.step n e)
def rdNum (bs : List UInt8) : Rdg Nat := rdOf bs 0 (numD 0 0)
def rdInt (bs : List UInt8) : Rdg Int := fun s => (zag (rdNum bs s).1, (rdNum bs s).2)
def rdByte (bs : List UInt8) : Rdg UInt8 := rdOf bs 0 byteD
def rdCount (bs : List UInt8) (most : Int) : Rdg Nat := rdOf bs 0 (fun l => countD l most)
def rdText (bs : List UInt8) (most : Int) : Rdg (List UInt8) := rdOf bs [] (fun l => textD l most)
structure OpV where
 kind : Int
 key : ByteArray
 other : ByteArray
 n : Int
 lo : Int
 hi : Int
 deriving DecidableEq
def OpV.none : OpV := ⟨0, ByteArray.empty, ByteArray.empty, 0, 0, 0⟩
@[reducible] def numTup (p : Nat × Nat × Nat) : Value := .tuple #[.int .u64 (p.1 : Int), .int .i64 (p.2.1 : Int), .int .i64 (p.2.2 : Int)]
@[reducible] def intTup (p : Nat × Nat × Nat) : Value := .tuple #[.int .i64 (p.1 : Int), .int .i64 (p.2.1 : Int), .int .i64 (p.2.2 : Int)]
theorem wrap_u64' {u : Nat} (h : u < 2 ^ 64) : IntKind.u64.wrap (u : Int) = (u : Int) := by rw [wrap_u64, Nat.mod_eq_of_lt h]
theorem shl_ok {i c : Nat} (hi : i ≤ 9) (hc : i = 9 → c ≤ 1) : c % 128 * 2 ^ (7 * i) < 2 ^ 64 := by
 have h : i = 0 ∨ i = 1 ∨ i = 2 ∨ i = 3 ∨ i = 4 ∨ i = 5 ∨ i = 6 ∨ i = 7 ∨ i = 8 ∨ i = 9 := by omega
 rcases h with rfl | rfl | rfl | rfl | rfl | rfl | rfl | rfl | rfl | rfl <;> simp only [Nat.reduceMul, Nat.reducePow] <;> omega
theorem shl_lt {i c v : Nat} (hv : v < 2 ^ (7 * i)) : v + c % 128 * 2 ^ (7 * i) < 2 ^ (7 * (i + 1)) := by
 have h : c % 128 < 128 := Nat.mod_lt _ (by decide)
 have e : 2 ^ (7 * (i + 1)) = 128 * 2 ^ (7 * i) := by rw [Nat.mul_add, Nat.pow_add, Nat.mul_comm]
 rw [e]
 have : c % 128 * 2 ^ (7 * i) ≤ 127 * 2 ^ (7 * i) := Nat.mul_le_mul_right _ (by omega)
 omega
theorem drop_at {α : Type} {bs : List α} {i : Nat} {c : α} (h : bs[i]? = some c) : bs.drop i = c :: bs.drop (i + 1) := by
 obtain ⟨hi, rfl⟩ := List.getElem?_eq_some_iff.1 h
 exact List.drop_eq_getElem_cons hi
end Go.YtmpoffijcfaalaaGreat
