/- A way to run calls of the program on told values is shown to be sound; it holds for programs that follow mixed orders. -/
import Derived.Test.YtkbielcbkpglhaaGreatDoorE5
import Derived.IntWalk
set_option linter.unusedVariables false
set_option linter.unusedSimpArgs false
namespace Go.Ev
/-! ### What runs come to, step by step -/
section
variable {E : Env}
def CW (E : Env) (f : FuncId) (args : List AV) (st : St) (Q : Out → St → Prop) : Prop := ∃ n o s, ev E n (.call f args) st = some (.call o, s) ∧ Q o s
def XW (E : Env) (c : Code) (fr : Fr) (st : St) (K : Ex → Fr → St → Prop) : Prop := ∃ n e fr' s, ev E n (.code c fr) st = some (.code e fr', s) ∧ K e fr' s
def OW (E : Env) (ops : Array Oper) (l : List Oper) (fr : Fr) (st : St) (K : Ex → Fr → St → Prop) : Prop := ∃ n e fr' s, opsA E (callOf (ev E n)) ops l fr st = some (e, fr', s) ∧ K e fr' s
theorem CW.mono {f : FuncId} {args : List AV} {st : St} {Q R : Out → St → Prop} (h : CW E f args st Q) (hq : ∀ o s, Q o s → R o s) : CW E f args st R := by
  obtain ⟨n, o, s, h1, h2⟩ := h
  exact ⟨n, o, s, h1, hq _ _ h2⟩
theorem XW.mono {c : Code} {fr : Fr} {st : St} {K L : Ex → Fr → St → Prop} (h : XW E c fr st K) (hq : ∀ e fr s, K e fr s → L e fr s) : XW E c fr st L := by
  obtain ⟨n, e, fr', s, h1, h2⟩ := h
  exact ⟨n, e, fr', s, h1, hq _ _ _ h2⟩
/-! code -/
theorem XW.step {c : Code} {fr : Fr} {st : St} {K : Ex → Fr → St → Prop} (h : ∃ n e fr' s, evStep E (ev E n) (.code c fr) st = some (.code e fr', s) ∧ K e fr' s) : XW E c fr st K := by
  obtain ⟨n, e, fr', s, h1, h2⟩ := h
  exact ⟨n + 1, e, fr', s, h1, h2⟩
theorem XW.skip {fr : Fr} {st : St} {K : Ex → Fr → St → Prop} (h : K .normal fr st) : XW E .skip fr st K := ⟨1, _, _, _, rfl, h⟩
theorem XW.label {l : Nat} {fr : Fr} {st : St} {K : Ex → Fr → St → Prop} (h : K .normal fr st) : XW E (.label l) fr st K := ⟨1, _, _, _, rfl, h⟩
theorem XW.exit {i : Nat} {fr : Fr} {st : St} {K : Ex → Fr → St → Prop} (h : K (.exit i) fr st) : XW E (.exit i) fr st K := ⟨1, _, _, _, rfl, h⟩
theorem XW.goto {i : Nat} {fr : Fr} {st : St} {K : Ex → Fr → St → Prop} (h : K (.goto i) fr st) : XW E (.goto i) fr st K := ⟨1, _, _, _, rfl, h⟩
theorem XW.ret {fr : Fr} {st : St} {K : Ex → Fr → St → Prop} (h : K .ret fr st) : XW E .ret fr st K := ⟨1, _, _, _, rfl, h⟩
/-- What stands behind code, where it ends as usual. -/
def seqK (E : Env) (b : Code) (K : Ex → Fr → St → Prop) : Ex → Fr → St → Prop
  | .normal, fr, s => XW E b fr s K
  | e, fr, s => K e fr s
theorem XW.seq {a b : Code} {fr : Fr} {st : St} {K : Ex → Fr → St → Prop} (h : XW E a fr st (seqK E b K)) : XW E (.seq a b) fr st K := by
  obtain ⟨n, e, fr', s, h1, h2⟩ := h
  cases e with
  | normal =>
    obtain ⟨m, e2, fr2, s2, h3, h4⟩ := h2
    refine XW.step ⟨max n m, e2, fr2, s2, ?_, h4⟩
    simp only [evStep, ev_mono (Nat.le_max_left n m) _ _ _ h1, ev_mono (Nat.le_max_right n m) _ _ _ h3, Option.bind_some]
  | _ => exact XW.step ⟨n, _, fr', s, by simp only [evStep, h1, Option.bind_some], h2⟩
theorem XW.condT {c : Operand} {a b : Code} {fr : Fr} {st : St} {K : Ex → Fr → St → Prop} (hc : evalA E.P fr.tmps c = some (.bool true)) (h : XW E a fr st K) : XW E (.cond c a b) fr st K := by
  obtain ⟨n, e, fr', s, h1, h2⟩ := h
  exact XW.step ⟨n, e, fr', s, by simp only [evStep, hc, Option.bind_some, h1], h2⟩
theorem XW.condF {c : Operand} {a b : Code} {fr : Fr} {st : St} {K : Ex → Fr → St → Prop} (hc : evalA E.P fr.tmps c = some (.bool false)) (h : XW E b fr st K) : XW E (.cond c a b) fr st K := by
  obtain ⟨n, e, fr', s, h1, h2⟩ := h
  exact XW.step ⟨n, e, fr', s, by simp only [evStep, hc, Option.bind_some, h1], h2⟩
theorem XW.cond {c : Operand} {a b : Code} {fr : Fr} {st : St} {K : Ex → Fr → St → Prop} {t : Bool} (hc : evalA E.P fr.tmps c = some (.bool t)) (h1 : t = true → XW E a fr st K) (h2 : t = false → XW E b fr st K) : XW E (.cond c a b) fr st K := by
  cases t with
  | true => exact XW.condT hc (h1 rfl)
  | false => exact XW.condF hc (h2 rfl)
def blockK (i : Nat) (K : Ex → Fr → St → Prop) : Ex → Fr → St → Prop
  | .exit j, fr, s => K (if j = i then .normal else .exit j) fr s
  | e, fr, s => K e fr s
theorem XW.block {i : Nat} {b : Code} {fr : Fr} {st : St} {K : Ex → Fr → St → Prop} (h : XW E b fr st (blockK i K)) : XW E (.block i b) fr st K := by
  obtain ⟨n, e, fr', s, h1, h2⟩ := h
  cases e <;> exact XW.step ⟨n, _, fr', s, by simp only [evStep, h1, Option.bind_some], h2⟩
/-- What stands behind a round of a loop. -/
def loopK (E : Env) (b : Code) (K : Ex → Fr → St → Prop) : Ex → Fr → St → Prop
  | .normal, fr, s => XW E (.loop b) fr s K
  | e, fr, s => K e fr s
theorem XW.loop {b : Code} {fr : Fr} {st : St} {K : Ex → Fr → St → Prop} (h : XW E b fr st (loopK E b K)) : XW E (.loop b) fr st K := by
  obtain ⟨n, e, fr', s, h1, h2⟩ := h
  cases e with
  | normal =>
    obtain ⟨m, e2, fr2, s2, h3, h4⟩ := h2
    refine XW.step ⟨max n m, e2, fr2, s2, ?_, h4⟩
    simp only [evStep, ev_mono (Nat.le_max_left n m) _ _ _ h1, ev_mono (Nat.le_max_right n m) _ _ _ h3, Option.bind_some]
  | _ => exact XW.step ⟨n, _, fr', s, by simp only [evStep, h1, Option.bind_some], h2⟩
/-- Behind a round: what holds of the rounds holds, and less is left. -/
def roundK (n : Nat) (ds : List (AV × List AV)) (I : Nat → Trie AV → St → Prop) (d : Nat) (K : Ex → Fr → St → Prop) : Ex → Fr → St → Prop
  | .normal, fr, s => fr.n = n ∧ fr.defers = ds ∧ ∃ d', d' < d ∧ I d' fr.tmps s
  | e, fr, s => K e fr s
theorem XW.rounds {n : Nat} {ds : List (AV × List AV)} {b : Code} {K : Ex → Fr → St → Prop} (I : Nat → Trie AV → St → Prop) (h : ∀ d σ st, I d σ st → XW E b { tmps := σ, n := n, defers := ds } st (roundK n ds I d K)) :
    ∀ (d : Nat) (σ : Trie AV) (st : St), I d σ st → XW E (.loop b) { tmps := σ, n := n, defers := ds } st K := by
  intro d
  induction d using Nat.strongRecOn with
  | _ d ih =>
    intro σ st hI
    refine XW.loop ((h d σ st hI).mono fun e fr s hK => ?_)
    cases e with
    | normal =>
      obtain ⟨rfl, rfl, d', hd, hI'⟩ := hK
      exact ih d' hd _ _ hI'
    | _ => exact hK
theorem XW.region {i : Nat} {ops : Array Oper} {fr : Fr} {st : St} {K : Ex → Fr → St → Prop} (h : OW E ops ops.toList fr st K) : XW E (.region i ops false) fr st K := by
  obtain ⟨n, e, fr', s, h1, h2⟩ := h
  exact XW.step ⟨n, e, fr', s, by simp only [evStep, h1, Option.bind_some], h2⟩
/-! operations -/
theorem OW.nil {ops : Array Oper} {fr : Fr} {st : St} {K : Ex → Fr → St → Prop} (h : K .normal fr st) : OW E ops [] fr st K := ⟨0, _, _, _, rfl, h⟩
theorem Fr.put_lt {σ : Trie AV} {n d : Nat} {ds : List (AV × List AV)} {v : AV} {dst : Option Tmp} (ho : dst = some d) (hd : Nat.blt d n = true) : Fr.put { tmps := σ, n := n, defers := ds } dst v = some { tmps := σ.put d (some v), n := n, defers := ds } := by
  subst ho
  have : d < n := by simp [Nat.blt] at hd; omega
  simp [Fr.put, this]
section
variable {ops : Array Oper} {o : Oper} {l : List Oper} {σ : Trie AV} {n d : Nat} {ds : List (AV × List AV)} {st st' : St} {K : Ex → Fr → St → Prop} {v : AV}
theorem OW.off (ho : o.dst = some d) (hd : Nat.blt d n = true) (hw : wantedA σ ops o = some false) (h : OW E ops l { tmps := σ.put d (some undefA), n := n, defers := ds } st K) : OW E ops (o :: l) { tmps := σ, n := n, defers := ds } st K := by
  obtain ⟨m, e, fr1, s, h1, h2⟩ := h
  exact ⟨m, e, fr1, s, by simp only [opsA, hw, Fr.put_lt ho hd, h1, Option.bind_some, Bool.false_eq_true, if_false], h2⟩
theorem OW.off' (ho : o.dst = none) (hw : wantedA σ ops o = some false) (h : OW E ops l { tmps := σ, n := n, defers := ds } st K) : OW E ops (o :: l) { tmps := σ, n := n, defers := ds } st K := by
  obtain ⟨m, e, fr1, s, h1, h2⟩ := h
  exact ⟨m, e, fr1, s, by simp only [opsA, hw, ho, Fr.put, h1, Option.bind_some, Bool.false_eq_true, if_false], h2⟩
theorem OW.quiet (ho : o.dst = some d) (hd : Nat.blt d n = true) (hw : wantedA σ ops o = some true) (hq : isQuiet E.P o.op = true) (hv : quietA E.P σ st o.op = some v) (h : OW E ops l { tmps := σ.put d (some v), n := n, defers := ds } st K) : OW E ops (o :: l) { tmps := σ, n := n, defers := ds } st K := by
  obtain ⟨m, e, fr1, s, h1, h2⟩ := h
  exact ⟨m, e, fr1, s, by simp only [opsA, opA, hw, hq, hv, Fr.put_lt ho hd, h1, Option.bind_some, if_true], h2⟩
theorem OW.float {b : ABlk} (ho : o.dst = some d) (hd : Nat.blt d n = true) (hw : wantedA σ ops o = some true) (hq : isQuiet E.P o.op = false) (hf : isFloat E.P o.op = true) (hv : floatA E.P σ st.next o.op = some (b, v)) (h : OW E ops l { tmps := σ.put d (some v), n := n, defers := ds } (st.alloc b) K) : OW E ops (o :: l) { tmps := σ, n := n, defers := ds } st K := by
  obtain ⟨m, e, fr1, s, h1, h2⟩ := h
  exact ⟨m, e, fr1, s, by simp only [opsA, opA, hw, hq, hf, hv, Fr.put_lt ho hd, h1, Option.bind_some, if_true, Bool.false_eq_true, if_false], h2⟩
/-- An operation that turns the heap and calls nothing. -/
theorem OW.chain (ho : o.dst = some d) (hd : Nat.blt d n = true) (hw : wantedA σ ops o = some true) (hq : isQuiet E.P o.op = false) (hf : isFloat E.P o.op = false) (hv : ∀ call, chainA E call σ st o.op = some (.val v, st')) (h : OW E ops l { tmps := σ.put d (some v), n := n, defers := ds } st' K) : OW E ops (o :: l) { tmps := σ, n := n, defers := ds } st K := by
  obtain ⟨m, e, fr1, s, h1, h2⟩ := h
  exact ⟨m, e, fr1, s, by simp only [opsA, opA, hw, hq, hf, hv, Fr.put_lt ho hd, h1, Option.bind_some, if_true, Bool.false_eq_true, if_false], h2⟩
/-- An operation that tells nothing. -/
theorem OW.skip (ho : o.dst = none) (hw : wantedA σ ops o = some true) (hq : isQuiet E.P o.op = false) (hf : isFloat E.P o.op = false) (hv : ∀ call, chainA E call σ st o.op = some (.skip, st')) (h : OW E ops l { tmps := σ, n := n, defers := ds } st' K) : OW E ops (o :: l) { tmps := σ, n := n, defers := ds } st K := by
  obtain ⟨m, e, fr1, s, h1, h2⟩ := h
  exact ⟨m, e, fr1, s, by simp only [opsA, opA, hw, hq, hf, hv, ho, Fr.put, h1, Option.bind_some, if_true, Bool.false_eq_true, if_false], h2⟩
theorem OW.panic {ch : List AV} (hw : wantedA σ ops o = some true) (hq : isQuiet E.P o.op = false) (hf : isFloat E.P o.op = false) (hv : ∀ call, chainA E call σ st o.op = some (.pan ch, st')) (h : K (.pan ch) { tmps := σ, n := n, defers := ds } st') : OW E ops (o :: l) { tmps := σ, n := n, defers := ds } st K :=
  ⟨0, .pan ch, _, st', by simp only [opsA, opA, hw, hq, hf, hv, Option.bind_some, if_true, Bool.false_eq_true, if_false], h⟩
theorem OW.defer {f : AV} {xs : List AV} (ho : o.dst = none) (hw : wantedA σ ops o = some true) (hq : isQuiet E.P o.op = false) (hf : isFloat E.P o.op = false) (hv : ∀ call, chainA E call σ st o.op = some (.dfr f xs, st')) (h : OW E ops l { tmps := σ, n := n, defers := (f, xs) :: ds } st' K) : OW E ops (o :: l) { tmps := σ, n := n, defers := ds } st K := by
  obtain ⟨m, e, fr1, s, h1, h2⟩ := h
  exact ⟨m, e, fr1, s, by simp only [opsA, opA, hw, hq, hf, hv, ho, Fr.put, h1, Option.bind_some, if_true, Bool.false_eq_true, if_false], h2⟩
/-- Behind a call. -/
def callK (E : Env) (ops : Array Oper) (dst : Option Tmp) (l : List Oper) (fr : Fr) (K : Ex → Fr → St → Prop) : Out → St → Prop
  | .ret v, s => ∃ fr', fr.put dst v = some fr' ∧ OW E ops l fr' s K
  | .pan ch, s => K (.pan ch) fr s
theorem callK_ret (ho : o.dst = some d) (hd : Nat.blt d n = true) (h : OW E ops l { tmps := σ.put d (some v), n := n, defers := ds } st K) : callK E ops o.dst l { tmps := σ, n := n, defers := ds } K (.ret v) st := ⟨_, Fr.put_lt ho hd, h⟩
theorem callK_unit (ho : o.dst = none) (h : OW E ops l { tmps := σ, n := n, defers := ds } st K) : callK E ops o.dst l { tmps := σ, n := n, defers := ds } K (.ret v) st := ⟨_, by rw [ho]; rfl, h⟩
def hasBody (P : Program) (g : FuncId) : Bool :=
  match P.funcs[g]? with
  | some fn => fn.body.isSome
  | none => false
theorem OW.call {c : Call} {x : Operand} {g : FuncId} {first cap xs : List AV} {fr : Fr} (ho : o.op = .call c) (hw : wantedA fr.tmps ops o = some true) (hx : c.callee = .value x) (hg : evalA E.P fr.tmps x = some (.func (.func g) first cap)) (ha : evalL E.P fr.tmps c.args.toList = some xs)
    (hb : hasBody E.P g = true) (h : CW E g (first ++ xs ++ cap) st (callK E ops o.dst l fr K)) : OW E ops (o :: l) fr st K := by
  obtain ⟨n, out, s, h1, h2⟩ := h
  have hq : isQuiet E.P o.op = false := by
    rw [ho]; obtain ⟨ce, cx, ct⟩ := c; simp only at hx; subst hx; rfl
  have hf : isFloat E.P o.op = false := by rw [ho]; rfl
  obtain ⟨fn, hfn, hbody⟩ : ∃ fn, E.P.funcs[g]? = some fn ∧ fn.body.isNone = false := by
    unfold hasBody at hb
    split at hb
    · rename_i fn hfn; exact ⟨fn, hfn, by cases h : fn.body <;> simp_all⟩
    · simp at hb
  have key : ∀ m, n ≤ m → chainA E (callOf (ev E m)) fr.tmps st o.op = some ((match out with | .ret v => OpOut.val v | .pan ch => .pan ch), s) := fun m hm => by
    rw [ho]
    simp only [chainA, ha, hx, hg, hfn, hbody, Option.bind_some, Bool.false_eq_true, if_false, callOf, ev_mono hm _ _ _ h1]
    cases out <;> rfl
  cases out with
  | ret v =>
    obtain ⟨fr', hp, m, e, fr1, s1, h3, h4⟩ := h2
    have h3' := opsA_mono (callOf_mono (ev_mono (Nat.le_max_right n m))) h3
    refine ⟨max n m, e, fr1, s1, ?_, h4⟩
    have hk := key _ (Nat.le_max_left n m)
    simp only at hk
    simp only [opsA, opA, hw, hq, hf, hk, hp, h3', Option.bind_some, if_true, Bool.false_eq_true, if_false]
  | pan ch =>
    refine ⟨n, .pan ch, fr, s, ?_, h2⟩
    have hk := key _ (Nat.le_refl n)
    simp only at hk
    simp only [opsA, opA, hw, hq, hf, hk, Option.bind_some, if_true, Bool.false_eq_true, if_false]
/-- A call of a function that the text names. -/
theorem OW.callF {args : Array Operand} {tys : Array TypeId} {g : FuncId} {xs : List AV} {fr : Fr} (ho : o.op = .call { callee := .value (.func g), args := args, argTypes := tys }) (hw : wantedA fr.tmps ops o = some true) (ha : evalL E.P fr.tmps args.toList = some xs) (hb : hasBody E.P g = true)
    (h : CW E g xs st (callK E ops o.dst l fr K)) : OW E ops (o :: l) fr st K :=
  OW.call ho hw rfl rfl ha hb (by simpa using h)
/-- A function without a body. -/
theorem OW.extern {c : Call} {x : Operand} {g : FuncId} {fn : Func} {first cap xs : List AV} (hdst : o.dst = some d) (hd : Nat.blt d n = true) (ho : o.op = .call c) (hw : wantedA σ ops o = some true) (hx : c.callee = .value x) (hg : evalA E.P σ x = some (.func (.func g) first cap)) (ha : evalL E.P σ c.args.toList = some xs)
    (hfn : E.P.funcs[g]? = some fn) (hb : fn.body.isNone = true) (hor : fn.origin = "") (hv : externA fn.name (first ++ xs ++ cap) = some v) (h : OW E ops l { tmps := σ.put d (some v), n := n, defers := ds } st K) : OW E ops (o :: l) { tmps := σ, n := n, defers := ds } st K := by
  obtain ⟨m, e, fr1, s, h1, h2⟩ := h
  have hq : isQuiet E.P o.op = false := by
    rw [ho]; obtain ⟨ce, cx, ct⟩ := c; simp only at hx; subst hx; rfl
  have hf : isFloat E.P o.op = false := by rw [ho]; rfl
  refine ⟨m, e, fr1, s, ?_, h2⟩
  simp only [opsA, opA, hw, hq, hf, Option.bind_some, if_true, Bool.false_eq_true, if_false]
  rw [ho]
  simp only [chainA, ha, hx, hg, hfn, hb, hor, hv, Fr.put_lt hdst hd, h1, Option.bind_some, if_true]
end
/-! calls -/
def bodyK (P : Program) (rs : List ResultVar) (Q : Out → St → Prop) : Ex → Fr → St → Prop
  | .normal, fr, s => fr.defers = [] ∧ ∃ vs, resA P fr.tmps s rs = some vs ∧ Q (.ret (oneOf vs)) s
  | .ret, fr, s => fr.defers = [] ∧ ∃ vs, resA P fr.tmps s rs = some vs ∧ Q (.ret (oneOf vs)) s
  | .pan ch, fr, s => fr.defers = [] ∧ Q (.pan ch) s
  | _, _, _ => False
theorem CW.enter {n0 : Nat} {rs : List ResultVar} {f : FuncId} {fn : Func} {c : Code} {args : List AV} {st : St} {Q : Out → St → Prop} (hf : E.P.funcs[f]? = some fn) (hp : E.prim f = none) (hb : fn.body = some c) (hn : fn.ntmps = n0) (hr0 : fn.results.toList = rs) (hl : Nat.ble args.length n0 = true)
    (h : XW E c { tmps := argsA .leaf 0 args, n := n0, defers := [] } st (bodyK E.P rs Q)) : CW E f args st Q := by
  subst hn hr0
  have hl : args.length ≤ fn.ntmps := by simpa using hl
  obtain ⟨n, e, fr, s, h1, h2⟩ := h
  cases e with
  | normal =>
    obtain ⟨hd, vs, hr, hq⟩ := h2
    refine ⟨n + 1, _, s, ?_, hq⟩
    rw [ev_succ]
    simp only [evStep, hp, hf, hb, hl, h1, hd, hr, deferA, finishA, Option.bind_some, if_true]
  | ret =>
    obtain ⟨hd, vs, hr, hq⟩ := h2
    refine ⟨n + 1, _, s, ?_, hq⟩
    rw [ev_succ]
    simp only [evStep, hp, hf, hb, hl, h1, hd, hr, deferA, finishA, Option.bind_some, if_true]
  | pan ch =>
    obtain ⟨hd, hq⟩ := h2
    refine ⟨n + 1, _, s, ?_, hq⟩
    rw [ev_succ]
    simp only [evStep, hp, hf, hb, hl, h1, hd, deferA, finishA, Option.bind_some, if_true]
  | exit i => exact h2.elim
  | goto l => exact h2.elim
theorem CW.prim {f : FuncId} {p : List AV → St → Option (AV × St)} {args : List AV} {st s : St} {v : AV} {Q : Out → St → Prop} (hp : E.prim f = some p) (h : p args st = some (v, s)) (hq : Q (.ret v) s) : CW E f args st Q := by
  refine ⟨1, .ret v, s, ?_, hq⟩
  have : ev E 1 (.call f args) st = evStep E (ev E 0) (.call f args) st := rfl
  rw [this]
  simp only [evStep, hp, h, Option.bind_some]
end
attribute [irreducible] XW OW CW
end Go.Ev
set_option linter.unusedVariables false
set_option linter.unusedSimpArgs false
namespace Go.Ev
/-! ### States that go on from others; rows that a call owns -/
/-- Groups are of appended rows alone, and known ones. -/
structure WF (st : St) : Prop where
  even : ∀ i, st.grps.get (2 * i) = none
  high : ∀ g, 2 * st.next ≤ g → st.grps.get g = none
/-- What lies below B is as it was. -/
structure Ext (B : Nat) (st st' : St) : Prop where
  le : st.next ≤ st'.next
  heap : ∀ i, i < B → st'.heap.get i = st.heap.get i
  grps : ∀ g, g < 2 * B → st'.grps.get g = st.grps.get g
  wf : WF st'
section
variable {P : Program} {B : Nat} {st st' st'' : St}
theorem Ext.refl (h : WF st) : Ext B st st := ⟨Nat.le_refl _, fun _ _ => rfl, fun _ _ => rfl, h⟩
theorem Ext.trans (h : Ext B st st') (k : Ext B st' st'') : Ext B st st'' := ⟨Nat.le_trans h.le k.le, fun i hi => (k.heap i hi).trans (h.heap i hi), fun g hg => (k.grps g hg).trans (h.grps g hg), k.wf⟩
theorem Ext.low {C : Nat} (h : Ext B st st') (hc : C ≤ B) : Ext C st st' := ⟨h.le, fun i hi => h.heap i (by omega), fun g hg => h.grps g (by omega), h.wf⟩
/-- A call's: what it adds stands above what there was. -/
theorem Ext.andThen (h : Ext B st st') (hB : B ≤ st'.next) (k : Ext st'.next st' st'') : Ext B st st'' := h.trans (k.low hB)
theorem WF.alloc (h : WF st) (b : ABlk) : WF (st.alloc b) := ⟨h.even, fun g hg => h.high g (by simp only [St.alloc] at hg; omega)⟩
theorem Ext.alloc (h : WF st) (hB : B ≤ st.next) (b : ABlk) : Ext B st (st.alloc b) :=
  ⟨Nat.le_succ _, fun i hi => by simp only [St.alloc, Trie.get_put]; rw [if_neg (by omega)], fun _ _ => rfl, h.alloc b⟩
theorem alloc_get (b : ABlk) (i : Nat) : (st.alloc b).heap.get i = if i = st.next then some b else st.heap.get i := by simp only [St.alloc, Trie.get_put]
theorem alloc_next (b : ABlk) : (st.alloc b).next = st.next + 1 := rfl
theorem alloc_grps (b : ABlk) : (st.alloc b).grps = st.grps := rfl
/-- A box is written. -/
theorem write_box {id off i : Nat} {cs cs' vs : List AV} {e : TypeId} (hw : WF st) (hb : st.heap.get id = some (.cells cs e (2 * i))) (h1 : vs.all AV.one = true) (hv : writeN cs off vs = some cs') :
    st.write id off vs = some { heap := st.heap.put id (some (.cells cs' e (2 * i))), grps := st.grps, next := st.next } := by
  simp only [St.write, hb, h1, hv, hw.even, if_true, Option.bind_some]
theorem WF.set (h : WF st) (id : Nat) (b : Option ABlk) : WF { heap := st.heap.put id b, grps := st.grps, next := st.next } := ⟨h.even, h.high⟩
theorem Ext.set (h : WF st) {id : Nat} (hB : B ≤ id) (b : Option ABlk) : Ext B st { heap := st.heap.put id b, grps := st.grps, next := st.next } :=
  ⟨Nat.le_refl _, fun i hi => by simp only [Trie.get_put]; rw [if_neg (by omega)], fun _ _ => rfl, h.set id b⟩
/-- A row of a call's own: whole in its block, or nil. -/
structure OwnAt (B : Nat) (st : St) (e : TypeId) (g id : Nat) (cs : List AV) : Prop where
  low : B ≤ id
  lt : id < st.next
  glow : 2 * B ≤ g
  glt : g < 2 * st.next
  odd : g % 2 = 1
  at_ : st.heap.get id = some (.cells cs e g)
  hd : ∃ r, (st.grps.get g).getD [id] = id :: r ∧ ∀ i, i ∈ r → B ≤ i ∧ i < st.next ∧ (st.heap.get i = none ∨ ∃ cs, st.heap.get i = some (.cells cs e g))
def Own (B : Nat) (st : St) (e : TypeId) (v : AV) (n : Nat) (cs : List AV) : Prop :=
  (n = 0 ∧ cs = [] ∧ v = .slice none 0 (some 0)) ∨ ∃ id g, v = .slice (some (id, 0)) n none ∧ OwnAt B st e g id cs
theorem Own.nil {e : TypeId} : Own B st e (.slice none 0 (some 0)) 0 [] := .inl ⟨rfl, rfl, rfl⟩
theorem OwnAt.ext {e : TypeId} {g id : Nat} {cs : List AV} (h : OwnAt B st e g id cs) (k : Ext st.next st st') : OwnAt B st' e g id cs :=
  ⟨h.low, Nat.lt_of_lt_of_le h.lt k.le, h.glow, by have := k.le; have := h.glt; omega, h.odd, by rw [k.heap _ h.lt]; exact h.at_, by
    obtain ⟨r, hr, hm⟩ := h.hd
    exact ⟨r, by rw [k.grps _ h.glt]; exact hr, fun i hi => ⟨(hm i hi).1, Nat.lt_of_lt_of_le (hm i hi).2.1 k.le, by rw [k.heap _ (hm i hi).2.1]; exact (hm i hi).2.2⟩⟩⟩
theorem Own.ext {e : TypeId} {v : AV} {n : Nat} {cs : List AV} (h : Own B st e v n cs) (k : Ext st.next st st') : Own B st' e v n cs := by
  rcases h with h | ⟨id, g, h1, h2⟩
  · exact .inl h
  · exact .inr ⟨id, g, h1, h2.ext k⟩
theorem partL_hd {id : Nat} {o : Option (List Id)} {r : List Id} (h : o.getD [id] = id :: r) : (partL id (o.getD [])).1 = [] := by
  cases o with
  | none => rfl
  | some l => simp only [Option.getD_some] at h; subst h; simp [partL]
/-- A row of a call's own is appended to. -/
theorem append_own {e : TypeId} {sz : Nat} {t : TypeId} {v x : AV} {n m : Nat} {cs new : List AV} (h : Own B st e v n cs) (he : elemA P t = some e) (hrow : rowA P e = some sz) (hlen : lenA x = some m) (hf : firstA st sz m x = some new)
    (h1 : new.all AV.one = true) (hb : n + m ≤ 2 ^ 24) (hcs : cs.length = n * sz) (hm : 0 < m) (hnew : new.length = m * sz) (hsz : 0 < sz) (hwf : WF st) (hB : B ≤ st.next) :
    ∃ st' id g, appendA P st t v x = some (.slice (some (id, 0)) (n + m) none, st') ∧ OwnAt B st' e g id (cs ++ new) ∧ Ext B st st' ∧ st'.next = st.next + 1 ∧ id = st.next ∧ (∀ i, i ≠ st.next → st'.heap.get i = st.heap.get i) ∧ (∀ k, k ≠ g → st'.grps.get k = st.grps.get k) ∧
      ((n = 0 ∧ v = .slice none 0 (some 0) ∧ g = 2 * st.next + 1) ∨ ∃ i, v = .slice (some (i, 0)) n none ∧ OwnAt B st e g i cs) := by
  rcases h with ⟨rfl, rfl, rfl⟩ | ⟨id, g, rfl, ho⟩
  · refine ⟨st.alloc (.cells new e (2 * st.next + 1)), st.next, 2 * st.next + 1, ?_, ?_, Ext.alloc hwf hB _, rfl, rfl, fun i hi => by rw [alloc_get, if_neg hi], fun k _ => rfl, .inl ⟨rfl, rfl, rfl⟩⟩
    · simp only [appendA, he, hrow, hlen, hf, Option.bind_some, h1, true_and, appendTo]
      rw [if_pos hb, if_neg (by omega)]
      simp only [if_true]
    · exact ⟨hB, Nat.lt_succ_self _, by omega, by simp only [alloc_next]; omega, by omega, by rw [alloc_get, if_pos rfl]; rfl, ⟨[], by rw [alloc_grps, hwf.high _ (by omega)]; rfl, fun i hi => by simp at hi⟩⟩
  · obtain ⟨r, hr, hmem⟩ := ho.hd
    have hp := partL_hd hr
    have hp2 : ∀ i, i ∈ (partL id ((st.grps.get g).getD [])).2 → i ∈ r := fun i hi => by
      cases hg : st.grps.get g with
      | none => rw [hg] at hi; simp [partL] at hi
      | some l => rw [hg] at hi hr; simp only [Option.getD_some] at hi hr; subst hr; simpa [partL] using hi
    have hodd := ho.odd
    have hgr : st.grow id g (.cells (cs ++ new) e g) = { heap := st.heap.put st.next (some (.cells (cs ++ new) e g)), grps := st.grps.put g (some (st.next :: id :: (partL id ((st.grps.get g).getD [])).2)), next := st.next + 1 } := by
      simp only [St.grow, hp, List.filter_nil, kill]
    have hread : readN cs 0 (n * sz) = some cs := by
      rw [← hcs]
      have h0 : ∀ l : List AV, takeN l.length l = some l := fun l => by
        induction l with
        | nil => rfl
        | cons a l ih => simp only [List.length_cons, takeN, ih, Option.bind_some]
      simp only [readN, dropN, Option.bind_some, h0]
    have hpos : 0 < m * sz := Nat.mul_pos hm hsz
    refine ⟨{ heap := st.heap.put st.next (some (.cells (cs ++ new) e g)), grps := st.grps.put g (some (st.next :: id :: (partL id ((st.grps.get g).getD [])).2)), next := st.next + 1 }, st.next, g, ?_, ?_, ?_, rfl, rfl, fun i hi => ?_, fun k hk => ?_, .inr ⟨id, rfl, ho⟩⟩
    · simp only [appendA, he, hrow, hlen, hf, Option.bind_some, h1, true_and, appendTo, ho.at_, Nat.zero_add]
      rw [if_pos hb, if_neg (by omega), if_neg (by simp; omega), if_neg (by rw [hcs, Nat.add_mul]; omega), if_pos hcs.symm, hread, ← hgr]
      rfl
    · refine ⟨hB, Nat.lt_succ_self _, ho.glow, by have := ho.glt; simp only; omega, ho.odd, by simp only [Trie.get_put, if_pos], ⟨id :: (partL id ((st.grps.get g).getD [])).2, by simp only [Trie.get_put, if_pos, Option.getD_some], fun i hi => ?_⟩⟩
      have hlt : B ≤ i ∧ i < st.next ∧ (st.heap.get i = none ∨ ∃ cs, st.heap.get i = some (.cells cs e g)) := by
        rcases List.mem_cons.1 hi with rfl | hi
        · exact ⟨ho.low, ho.lt, .inr ⟨cs, ho.at_⟩⟩
        · exact hmem i (hp2 i hi)
      exact ⟨hlt.1, Nat.lt_succ_of_lt hlt.2.1, by simp only [Trie.get_put]; rw [if_neg (by omega)]; exact hlt.2.2⟩
    · refine ⟨Nat.le_succ _, fun i hi => by simp only [Trie.get_put]; rw [if_neg (by omega)], fun k hk => by simp only [Trie.get_put]; rw [if_neg (by have := ho.glow; omega)], ⟨fun i => ?_, fun k hk => ?_⟩⟩
      · simp only [Trie.get_put]; rw [if_neg (by omega)]; exact hwf.even i
      · simp only [Trie.get_put]; simp only at hk; rw [if_neg (by have := ho.glt; omega)]; exact hwf.high k (by omega)
    · simp only [Trie.get_put]; rw [if_neg hi]
    · simp only [Trie.get_put]; rw [if_neg hk]
theorem OwnAt.own {e : TypeId} {g id n : Nat} {cs : List AV} (h : OwnAt B st e g id cs) : Own B st e (.slice (some (id, 0)) n none) n cs := .inr ⟨id, g, rfl, h⟩
theorem OwnAt.low' {C : Nat} {e : TypeId} {g id : Nat} {cs : List AV} (h : OwnAt B st e g id cs) (hc : C ≤ B) : OwnAt C st e g id cs := ⟨Nat.le_trans hc h.low, h.lt, by have := h.glow; omega, h.glt, h.odd, h.at_, by
  obtain ⟨r, hr, hm⟩ := h.hd
  exact ⟨r, hr, fun i hi => ⟨Nat.le_trans hc (hm i hi).1, (hm i hi).2⟩⟩⟩
theorem Own.low' {C : Nat} {e : TypeId} {v : AV} {n : Nat} {cs : List AV} (h : Own B st e v n cs) (hc : C ≤ B) : Own C st e v n cs := by
  rcases h with h | ⟨id, g, h1, h2⟩
  · exact .inl h
  · exact .inr ⟨id, g, h1, h2.low' hc⟩
theorem kill_get' : ∀ (l : List Id) (t : Trie ABlk) (i : Nat), (kill t l).get i = if i ∈ l then none else t.get i
  | [], t, i => by simp [kill]
  | j :: l, t, i => by
    rw [kill, kill_get' l, Trie.get_put]
    by_cases h : i ∈ l
    · simp [h]
    · by_cases h2 : i = j <;> simp [h, h2]
/-- A row of a call's own is written over: what else there was of it is known no more. -/
theorem write_own {e g id off : Nat} {cs cs' vs : List AV} (h : OwnAt B st e g id cs) (hwf : WF st) (h1 : vs.all AV.one = true) (hw : writeN cs off vs = some cs') :
    ∃ st', st.write id off vs = some st' ∧ OwnAt B st' e g id cs' ∧ Ext B st st' ∧ st'.next = st.next ∧ (∀ j b, j ≠ id → st.heap.get j = some b → (∀ c, b ≠ .cells c e g) → st'.heap.get j = some b) ∧ (∀ k, k ≠ g → st'.grps.get k = st.grps.get k) := by
  obtain ⟨r, hr, hmem⟩ := h.hd
  cases hg : st.grps.get g with
  | none =>
    refine ⟨{ heap := st.heap.put id (some (.cells cs' e g)), grps := st.grps, next := st.next }, ?_, ?_, ?_, rfl, fun j b hj hb _ => ?_, fun _ _ => rfl⟩
    · simp only [St.write, h.at_, h1, if_true, hw, Option.bind_some, hg]
    · exact ⟨h.low, h.lt, h.glow, h.glt, h.odd, by simp only [Trie.get_put, if_true], ⟨[], by simp only [hg]; rfl, fun i hi => by simp at hi⟩⟩
    · exact Ext.set hwf h.low _
    · simp only [Trie.get_put]; rw [if_neg hj]; exact hb
  | some l =>
    rw [hg] at hr; simp only [Option.getD_some] at hr; subst hr
    have hk : ∀ j, j ≠ id → (∀ b, st.heap.get j = some b → ∀ c, b ≠ .cells c e g) → (kill st.heap ((id :: r).filter (· != id))).get j = st.heap.get j := fun j hj hb => by
      rw [kill_get']
      split
      · rename_i hm
        simp only [List.mem_filter, List.mem_cons, bne_iff_ne] at hm
        rcases hm.1 with h0 | hm
        · exact absurd h0 hj
        · rcases (hmem j hm).2.2 with h0 | ⟨c, h0⟩
          · exact h0.symm
          · exact absurd rfl (hb _ h0 c)
      · rfl
    have hlow : ∀ j, j < B → (kill st.heap ((id :: r).filter (· != id))).get j = st.heap.get j := fun j hj => by
      rw [kill_get', if_neg]
      intro hm
      simp only [List.mem_filter, List.mem_cons, bne_iff_ne] at hm
      rcases hm.1 with h0 | hm
      · have := h.low; omega
      · have := (hmem j hm).1; omega
    refine ⟨{ heap := (kill st.heap ((id :: r).filter (· != id))).put id (some (.cells cs' e g)), grps := st.grps.put g none, next := st.next }, ?_, ?_, ?_, rfl, fun j b hj hb hne => ?_, fun k hk => ?_⟩
    · simp only [St.write, h.at_, h1, if_true, hw, Option.bind_some, hg]
    · exact ⟨h.low, h.lt, h.glow, h.glt, h.odd, by simp only [Trie.get_put, if_true], ⟨[], by simp only [Trie.get_put, if_true, Option.getD_none], fun i hi => by simp at hi⟩⟩
    · refine ⟨Nat.le_refl _, fun i hi => ?_, fun k hk => ?_, ⟨fun i => ?_, fun k hk => ?_⟩⟩
      · simp only [Trie.get_put]; rw [if_neg (by have := h.low; omega)]; exact hlow i hi
      · simp only [Trie.get_put]; rw [if_neg (by have := h.glow; omega)]
      · simp only [Trie.get_put]; split
        · rfl
        · exact hwf.even i
      · simp only [Trie.get_put]; split
        · rfl
        · exact hwf.high k hk
    · simp only [Trie.get_put]; rw [if_neg hj, hk j hj fun b' hb' c => by rw [hb] at hb'; cases hb'; exact hne c]; exact hb
    · simp only [Trie.get_put]; rw [if_neg hk]
end
end Go.Ev
set_option linter.unusedVariables false
set_option linter.unusedSimpArgs false
namespace Go.Ev
/-! ### What the steps of a walk are told by -/
attribute [simp] evalA evalL evalPs evalO Trie.get_put ofVal ofVal1 ofVals binA intA stringA unA lenOfA loadA partA indexA indexAddrA sliceA cutA optInt lookupA keyOk entriesA findA sameKey argsA isConstO undefA AV.cells AV.one
attribute [simp] alloc_get alloc_next alloc_grps isSrc floatA chainA storeA mapSetA setA lenA firstA minA maxA resA oneOf
/-- A field: its type, its first cell, its cells. -/
def fldA (P : Program) (t : TypeId) (i : Nat) : Option (TypeId × Nat × Nat) := (fieldsA P t).bind fun fs => (fs[i]?).bind fun f => (sizeA P f.type).bind fun n => some (f.type, f.offset, n)
section
variable (P : Program) (σ : Trie AV) (st : St)
@[simp] theorem q_move (x : Operand) : quietA P σ st (.move x) = evalA P σ x := rfl
@[simp] theorem q_assign (x : Operand) : quietA P σ st (.assign x) = evalA P σ x := rfl
@[simp] theorem q_pick (c a b : Operand) : quietA P σ st (.pick c a b) = (evalA P σ c).bind fun t => match t with
    | .bool true => evalA P σ a
    | .bool false => evalA P σ b
    | _ => none := rfl
@[simp] theorem q_build (t : TypeId) (ps : Array (Nat × Operand)) : quietA P σ st (.build t ps) = (evalPs P σ ps.toList).bind fun vs => buildA P t vs := rfl
@[simp] theorem q_load (t : TypeId) (a : Operand) : quietA P σ st (.load t a) = (evalA P σ a).bind fun a => loadA P st t a := rfl
@[simp] theorem q_nilCheck (x : Operand) : quietA P σ st (.nilCheck x) = (evalA P σ x).bind fun v => match v with
    | .ptr (some a) => some (.ptr (some a))
    | .func (.func f) a b => some (.func (.func f) a b)
    | _ => none := rfl
@[simp] theorem q_binOp (op : BinOp) (t : TypeId) (x y : Operand) (u : TypeId) : quietA P σ st (.binOp op t x y u) = (evalA P σ x).bind fun a => (evalA P σ y).bind fun b => binA P st op t (isConstO x || isConstO y) a b := rfl
@[simp] theorem q_unOp (op : UnOp) (t : TypeId) (x : Operand) : quietA P σ st (.unOp op t x) = (evalA P σ x).bind fun a => unA op a := rfl
@[simp] theorem q_convert (s d : TypeId) (x : Operand) : quietA P σ st (.convert s d x) = (evalA P σ x).bind fun a => convA P st s d a := rfl
@[simp] theorem q_iface (t : TypeId) (x : Operand) : quietA P σ st (.makeInterface t x) = (evalA P σ x).bind fun a => match P.underlying t with
    | some (.interface _) => none
    | some _ => some (.iface t a)
    | none => none := rfl
@[simp] theorem q_func (f : Fn) (a b : Array Operand) : quietA P σ st (.makeFunc f a b) = (evalL P σ a.toList).bind fun x => (evalL P σ b.toList).bind fun y => some (.func f x y) := rfl
@[simp] theorem q_slice (t : TypeId) (x : Operand) (lo hi mx : Option Operand) : quietA P σ st (.slice t x lo hi mx) = (evalA P σ x).bind fun v => (evalO P σ lo).bind fun l => (evalO P σ hi).bind fun h => (evalO P σ mx).bind fun m =>
    (optInt l).bind fun l => (optInt h).bind fun h => (optInt m).bind fun m => sliceA P st t v l h m := rfl
@[simp] theorem q_fieldAddr (t : TypeId) (x : Operand) (i : Nat) : quietA P σ st (.fieldAddr t x i) = (evalA P σ x).bind fun v => (fldA P t i).bind fun r => match v with
    | .ptr (some (id, off)) => if r.2.2 = 0 then none else some (.ptr (some (id, off + r.2.1)))
    | _ => none := by
  simp only [quietA, fldA, Option.bind_assoc, Option.bind_some]
  rfl
@[simp] theorem q_field (t : TypeId) (x : Operand) (i : Nat) (n : Nat) (u : TypeId) (m : Nat) (h : fldA P t i = some (u, n, m)) : quietA P σ st (.field t x i) = (evalA P σ x).bind fun v => match v with
    | .agg cs => partA P u cs n
    | _ => none := by
  simp only [fldA, Option.bind_eq_some_iff, Option.some.injEq, Prod.mk.injEq] at h
  obtain ⟨fs, h1, f, h2, k, h3, h4, h5, h6⟩ := h
  simp only [quietA, h1, h2, Option.bind_some, h4, h5]
  rfl
@[simp] theorem q_indexAddr (t : TypeId) (x i : Operand) : quietA P σ st (.indexAddr t x i) = (evalA P σ x).bind fun a => (evalA P σ i).bind fun b => indexAddrA P t a b := rfl
@[simp] theorem q_index (t : TypeId) (x i : Operand) : quietA P σ st (.index t x i) = (evalA P σ x).bind fun a => (evalA P σ i).bind fun b => indexA P t a b := rfl
@[simp] theorem q_lookup (t : TypeId) (x k : Operand) (ok : Bool) : quietA P σ st (.lookup t x k ok) = (evalA P σ x).bind fun a => (evalA P σ k).bind fun b => lookupA P st t a b ok := rfl
@[simp] theorem q_extract (t : Operand) (i : Nat) : quietA P σ st (.extract t i) = (evalA P σ t).bind fun v => match v with
    | .tuple vs => vs[i]?
    | _ => none := rfl
@[simp] theorem q_assert (x : Operand) (u t : TypeId) (ok : Bool) : quietA P σ st (.typeAssert x u t ok) = (evalA P σ x).bind fun v => match P.underlying t, v with
    | some (.interface _), _ => none
    | some _, .iface u v => if u = t then some (if ok then .tuple [v, .bool true] else v) else none
    | _, _ => none := rfl
@[simp] theorem q_len (x : Operand) (t : TypeId) : quietA P σ st (.call { callee := .builtin .len, args := #[x], argTypes := #[t] }) = (evalA P σ x).bind fun v => lenOfA P st t v := by
  simp only [quietA, evalL]
  cases evalA P σ x <;> rfl
end
/-- A block's cells. -/
def ABlk.cells? : ABlk → Option (List AV)
  | .cells cs _ _ => some cs
  | .ro cs => some cs
  | _ => none
@[simp] theorem ABlk.cells?_cells (cs : List AV) (e g : Nat) : (ABlk.cells cs e g).cells? = some cs := rfl
@[simp] theorem ABlk.cells?_ro (cs : List AV) : (ABlk.ro cs).cells? = some cs := rfl
theorem cellsAt_eq (st : St) (i : Nat) : st.cellsAt i = (st.heap.get i).bind ABlk.cells? := by
  unfold St.cellsAt
  cases h : st.heap.get i with
  | none => rfl
  | some b => cases b <;> rfl
@[simp] theorem cellsAt_alloc (st : St) (b : ABlk) (i : Nat) : (st.alloc b).cellsAt i = if i = st.next then b.cells? else st.cellsAt i := by
  rw [cellsAt_eq, alloc_get]
  split
  · rfl
  · rw [cellsAt_eq]
@[simp] theorem cellsAt_put (h : Trie ABlk) (g : Trie (List Id)) (n i j : Nat) (b : Option ABlk) : ({ heap := h.put i b, grps := g, next := n } : St).cellsAt j = if j = i then b.bind ABlk.cells? else ({ heap := h, grps := g, next := n } : St).cellsAt j := by
  rw [cellsAt_eq, cellsAt_eq]
  simp only [Trie.get_put]
  split <;> rfl
@[simp] theorem cellsAt_eta (st : St) (g : Trie (List Id)) (n j : Nat) : ({ heap := st.heap, grps := g, next := n } : St).cellsAt j = st.cellsAt j := by rw [cellsAt_eq, cellsAt_eq]
@[simp] theorem cellsAt_eta' (st : St) (b : ABlk) (g : Trie (List Id)) (n j : Nat) : ({ heap := (st.alloc b).heap, grps := g, next := n } : St).cellsAt j = (st.alloc b).cellsAt j := by rw [cellsAt_eq, cellsAt_eq]
theorem cellsAt_of {st : St} {i : Nat} {cs : List AV} {e g : Nat} (h : st.heap.get i = some (.cells cs e g)) : st.cellsAt i = some cs := by rw [cellsAt_eq, h]; rfl
theorem Ext.cells {B : Nat} {st st' : St} (h : Ext B st st') {i : Nat} (hi : i < B) : st'.cellsAt i = st.cellsAt i := by rw [cellsAt_eq, cellsAt_eq, h.heap i hi]
theorem decT {p : Prop} [Decidable p] (h : p) : decide p = true := decide_eq_true h
theorem decF {p : Prop} [Decidable p] (h : ¬ p) : decide p = false := decide_eq_false h
theorem bneT {a b : Int} (h : a ≠ b) : (a != b) = true := by simpa using h
theorem bneF {a b : Int} (h : a = b) : (a != b) = false := by simpa using h
theorem beqT {a b : Int} (h : a = b) : (a == b) = true := by simpa using h
theorem beqF {a b : Int} (h : a ≠ b) : (a == b) = false := by simpa using h
theorem wanted_none {σ : Trie AV} {ops : Array Oper} {o : Oper} (h : o.guard = none) : wantedA σ ops o = some true := by simp only [wantedA, h]
theorem wanted_on {σ : Trie AV} {ops : Array Oper} {o : Oper} {j d : Nat} {want : Bool} (h : o.guard = some (j, want)) (hd : (ops.toList[j]?).bind (·.dst) = some d) (hv : σ.get d = some (.bool want)) : wantedA σ ops o = some true := by
  rw [Array.getElem?_toList] at hd
  simp only [wantedA, h, hd, hv, Option.bind_some, beq_self_eq_true]
theorem wanted_off {σ : Trie AV} {ops : Array Oper} {o : Oper} {j d : Nat} {want : Bool} (h : o.guard = some (j, want)) (hd : (ops.toList[j]?).bind (·.dst) = some d) (hv : σ.get d = some (.bool (!want))) : wantedA σ ops o = some false := by
  rw [Array.getElem?_toList] at hd
  simp only [wantedA, h, hd, hv, Option.bind_some]
  cases want <;> rfl
theorem wanted_undef {σ : Trie AV} {ops : Array Oper} {o : Oper} {j d : Nat} {want : Bool} (h : o.guard = some (j, want)) (hd : (ops.toList[j]?).bind (·.dst) = some d) (hv : σ.get d = some (.tuple [])) : wantedA σ ops o = some false := by
  rw [Array.getElem?_toList] at hd
  simp only [wantedA, h, hd, hv, Option.bind_some]
section
variable {E : Env} {ops : Array Oper} {o : Oper} {l : List Oper} {σ : Trie AV} {n d : Nat} {ds : List (AV × List AV)} {st st' : St} {K : Ex → Fr → St → Prop} {v : AV}
/-- A row of a call's own is appended to. -/
theorem OW.append {B : Nat} {e : TypeId} {sz : Nat} {a b : Operand} {t u : TypeId} {v x : AV} {k m : Nat} {cs new : List AV} (ho : o.dst = some d) (hd : Nat.blt d n = true) (hw : wantedA σ ops o = some true)
    (hop : o.op = .call { callee := .builtin .append, args := #[a, b], argTypes := #[t, u] }) (ha : evalA E.P σ a = some v) (hb : evalA E.P σ b = some x) (hu : isSrc E.P u = true) (he : elemA E.P t = some e) (hrow : rowA E.P e = some sz) (hlen : lenA x = some m) (hf : firstA st sz m x = some new)
    (h : Own B st e v k cs) (hwf : WF st) (hB : B ≤ st.next) (h1 : new.all AV.one = true) (hbd : k + m ≤ 2 ^ 24) (hcs : cs.length = k * sz) (hm : 0 < m) (hnew : new.length = m * sz) (hsz : 0 < sz)
    (hk : ∀ st' id g, OwnAt B st' e g id (cs ++ new) → Ext B st st' → st'.next = st.next + 1 → id = st.next → (∀ i, i ≠ st.next → st'.heap.get i = st.heap.get i) → (∀ k, k ≠ g → st'.grps.get k = st.grps.get k) →
      ((k = 0 ∧ v = .slice none 0 (some 0) ∧ g = 2 * st.next + 1) ∨ ∃ i, v = .slice (some (i, 0)) k none ∧ OwnAt B st e g i cs) → OW E ops l { tmps := σ.put d (some (.slice (some (id, 0)) (k + m) none)), n := n, defers := ds } st' K) : OW E ops (o :: l) { tmps := σ, n := n, defers := ds } st K := by
  obtain ⟨st', id, g, h2, h3, h4, h5, h6, h7, h8, h9⟩ := append_own h he hrow hlen hf h1 hbd hcs hm hnew hsz hwf hB
  refine OW.chain (st' := st') ho hd hw ?_ ?_ ?_ (hk st' id g h3 h4 h5 h6 h7 h8 h9)
  · rw [hop]; rfl
  · rw [hop]; rfl
  · intro call
    rw [hop]
    simp only [chainA, evalL, ha, hb, hu, h2, Option.bind_some, if_true]
/-- A store into a block that shares no memory. -/
theorem OW.store {a x : Operand} {t : TypeId} {id off g : Nat} {e : TypeId} {cs cs' : List AV} (ho : o.dst = none) (hw : wantedA σ ops o = some true) (hop : o.op = .store t a x) (ha : evalA E.P σ a = some (.ptr (some (id, off)))) (hx : evalA E.P σ x = some v)
    (hsz : sizeA E.P t = some v.cells.length) (h1 : v.cells.all AV.one = true) (hb : st.heap.get id = some (.cells cs e g)) (hg : st.grps.get g = none) (hwr : writeN cs off v.cells = some cs')
    (hk : OW E ops l { tmps := σ, n := n, defers := ds } { heap := st.heap.put id (some (.cells cs' e g)), grps := st.grps, next := st.next } K) : OW E ops (o :: l) { tmps := σ, n := n, defers := ds } st K := by
  refine OW.skip (st' := { heap := st.heap.put id (some (.cells cs' e g)), grps := st.grps, next := st.next }) ho hw ?_ ?_ ?_ hk
  · rw [hop]; rfl
  · rw [hop]; rfl
  · intro call
    rw [hop]
    simp only [chainA, ha, hx, storeA, hsz, if_true, St.write, hb, h1, hg, hwr, Option.bind_some]
end
theorem strA_bytesA (s : List UInt8) : strA (bytesA s) = some s := by
  induction s with
  | nil => rfl
  | cons b s ih =>
    simp only [bytesA, List.map_cons] at ih ⊢
    simp only [strA, ih, Option.bind_some, Int.toNat_natCast]
    simp
theorem bytesA_length (s : List UInt8) : (bytesA s).length = s.length := by simp [bytesA]
theorem bytesA_append (s t : List UInt8) : bytesA (s ++ t) = bytesA s ++ bytesA t := by simp [bytesA]
theorem takeN_all : ∀ l : List AV, takeN l.length l = some l
  | [] => rfl
  | a :: l => by simp only [List.length_cons, takeN, takeN_all l, Option.bind_some]
theorem readN_all {l : List AV} {n : Nat} (h : l.length = n) : readN l 0 n = some l := by
  subst h; simp only [readN, dropN, Option.bind_some, takeN_all]
theorem writeN_one : ∀ {cs : List AV} {k : Nat} {v : AV}, k < cs.length → writeN cs k [v] = some (cs.set k v)
  | [], k, v, h => by simp at h
  | c :: cs, 0, v, _ => by simp [writeN, overN]
  | c :: cs, k + 1, v, h => by
    simp only [writeN, writeN_one (cs := cs) (k := k) (v := v) (by simpa using h), Option.bind_some, List.set_cons_succ]
/-! ### Rows that are read -/
/-- So many elements of so many cells stand where a slice begins. -/
def Row (st : St) (sz : Nat) (v : AV) (n : Nat) (cs : List AV) : Prop :=
  cs.length = n * sz ∧ ((n = 0 ∧ ∃ a c, v = .slice a 0 c) ∨ ∃ (id off : Nat) (c : Option Nat) (all : List AV), v = .slice (some (id, off)) n c ∧ id < st.next ∧ st.cellsAt id = some all ∧ ∀ j, j < cs.length → all[off + j]? = cs[j]?)
theorem Row.ext {st st' : St} {sz n : Nat} {v : AV} {cs : List AV} (h : Row st sz v n cs) (k : Ext st.next st st') : Row st' sz v n cs := by
  obtain ⟨h1, h2⟩ := h
  refine ⟨h1, ?_⟩
  rcases h2 with h2 | ⟨id, off, c, all, e, hlt, hc, hj⟩
  · exact .inl h2
  · exact .inr ⟨id, off, c, all, e, Nat.lt_of_lt_of_le hlt k.le, by rw [k.cells hlt]; exact hc, hj⟩
theorem Row.len {st : St} {sz n : Nat} {v : AV} {cs : List AV} (h : Row st sz v n cs) : ∃ a c, v = .slice a n c := by
  rcases h.2 with ⟨rfl, a, c, rfl⟩ | ⟨id, off, c, all, e, _⟩
  · exact ⟨a, c, rfl⟩
  · exact ⟨_, _, e⟩
theorem takeN_get : ∀ {n : Nat} {l r : List AV}, (∀ j, j < n → l[j]? = r[j]?) → r.length = n → takeN n l = some r
  | 0, l, r, _, h => by rw [List.eq_nil_of_length_eq_zero h]; rfl
  | n + 1, l, r, h, hl => by
    cases r with
    | nil => simp at hl
    | cons x r =>
      have h0 := h 0 (by omega)
      cases l with
      | nil => simp at h0
      | cons y l =>
        simp at h0; subst h0
        simp only [takeN, takeN_get (l := l) (r := r) (n := n) (fun j hj => by simpa using h (j + 1) (by omega)) (by simpa using hl), Option.bind_some]
theorem dropN_some : ∀ {n : Nat} {l : List AV}, n ≤ l.length → dropN n l = some (l.drop n)
  | 0, l, _ => rfl
  | n + 1, [], h => by simp at h
  | n + 1, _ :: l, h => by simp only [dropN, dropN_some (n := n) (l := l) (by simpa using h), List.drop_succ_cons]
theorem readN_get {all r : List AV} {o n : Nat} (h : ∀ j, j < n → all[o + j]? = r[j]?) (hr : r.length = n) (hn : 0 < n) : readN all o n = some r := by
  have h0 := h 0 hn
  have ho : o < all.length := by
    rw [List.getElem?_eq_getElem (by omega : 0 < r.length)] at h0
    exact (List.getElem?_eq_some_iff.1 h0).1
  simp only [readN, dropN_some (Nat.le_of_lt ho), Option.bind_some]
  exact takeN_get (fun j hj => by rw [List.getElem?_drop]; exact h j hj) hr
/-- Elements of so many cells each, one behind the other. -/
theorem flat_get {α : Type} {enc : α → List AV} {sz : Nat} (he : ∀ x, (enc x).length = sz) : ∀ {l : List α} {k j : Nat} (hk : k < l.length), j < sz → (l.flatMap enc)[k * sz + j]? = (enc l[k])[j]?
  | [], k, j, hk, _ => by simp at hk
  | x :: l, 0, j, hk, hj => by
    simp only [List.flatMap_cons, Nat.zero_mul, Nat.zero_add, List.getElem_cons_zero]
    rw [List.getElem?_append_left (by rw [he]; exact hj)]
  | x :: l, k + 1, j, hk, hj => by
    simp only [List.flatMap_cons, List.getElem_cons_succ]
    rw [List.getElem?_append_right (by rw [he, Nat.add_mul]; omega), he, show (k + 1) * sz + j - sz = k * sz + j by rw [Nat.add_mul]; omega]
    exact flat_get he (by simpa using hk) hj
theorem flat_length {α : Type} {enc : α → List AV} {sz : Nat} (he : ∀ x, (enc x).length = sz) : ∀ l : List α, (l.flatMap enc).length = l.length * sz
  | [] => by simp
  | x :: l => by simp only [List.flatMap_cons, List.length_append, he, flat_length he l, List.length_cons, Nat.add_mul]; omega
/-- An element of a row, read. -/
theorem Row.get {α : Type} {enc : α → List AV} {st : St} {sz n : Nat} {v : AV} {l : List α} (h : Row st sz v n (l.flatMap enc)) (he : ∀ x, (enc x).length = sz) (hsz : 0 < sz) {k : Nat} (hk : k < l.length) :
    ∃ (id off : Nat) (c : Option Nat) (all : List AV), v = .slice (some (id, off)) l.length c ∧ id < st.next ∧ st.cellsAt id = some all ∧ readN all (off + k * sz) sz = some (enc l[k]) ∧ ∀ j, j < sz → all[off + k * sz + j]? = (enc l[k])[j]? := by
  obtain ⟨h1, h2⟩ := h
  rw [flat_length he] at h1
  have hn : l.length = n := Nat.eq_of_mul_eq_mul_right hsz h1
  rcases h2 with ⟨h0, _⟩ | ⟨id, off, c, all, e, hlt, hc, hj⟩
  · omega
  · have key : ∀ j, j < sz → all[off + k * sz + j]? = (enc l[k])[j]? := fun j hj' => by
      have hb : k * sz + j < l.length * sz := by
        have := Nat.mul_le_mul_right sz (show k + 1 ≤ l.length from hk)
        rw [Nat.add_mul] at this; omega
      rw [Nat.add_assoc, hj _ (by rw [flat_length he]; exact hb), flat_get he hk hj']
    exact ⟨id, off, c, all, by rw [hn]; exact e, hlt, hc, readN_get key (he _) hsz, key⟩
theorem Own.len {B : Nat} {st : St} {e n : Nat} {v : AV} {cs : List AV} (h : Own B st e v n cs) : ∃ a c, v = .slice a n c := by
  rcases h with ⟨rfl, h1, rfl⟩ | ⟨id, g, rfl, h2⟩
  · exact ⟨_, _, rfl⟩
  · exact ⟨_, _, rfl⟩
/-- A row of a call's own, read. -/
theorem Own.row {B : Nat} {st : St} {e sz n : Nat} {v : AV} {cs : List AV} (h : Own B st e v n cs) (hl : cs.length = n * sz) : Row st sz v n cs := by
  refine ⟨hl, ?_⟩
  rcases h with ⟨rfl, h1, rfl⟩ | ⟨id, g, rfl, h2⟩
  · exact .inl ⟨rfl, _, _, rfl⟩
  · exact .inr ⟨id, 0, none, cs, rfl, h2.lt, cellsAt_of h2.at_, fun j hj => by rw [Nat.zero_add]⟩
/-- A row of bytes of a call's own, as a text. -/
theorem convA_own {P : Program} {st : St} {B n : Nat} {a b e : TypeId} {v : AV} {bs : List UInt8} (ha : P.underlying a = some (.slice e)) (hb : P.underlying b = some .string) (he : isByte P e = true) (h : Own B st e v n (bytesA bs)) (hn : n = bs.length) : convA P st a b v = some (.str bs) := by
  rcases h with ⟨rfl, h1, rfl⟩ | ⟨id, g, rfl, h2⟩
  · have : bs = [] := by simpa [bytesA] using h1
    subst this
    simp [convA, ha, hb, he]
  · simp only [convA, ha, hb, he, if_true, St.cellsAt, h2.at_, Option.bind_some, readN_all ((bytesA_length bs).trans hn.symm), strA_bytesA, reduceCtorEq, if_false]
end Go.Ev
set_option linter.unusedVariables false
set_option linter.unusedSimpArgs false
namespace Go.Ev
/-! ### Regions whose order is open, walked -/
mutual
theorem eqAV_refl : ∀ v : AV, eqAV v v = true
  | .bool _ => by simp [eqAV]
  | .int _ _ => by simp [eqAV]
  | .str _ => by simp [eqAV]
  | .ptr _ => by simp [eqAV]
  | .slice _ _ _ => by simp [eqAV]
  | .map _ => by simp [eqAV]
  | .func _ a b => by simp [eqAV, eqAVs_refl a, eqAVs_refl b]
  | .nilFunc => rfl
  | .iface _ v => by simp [eqAV, eqAV_refl v]
  | .nilIface => rfl
  | .agg a => by simp [eqAV, eqAVs_refl a]
  | .tuple a => by simp [eqAV, eqAVs_refl a]
  | .junk => rfl
theorem eqAVs_refl : ∀ l : List AV, eqAVs l l = true
  | [] => rfl
  | a :: l => by simp [eqAVs, eqAV_refl a, eqAVs_refl l]
end
/-- What there was at the start is there. -/
structure Agree (s0 s : St) : Prop where
  le : s0.next ≤ s.next
  heap : ∀ i, i < s0.next → s.heap.get i = s0.heap.get i
theorem Agree.refl (s : St) : Agree s s := ⟨Nat.le_refl _, fun _ _ => rfl⟩
theorem Ext.agree {s t : St} (h : Ext s.next s t) : Agree s t := ⟨h.le, h.heap⟩
theorem Agree.trans {s t u : St} (h : Agree s t) (k : Agree t u) : Agree s u := ⟨Nat.le_trans h.le k.le, fun i hi => (k.heap i (Nat.lt_of_lt_of_le hi h.le)).trans (h.heap i hi)⟩
theorem Agree.cells {s0 s : St} (h : Agree s0 s) {i : Nat} (hi : i < s0.next) : s.cellsAt i = s0.cellsAt i := by rw [cellsAt_eq, cellsAt_eq, h.heap i hi]
section
variable {E : Env} {ops : Array Oper} {b : Array Nat} {st0 st st' : St} {A : List Rc} {i n d : Nat} {is : List Nat} {o : Oper} {σ : Trie AV} {ds : List (AV × List AV)} {K : Ex → Fr → St → Prop} {v : AV}
theorem addFl_agree {P : Program} {m : Nat} {s0 s : St} (h : Agree s0 s) : ∀ A : List Rc, ∀ i, i < s0.next → (addFl P m s A).get i = s0.heap.get i
  | [], i, hi => h.heap i hi
  | x :: A, i, hi => by
    unfold addFl
    split
    · rename_i hc
      simp only [Bool.and_eq_true, decide_eq_true_eq] at hc
      rw [Trie.get_put, if_neg (by have := hc.2; have := h.le; omega)]
      exact addFl_agree h A i hi
    · exact addFl_agree h A i hi
theorem seenAt_of {P : Program} {s0 s : St} {op : Op} {m : Nat} (hv : ∀ s, Agree s0 s → quietA P σ s op = some v) (h : Agree s0 s) (A : List Rc) : seenAt P σ op m v A s = true := by
  have := hv { heap := addFl P m s A, grps := s.grps, next := s.next } ⟨h.le, addFl_agree h A⟩
  simp only [seenAt, this, eqOpt, eqAV_refl]
theorem steadyA_of {P : Program} {s0 : St} {op : Op} {m : Nat} (hv : ∀ s, Agree s0 s → quietA P σ s op = some v) (A : List Rc) : ∀ B : List Rc, (∀ x ∈ B, Agree s0 x.st) → steadyA P σ op m v A s0 B = true
  | [], _ => seenAt_of hv (Agree.refl _) A
  | x :: B, h => by
    unfold steadyA
    split
    · simp only [seenAt_of hv (h x (by simp)) A, steadyA_of hv A B (fun y hy => h y (by simp [hy])), Bool.or_true, Bool.and_true]
    · exact steadyA_of hv A B fun y hy => h y (by simp [hy])
def DW (E : Env) (ops : Array Oper) (b : Array Nat) (st0 : St) (is : List Nat) (A : List Rc) (fr : Fr) (st : St) (K : Ex → Fr → St → Prop) : Prop :=
  (∀ x ∈ A, Agree st0 x.st) → Agree st0 st → ∃ n fr' s, drawA E (callOf (ev E n)) ops b st0 is A fr st = some (fr', s) ∧ K .normal fr' s
theorem XW.draw {j : Nat} {fr : Fr} (hok : okRegion E.P ops = true) (hord : orderA E.P ops = is) (h : ∀ b, DW E ops b st is [] fr st K) : XW E (.region j ops true) fr st K := by
  obtain ⟨n, fr', s, h1, h2⟩ := h (Region.before ops) (by simp) (Agree.refl _)
  exact XW.step ⟨n, .normal, fr', s, by simp only [evStep, hok, hord, h1, Option.bind_some, if_true], h2⟩
theorem DW.nil {fr : Fr} (h : K .normal fr st) : DW E ops b st0 [] A fr st K := fun _ _ => ⟨0, fr, st, rfl, h⟩
theorem DW.off (hi : ops[i]? = some o) (ho : o.dst = some d) (hd : Nat.blt d n = true) (hw : wantedA σ ops o = some false) (h : ∀ r, DW E ops b st0 is (r :: A) { tmps := σ.put d (some undefA), n := n, defers := ds } st K) : DW E ops b st0 (i :: is) A { tmps := σ, n := n, defers := ds } st K := fun hA hs => by
  obtain ⟨m, fr', s, h1, h2⟩ := h ⟨i, o, false, undefA, st, .ro [], st⟩ (by simp; exact ⟨hs, hA⟩) hs
  refine ⟨m, fr', s, ?_, h2⟩
  simp only [drawA, hi, stepA, hw, if_true, Fr.put_lt ho hd, Option.bind_some, h1]
theorem DW.quiet (hi : ops[i]? = some o) (ho : o.dst = some d) (hd : Nat.blt d n = true) (hw : wantedA σ ops o = some true) (hq : isQuiet E.P o.op = true) (hv : ∀ s, Agree st0 s → quietA E.P σ s o.op = some v) (h : ∀ r, DW E ops b st0 is (r :: A) { tmps := σ.put d (some v), n := n, defers := ds } st K) : DW E ops b st0 (i :: is) A { tmps := σ, n := n, defers := ds } st K := fun hA hs => by
  obtain ⟨m, fr', s, h1, h2⟩ := h ⟨i, o, true, v, st, .ro [], st⟩ (by simp; exact ⟨hs, hA⟩) hs
  refine ⟨m, fr', s, ?_, h2⟩
  simp only [drawA, hi, stepA, hw, hq, hv st hs, steadyA_of hv A A hA, if_true, Fr.put_lt ho hd, Option.bind_some, h1, Bool.true_eq_false, if_false]
theorem DW.float {bl : ABlk} (hi : ops[i]? = some o) (ho : o.dst = some d) (hd : Nat.blt d n = true) (hw : wantedA σ ops o = some true) (hq : isQuiet E.P o.op = false) (hf : isFloat E.P o.op = true) (hv : floatA E.P σ st.next o.op = some (bl, v)) (hb : belowB st.next bl = true)
    (h : ∀ r, DW E ops b st0 is (r :: A) { tmps := σ.put d (some v), n := n, defers := ds } (st.alloc bl) K) : DW E ops b st0 (i :: is) A { tmps := σ, n := n, defers := ds } st K := fun hA hs => by
  have hs' : Agree st0 (st.alloc bl) := ⟨Nat.le_succ_of_le hs.le, fun i hi => by rw [alloc_get, if_neg (by have := hs.le; omega)]; exact hs.heap i hi⟩
  obtain ⟨m, fr', s, h1, h2⟩ := h ⟨i, o, true, v, st, bl, st.alloc bl⟩ (by simp; exact ⟨hs', hA⟩) hs'
  refine ⟨m, fr', s, ?_, h2⟩
  simp only [drawA, hi, stepA, hw, hq, hf, hv, hb, if_true, Fr.put_lt ho hd, Option.bind_some, h1, Bool.true_eq_false, Bool.false_eq_true, if_false]
/-- A call that adds to what there is. -/
def dcallK (E : Env) (ops : Array Oper) (b : Array Nat) (st0 : St) (is : List Nat) (A : List Rc) (st : St) (dst : Option Tmp) (fr : Fr) (K : Ex → Fr → St → Prop) : Out → St → Prop
  | .ret v, s => Agree st s ∧ ∃ fr', fr.put dst v = some fr' ∧ ∀ r, DW E ops b st0 is (r :: A) fr' s K
  | .pan _, _ => False
theorem dcallK_ret (ho : o.dst = some d) (hd : Nat.blt d n = true) (hs : Agree st st') (h : ∀ r, DW E ops b st0 is (r :: A) { tmps := σ.put d (some v), n := n, defers := ds } st' K) : dcallK E ops b st0 is A st o.dst { tmps := σ, n := n, defers := ds } K (.ret v) st' := ⟨hs, _, Fr.put_lt ho hd, h⟩
theorem evalL_below {P : Program} {σ : Trie AV} {m : Nat} : ∀ {l : List Operand} {vs : List AV}, evalL P σ l = some vs → belows m vs = true → ∀ x ∈ l, ∀ v, evalA P σ x = some v → below m v = true
  | [], vs, _, _, x, hx => by simp at hx
  | y :: l, vs, h, hb, x, hx => by
    simp only [evalL, Option.bind_eq_some_iff, Option.some.injEq] at h
    obtain ⟨u, hu, us, hus, rfl⟩ := h
    simp only [belows, Bool.and_eq_true] at hb
    intro v hv
    rcases List.mem_cons.1 hx with rfl | hx
    · rw [hu] at hv; cases hv; exact hb.1
    · exact evalL_below hus hb.2 x hx v hv
theorem DW.callF {args : Array Operand} {tys : Array TypeId} {g : FuncId} {xs : List AV} {fr : Fr} (hi : ops[i]? = some o) (ho : o.op = .call { callee := .value (.func g), args := args, argTypes := tys }) (hw : wantedA fr.tmps ops o = some true) (ha : evalL E.P fr.tmps args.toList = some xs) (hb : hasBody E.P g = true)
    (hbl : belows st.next xs = true)
    (h : CW E g xs st (dcallK E ops b st0 is A st o.dst fr K)) : DW E ops b st0 (i :: is) A fr st K := fun hA hs => by
  unfold CW at h
  obtain ⟨m, out, s, h1, h2⟩ := h
  have hbel : o.op.operands.toList.all (fun x => match evalA E.P fr.tmps x with | some v => below st.next v | none => true) = true := by
    rw [ho, List.all_eq_true]
    intro x hx
    simp only [Op.operands, Call.operands, Array.toList_append, List.mem_append] at hx
    rcases hx with hx | hx
    · have : x = .func g := by simpa using hx
      subst this; rfl
    · cases hv : evalA E.P fr.tmps x with
      | none => rfl
      | some v => exact evalL_below ha hbl x hx v hv
  have hq : isQuiet E.P o.op = false := by rw [ho]; rfl
  have hf : isFloat E.P o.op = false := by rw [ho]; rfl
  obtain ⟨fn, hfn, hbody⟩ : ∃ fn, E.P.funcs[g]? = some fn ∧ fn.body.isNone = false := by
    unfold hasBody at hb
    split at hb
    · rename_i fn hfn; exact ⟨fn, hfn, by cases h : fn.body <;> simp_all⟩
    · simp at hb
  cases out with
  | pan ch => exact h2.elim
  | ret v =>
    obtain ⟨hag, fr1, hp, h3⟩ := h2
    have hs' := hs.trans hag
    obtain ⟨k, fr', s', h4, h5⟩ := h3 ⟨i, o, true, v, st, .ro [], s⟩ (by simp; exact ⟨hs', hA⟩) hs'
    refine ⟨max m k, fr', s', ?_, h5⟩
    have hch : chainA E (callOf (ev E (max m k))) fr.tmps st o.op = some (.val v, s) := by
      rw [ho]
      have hz : evalA E.P fr.tmps (.func g) = some (.func (.func g) [] []) := rfl
      simp only [chainA, ha, hz, hfn, hbody, Option.bind_some, Bool.false_eq_true, if_false, callOf, List.nil_append, List.append_nil, ev_mono (Nat.le_max_left m k) _ _ _ h1]
    have h4' := drawA_mono (callOf_mono (ev_mono (Nat.le_max_right m k))) h4
    simp only [drawA, hi, stepA, hw, hq, hf, hch, hag.le, if_true, Option.bind_some, Bool.true_eq_false, Bool.false_eq_true, if_false]
    split
    · simp only [Option.bind_some, hp, h4']
    · rename_i hn; exact absurd hbel hn
end
attribute [irreducible] DW
attribute [simp] below belows belowB
end Go.Ev
set_option linter.unusedVariables false
set_option linter.unusedSimpArgs false
namespace Go.Ev
/-! ### A whole world, told -/
def Phi.below (N : Nat) : Phi := fun k => if k < N then some ⟨k, 0, 0, 0⟩ else none
theorem exRep (φ : Phi) : ∀ v : Value, ∃ x, Rep φ x v
  | .agg xs => by
    have h : ∀ l : List Value, (∀ v ∈ l, v ∈ xs.toList) → ∃ r, Reps φ r l := by
      intro l
      induction l with
      | nil => exact fun _ => ⟨[], Reps.nil'⟩
      | cons v l ih =>
        intro hl
        have hm : v ∈ xs := by simpa using hl v (by simp)
        obtain ⟨x, hx⟩ := exRep φ v
        obtain ⟨r, hr⟩ := ih fun u hu => hl u (by simp [hu])
        exact ⟨x :: r, Reps.cons' hx hr⟩
    obtain ⟨r, hr⟩ := h xs.toList fun v hv => hv
    exact ⟨.agg r, by simp only [Rep]; exact ⟨xs, rfl, hr⟩⟩
  | .tuple xs => by
    have h : ∀ l : List Value, (∀ v ∈ l, v ∈ xs.toList) → ∃ r, Reps φ r l := by
      intro l
      induction l with
      | nil => exact fun _ => ⟨[], Reps.nil'⟩
      | cons v l ih =>
        intro hl
        have hm : v ∈ xs := by simpa using hl v (by simp)
        obtain ⟨x, hx⟩ := exRep φ v
        obtain ⟨r, hr⟩ := ih fun u hu => hl u (by simp [hu])
        exact ⟨x :: r, Reps.cons' hx hr⟩
    obtain ⟨r, hr⟩ := h xs.toList fun v hv => hv
    exact ⟨.tuple r, by simp only [Rep]; exact ⟨xs, rfl, hr⟩⟩
  | .bool b => ⟨.bool b, by simp only [Rep]⟩
  | .int k n => ⟨.int k n, by simp only [Rep]⟩
  | .float .. | .string .. | .pointer .. | .slice .. | .map .. | .chan .. | .func .. | .nilFunc | .iface .. | .nilIface | .complex .. => ⟨.junk, by simp only [Rep, Value.oneCell']⟩
termination_by v => SizeOf.sizeOf v
decreasing_by
  all_goals (have := Array.sizeOf_lt_of_mem hm; simp; omega)
/-- A cell, told. -/
noncomputable def toAV1 (N : Nat) (v : Value) : AV :=
  match v with
  | .bool b => .bool b
  | .int k n => .int k n
  | .string s => .str s.data.toList
  | .pointer none => .ptr none
  | .pointer (some a) => if a.spot = none ∧ a.block < N then .ptr (some (a.block, a.off)) else .junk
  | .slice none n c => if n = 0 ∧ c = 0 then .slice none 0 (some 0) else .junk
  | .slice (some a) n c => if c = 0 ∧ n = 0 ∧ 0 < N then .slice (some (0, 0)) 0 (some 0) else if a.spot = none ∧ a.block < N ∧ n ≤ c then .slice (some (a.block, a.off)) n (some c) else .junk
  | .map none => .map none
  | .nilFunc => .nilFunc
  | .nilIface => .nilIface
  | v => Classical.choose (exRep (Phi.below N) v)
theorem toAV1_rep (N : Nat) (v : Value) : Rep (Phi.below N) (toAV1 N v) v := by
  unfold toAV1
  split
  · simp only [Rep]
  · simp only [Rep]
  · simp only [Rep]
  · simp only [Rep]
  · rename_i a
    split
    · rename_i h
      simp only [Rep]
      refine ⟨⟨a.block, 0, 0, 0⟩, by simp [Phi.below, h.2], ?_⟩
      obtain ⟨b, o, s⟩ := a
      simp at h
      simp [h.1]
    · simp only [Rep, Value.oneCell']
  · split
    · rename_i h
      obtain ⟨rfl, rfl⟩ := h
      simp only [Rep]
      exact ⟨trivial, trivial, trivial⟩
    · simp only [Rep, Value.oneCell']
  · rename_i a n c
    split
    · rename_i h
      obtain ⟨rfl, rfl, h0⟩ := h
      simp only [Rep]
      exact ⟨⟨0, 0, 0, 0⟩, a, by simp [Phi.below, h0], Nat.le_refl _, .inr trivial, rfl⟩
    split
    · rename_i h
      simp only [Rep]
      refine ⟨⟨a.block, 0, 0, 0⟩, a, by simp [Phi.below, h.2.1], h.2.2, .inl ?_, rfl⟩
      obtain ⟨b, o, s⟩ := a
      simp at h
      simp [h.1]
    · simp only [Rep, Value.oneCell']
  · simp only [Rep]
  · simp only [Rep]
  · simp only [Rep]
  · exact Classical.choose_spec (exRep (Phi.below N) v)
/-- A value, told. -/
noncomputable def toAV (N : Nat) (v : Value) : AV :=
  match v with
  | .agg xs => .agg (xs.toList.map (toAV1 N))
  | v => toAV1 N v
theorem toAVs_reps (N : Nat) : ∀ l : List Value, Reps (Phi.below N) (l.map (toAV1 N)) l
  | [] => Reps.nil'
  | v :: l => Reps.cons' (toAV1_rep N v) (toAVs_reps N l)
theorem toAV_rep (N : Nat) (v : Value) : Rep (Phi.below N) (toAV N v) v := by
  unfold toAV
  split
  · rename_i xs
    simp only [Rep]
    exact ⟨xs, rfl, toAVs_reps N xs.toList⟩
  · exact toAV1_rep N v
theorem toAV_reps (N : Nat) : ∀ l : List Value, Reps (Phi.below N) (l.map (toAV N)) l
  | [] => Reps.nil'
  | v :: l => Reps.cons' (toAV_rep N v) (toAV_reps N l)
noncomputable def roBlk (N : Nat) (w : World) (k : Nat) : Option ABlk :=
  match w.heap[k]? with
  | some (.cells C _ _) => some (.ro (C.toList.map (toAV1 N)))
  | _ => none
noncomputable def roHeap (N : Nat) (w : World) : Nat → Trie ABlk
  | 0 => .leaf
  | k + 1 => (roHeap N w k).put k (roBlk N w k)
theorem roHeap_get (N : Nat) (w : World) : ∀ n i, (roHeap N w n).get i = if i < n then roBlk N w i else none
  | 0, i => by simp [roHeap, Trie.get]
  | n + 1, i => by
    rw [roHeap, Trie.get_put, roHeap_get N w n i]
    by_cases h : i = n
    · subst h; rw [if_pos rfl, if_pos (Nat.lt_succ_self _)]
    · rw [if_neg h]
      by_cases h2 : i < n
      · rw [if_pos h2, if_pos (by omega)]
      · rw [if_neg h2, if_neg (by omega)]
/-- All that a world holds, to be read. -/
noncomputable def ofWorld (N : Nat) (w : World) : St := { heap := roHeap N w w.heap.size, grps := .leaf, next := N }
theorem ofWorld_get {N : Nat} {w : World} {k : Nat} {C : Array Value} {t : TypeId} {fz : Nat × Nat} (h : w.heap[k]? = some (.cells C t fz)) : (ofWorld N w).heap.get k = some (.ro (C.toList.map (toAV1 N))) := by
  have hk := (Array.getElem?_eq_some_iff.1 h).1
  simp only [ofWorld, roHeap_get, hk, if_true, roBlk, h]
theorem ofWorld_wf (N : Nat) (w : World) : WF (ofWorld N w) := ⟨fun i => by simp [ofWorld, Trie.get], fun g _ => by simp [ofWorld, Trie.get]⟩
theorem ofWorld_rel {P : Program} {N : Nat} {w : World} (hN : P.globals.size ≤ N) (hs : w.heap.size ≤ N) : Rel P (Froz.world w) (Phi.below N) (ofWorld N w) w := by
  have hget : ∀ i b, (ofWorld N w).heap.get i = some b → ∃ C t fz, w.heap[i]? = some (.cells C t fz) ∧ b = .ro (C.toList.map (toAV1 N)) := fun i b h => by
    simp only [ofWorld, roHeap_get] at h
    split at h
    · unfold roBlk at h
      split at h
      · rename_i C t fz hh; simp at h; exact ⟨C, t, fz, hh, h.symm⟩
      · simp at h
    · simp at h
  have nc : ∀ i c e g, (ofWorld N w).heap.get i ≠ some (.cells c e g) := fun i c e g h => by
    obtain ⟨_, _, _, _, h⟩ := hget _ _ h; cases h
  have ng : ∀ g, (ofWorld N w).grps.get g = none := fun g => by simp [ofWorld, Trie.get]
  refine ⟨⟨fun id b h => ?_, fun k hk => ⟨⟨k, 0, 0, 0⟩, by simp [Phi.below]; omega, rfl, rfl⟩, fun i j ci ei gi cj ej gj li lj _ h => absurd h (nc _ _ _ _)⟩, fun id hid => ?_, fun k hk => hk, fun i j ei ej li lj _ h => ?_, fun i j si pi sj pj li lj _ h => ?_, fun k l h => ?_, fun k l h => ?_⟩
  · obtain ⟨C, t, fz, hh, rfl⟩ := hget id b h
    have hlt := (Array.getElem?_eq_some_iff.1 hh).1
    have hid : id < N := by omega
    · refine ⟨⟨id, 0, 0, 0⟩, C, t, fz, by simp [Phi.below, hid], hlt, hh, fun i x hx => ?_⟩
      simp only [List.getElem?_map, Option.map_eq_some_iff] at hx
      obtain ⟨v, hv, rfl⟩ := hx
      exact ⟨v, by simpa using hv, toAV1_rep N v⟩
  · have hid2 : N ≤ id := hid
    simp [Phi.below, Nat.not_lt.2 hid2]
  · obtain ⟨_, _, _, _, h⟩ := hget _ _ h; cases h
  · obtain ⟨_, _, _, _, h⟩ := hget _ _ h; cases h
  · rw [ng] at h; cases h
  · rw [ng] at h; cases h
end Go.Ev
