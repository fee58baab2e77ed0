/- A way to run calls of the program on told values is shown to be sound; it holds for programs that follow mixed orders. -/
import Derived.Test.YtkbielcbkpglhaaGreatDoorE3
import Derived.Orders
import Derived.Recover
set_option linter.unusedVariables false
set_option linter.unusedSimpArgs false
namespace Go.Ev
/-! ### The evaluator's own order, step by step -/
section
variable (E : Env) (call : CallA) (ops : Array Oper) (b : Array Nat) (st0 : St)
def Runs : List Rc → Fr → St → List Rc → Fr → St → Prop
  | A, fr, st, [], fr', st' => fr' = fr ∧ st' = st
  | A, fr, st, r :: L, fr', st' => ops[r.i]? = some r.o ∧ stepA E call ops b st0 A r.i r.o fr st = some r ∧ ∃ fr1, fr.put r.o.dst r.v = some fr1 ∧ Runs (r :: A) fr1 r.st L fr' st'
end
section
variable {E : Env} {call : CallA} {ops : Array Oper} {b : Array Nat} {st0 : St}
/-- A record of a block made. -/
def flt (P : Program) (r : Rc) : Bool := isFloat P r.o.op && !isQuiet P r.o.op && r.on
structure StepOk (E : Env) (call : CallA) (ops : Array Oper) (b : Array Nat) (st0 : St) (A : List Rc) (r : Rc) (fr : Fr) (st : St) : Prop where
  pre : r.pre = st
  on : wantedA fr.tmps ops r.o = some r.on
  next : st.next ≤ r.st.next
  kind : (r.on = false ∧ r.v = undefA ∧ r.st = st) ∨
    (r.on = true ∧ isQuiet E.P r.o.op = true ∧ quietA E.P fr.tmps st r.o.op = some r.v ∧ steadyA E.P fr.tmps r.o.op (b.getD r.i 0) r.v A st0 A = true ∧ r.st = st) ∨
    (r.on = true ∧ isQuiet E.P r.o.op = false ∧ isFloat E.P r.o.op = true ∧ floatA E.P fr.tmps st.next r.o.op = some (r.blk, r.v) ∧ belowB st.next r.blk = true ∧ r.st = st.alloc r.blk) ∨
    (r.on = true ∧ isQuiet E.P r.o.op = false ∧ isFloat E.P r.o.op = false ∧ (∀ x ∈ r.o.op.operands, ∀ v, evalA E.P fr.tmps x = some v → below st.next v = true) ∧
      ∃ out, chainA E call fr.tmps st r.o.op = some (out, r.st) ∧ (out = .val r.v ∨ (out = .skip ∧ r.v = undefA)))
theorem stepA_spec {A : List Rc} {i : Nat} {o : Oper} {fr : Fr} {st : St} {r : Rc} (h : stepA E call ops b st0 A i o fr st = some r) : r.i = i ∧ r.o = o ∧ StepOk E call ops b st0 A r fr st := by
  simp only [stepA, Option.bind_eq_some_iff] at h
  obtain ⟨w, hw, h⟩ := h
  split at h
  · rename_i hw0
    simp only [Option.some.injEq] at h; subst h hw0
    exact ⟨rfl, rfl, rfl, hw, Nat.le_refl _, .inl ⟨rfl, rfl, rfl⟩⟩
  · rename_i hw0
    have hw1 : w = true := by cases w <;> simp at hw0 ⊢
    subst hw1
    split at h
    · rename_i hq
      simp only [Option.bind_eq_some_iff] at h
      obtain ⟨v, hv, h⟩ := h
      split at h <;> simp only [Option.some.injEq, reduceCtorEq] at h
      rename_i hs
      subst h
      exact ⟨rfl, rfl, rfl, hw, Nat.le_refl _, .inr (.inl ⟨rfl, hq, hv, hs, rfl⟩)⟩
    · rename_i hq
      have hq' : isQuiet E.P o.op = false := by simpa using hq
      split at h
      · rename_i hf
        simp only [Option.bind_eq_some_iff] at h
        obtain ⟨q, hv, h⟩ := h
        split at h <;> simp only [Option.some.injEq, reduceCtorEq] at h
        rename_i hs
        subst h
        exact ⟨rfl, rfl, rfl, hw, Nat.le_succ _, .inr (.inr (.inl ⟨rfl, hq', hf, hv, hs, rfl⟩))⟩
      · rename_i hf
        have hf' : isFloat E.P o.op = false := by simpa using hf
        split at h
        case isFalse => simp at h
        rename_i hb
        simp only [Option.bind_eq_some_iff] at h
        obtain ⟨⟨out, st1⟩, hv, h⟩ := h
        split at h
        case isFalse => simp at h
        rename_i hn
        have hb' : ∀ x ∈ o.op.operands, ∀ v, evalA E.P fr.tmps x = some v → below st.next v = true := fun x hx v hv => by
          rw [List.all_eq_true] at hb
          have := hb x (by simpa using hx)
          simpa [hv] using this
        split at h
        · rename_i v hout
          simp only [Option.some.injEq] at h; subst h
          simp only at hout; subst hout
          exact ⟨rfl, rfl, rfl, hw, hn, .inr (.inr (.inr ⟨rfl, hq', hf', hb', _, hv, .inl rfl⟩))⟩
        · rename_i hout
          simp only [Option.some.injEq] at h; subst h
          simp only at hout; subst hout
          exact ⟨rfl, rfl, rfl, hw, hn, .inr (.inr (.inr ⟨rfl, hq', hf', hb', _, hv, .inr ⟨rfl, rfl⟩⟩))⟩
        · simp at h
theorem drawA_runs : ∀ {is : List Nat} {A : List Rc} {fr fr' : Fr} {st st' : St}, drawA E call ops b st0 is A fr st = some (fr', st') → ∃ L : List Rc, L.map Rc.i = is ∧ Runs E call ops b st0 A fr st L fr' st'
  | [], A, fr, fr', st, st', h => by
    simp only [drawA, Option.some.injEq, Prod.mk.injEq] at h
    exact ⟨[], rfl, h.1.symm, h.2.symm⟩
  | i :: is, A, fr, fr', st, st', h => by
    simp only [drawA, Option.bind_eq_some_iff] at h
    obtain ⟨o, ho, r, hr, fr1, hp, h⟩ := h
    obtain ⟨rfl, rfl, _⟩ := stepA_spec hr
    obtain ⟨L, h1, h2⟩ := drawA_runs h
    exact ⟨r :: L, by simp [h1], ho, hr, fr1, hp, h2⟩
theorem Runs.split : ∀ {L1 L2 A : List Rc} {fr fr' : Fr} {st st' : St}, Runs E call ops b st0 A fr st (L1 ++ L2) fr' st' → ∃ fr1 st1, Runs E call ops b st0 A fr st L1 fr1 st1 ∧ Runs E call ops b st0 (L1.reverse ++ A) fr1 st1 L2 fr' st'
  | [], L2, A, fr, fr', st, st', h => ⟨fr, st, ⟨rfl, rfl⟩, h⟩
  | r :: L1, L2, A, fr, fr', st, st', ⟨h1, h2, fr1, h3, h4⟩ => by
    obtain ⟨fr2, st2, k1, k2⟩ := Runs.split h4
    exact ⟨fr2, st2, ⟨h1, h2, fr1, h3, k1⟩, by simpa using k2⟩
theorem Runs.join : ∀ {L1 L2 A : List Rc} {fr fr1 fr' : Fr} {st st1 st' : St}, Runs E call ops b st0 A fr st L1 fr1 st1 → Runs E call ops b st0 (L1.reverse ++ A) fr1 st1 L2 fr' st' → Runs E call ops b st0 A fr st (L1 ++ L2) fr' st'
  | [], L2, A, fr, fr1, fr', st, st1, st', ⟨h1, h2⟩, k => by subst h1 h2; exact k
  | r :: L1, L2, A, fr, fr1, fr', st, st1, st', ⟨h1, h2, fr2, h3, h4⟩, k => ⟨h1, h2, fr2, h3, h4.join (by simpa using k)⟩
theorem Runs.oper : ∀ {L A : List Rc} {fr fr' : Fr} {st st' : St}, Runs E call ops b st0 A fr st L fr' st' → ∀ r ∈ L, ops[r.i]? = some r.o
  | [], A, fr, fr', st, st', _, r, hr => by simp at hr
  | x :: L, A, fr, fr', st, st', ⟨h1, h2, fr1, h3, h4⟩, r, hr => by
    rcases List.mem_cons.1 hr with rfl | hr
    · exact h1
    · exact h4.oper r hr
theorem StepOk.flt_next {A : List Rc} {r : Rc} {fr : Fr} {st : St} (h : StepOk E call ops b st0 A r fr st) (hf : flt E.P r = true) : r.st = st.alloc r.blk ∧ r.st.next = r.pre.next + 1 ∧ belowB st.next r.blk = true ∧ r.on = true := by
  simp only [flt, Bool.and_eq_true, Bool.not_eq_true'] at hf
  obtain ⟨⟨hf, hq⟩, hon⟩ := hf
  rcases h.kind with ⟨h1, _⟩ | ⟨_, h1, _⟩ | ⟨_, _, _, _, h2, h1⟩ | ⟨_, _, h1, _⟩
  · rw [h1] at hon; simp at hon
  · rw [hq] at h1; simp at h1
  · exact ⟨h1, by rw [h1, h.pre]; rfl, h2, hon⟩
  · rw [hf] at h1; simp at h1
theorem Runs.next : ∀ {L A : List Rc} {fr fr' : Fr} {st st' : St}, Runs E call ops b st0 A fr st L fr' st' → st.next ≤ st'.next
  | [], A, fr, fr', st, st', ⟨h1, h2⟩ => by rw [h2]; exact Nat.le_refl _
  | x :: L, A, fr, fr', st, st', ⟨h1, h2, fr1, h3, h4⟩ => Nat.le_trans (stepA_spec h2).2.2.next h4.next
theorem Runs.nexts : ∀ {L A : List Rc} {fr fr' : Fr} {st st' : St}, Runs E call ops b st0 A fr st L fr' st' → ∀ r ∈ L, st.next ≤ r.pre.next ∧ r.st.next ≤ st'.next ∧ (flt E.P r = true → r.st.next = r.pre.next + 1)
  | [], A, fr, fr', st, st', _, r, hr => by simp at hr
  | x :: L, A, fr, fr', st, st', ⟨h1, h2, fr1, h3, h4⟩, r, hr => by
    have hs := (stepA_spec h2).2.2
    rcases List.mem_cons.1 hr with rfl | hr
    · exact ⟨by rw [hs.pre]; exact Nat.le_refl _, h4.next, fun hf => (hs.flt_next hf).2.1⟩
    · obtain ⟨k1, k2, k3⟩ := h4.nexts r hr
      exact ⟨Nat.le_trans hs.next k1, k2, k3⟩
theorem Runs.last {L A : List Rc} {fr fr' : Fr} {st st' : St} {r : Rc} (h : Runs E call ops b st0 A fr st (L ++ [r]) fr' st') : st' = r.st := by
  obtain ⟨fr1, st1, _, _, _, fr2, _, h4⟩ := h.split
  exact h4.2
theorem put_keeps {fr fr' : Fr} {dst : Option Tmp} {v : AV} (h : fr.put dst v = some fr') : fr'.n = fr.n ∧ fr'.defers = fr.defers ∧ ∀ t, fr'.tmps.get t = if dst = some t then some v else fr.tmps.get t := by
  unfold Fr.put at h
  split at h
  · simp only [Option.some.injEq] at h; subst h; simp
  · split at h <;> simp only [Option.some.injEq, reduceCtorEq] at h
    subst h
    refine ⟨rfl, rfl, fun t => ?_⟩
    simp only [Trie.get_put, Option.some.injEq]
    rename_i d _
    by_cases h : t = d
    · simp [h]
    · rw [if_neg h, if_neg (Ne.symm h)]
theorem Runs.frame : ∀ {L A : List Rc} {fr fr' : Fr} {st st' : St}, Runs E call ops b st0 A fr st L fr' st' → fr'.n = fr.n ∧ fr'.defers = fr.defers ∧
    ∀ t v, fr'.tmps.get t = some v → (∃ x ∈ L, x.o.dst = some t ∧ x.v = v) ∨ (fr.tmps.get t = some v ∧ ∀ x ∈ L, x.o.dst ≠ some t)
  | [], A, fr, fr', st, st', ⟨h1, h2⟩ => by subst h1; exact ⟨rfl, rfl, fun t v h => .inr ⟨h, by simp⟩⟩
  | x :: L, A, fr, fr', st, st', ⟨h1, h2, fr1, h3, h4⟩ => by
    obtain ⟨k1, k2, k3⟩ := h4.frame
    obtain ⟨p1, p2, p3⟩ := put_keeps h3
    refine ⟨k1.trans p1, k2.trans p2, fun t v h => ?_⟩
    rcases k3 t v h with ⟨y, hy, q1, q2⟩ | ⟨q1, q2⟩
    · exact .inl ⟨y, by simp [hy], q1, q2⟩
    · rw [p3] at q1
      split at q1
      · rename_i hd
        simp only [Option.some.injEq] at q1
        exact .inl ⟨x, by simp, hd, q1⟩
      · rename_i hd
        exact .inr ⟨q1, fun y hy => by rcases List.mem_cons.1 hy with rfl | hy; exact hd; exact q2 y hy⟩
/-- The state behind what has been. -/
def lastSt (st0 : St) : List Rc → St
  | [] => st0
  | x :: _ => x.st
/-- What holds behind every chain operation that may have been. -/
theorem steady_spec {P : Program} {σ : Trie AV} {o : Op} {m : Nat} {v : AV} {A : List Rc} {pre : List Rc} (hpre : pre = [] ∨ ∃ p r, pre = p ++ [r] ∧ isChain P r.o.op = true) :
    ∀ (M : List Rc), steadyA P σ o m v A st0 (M ++ pre.reverse) = true → (∀ x ∈ M, isChain P x.o.op = true → m.testBit x.i = false) → seenAt P σ o m v A (lastSt st0 pre.reverse) = true
  | [], h, _ => by
    rcases hpre with rfl | ⟨p, r, rfl, hc⟩
    · simpa [steadyA, lastSt] using h
    · simp only [lastSt, List.reverse_append, List.reverse_cons, List.reverse_nil, List.nil_append, List.singleton_append, steadyA, hc, if_true, Bool.and_eq_true] at h ⊢
      exact h.1
  | x :: M, h, hM => by
    simp only [List.cons_append, steadyA] at h
    refine steady_spec hpre M ?_ fun y hy => hM y (by simp [hy])
    split at h
    · rename_i hc
      simp only [Bool.and_eq_true, hM x (by simp) hc, Bool.false_or] at h
      exact h.2
    · exact h
theorem addFl_get {P : Program} {m : Nat} {s : St} : ∀ {A : List Rc} {id : Id} {c : ABlk}, (addFl P m s A).get id = some c → s.heap.get id = some c ∨ ∃ x ∈ A, flt P x = true ∧ m.testBit x.i = true ∧ s.next ≤ x.pre.next ∧ id = x.pre.next ∧ c = x.blk
  | [], id, c, h => .inl h
  | x :: A, id, c, h => by
    unfold addFl at h
    split at h
    · rename_i hc
      simp only [Bool.and_eq_true, decide_eq_true_eq, Bool.not_eq_true'] at hc
      rw [Trie.get_put] at h
      split at h
      · rename_i hid
        simp only [Option.some.injEq] at h
        exact .inr ⟨x, by simp, by simp [flt, hc], hc.1.2, hc.2, hid, h.symm⟩
      · rcases addFl_get h with h | ⟨y, hy, h⟩
        · exact .inl h
        · exact .inr ⟨y, by simp [hy], h⟩
    · rcases addFl_get h with h | ⟨y, hy, h⟩
      · exact .inl h
      · exact .inr ⟨y, by simp [hy], h⟩
/-- Whoever has been, all that comes ahead of it has been. -/
theorem closed_ahead {P : Program} (hW : Well P ops b) {d : Nat → Bool} (hc : ∀ i o, ops[i]? = some o → d i = true → ∀ e ∈ o.after, Region.binds .any e = true → d e.on = true) :
    ∀ (n i : Nat) (o : Oper) (j : Nat), i < n → ops[i]? = some o → (∀ e ∈ o.after, Region.binds .any e = true → d e.on = true) → (b.getD i 0).testBit j = true → d j = true
  | 0, i, o, j, h, _, _, _ => by omega
  | n + 1, i, o, j, hi, ho, he, hj => by
    obtain ⟨e, h1, h2, h3⟩ := hW.ahead ho hj
    rcases h3 with rfl | h3
    · exact he e h1 h2
    · have hlt := hW.less ho h1 h2
      have hsz := (Array.getElem?_eq_some_iff.1 ho).1
      have ho2 : ops[e.on]? = some ops[e.on] := Array.getElem?_eq_getElem (by omega)
      exact closed_ahead hW hc n e.on _ j (by omega) ho2 (hc _ _ ho2 (he e h1 h2)) h3
end
theorem NewOk.brel {P : Program} {F : Froz} {φ : Phi} {w : World} {l : Loc} {o : Obj} {b : ABlk} {id : Id} (hn : NewOk P φ l o b) (hl : φ id = some l) (hF : ¬ F l.blk) (ho : w.heap[l.blk]? = some o) : BRel P F φ w id b := by
  cases b with
  | cells cs e g =>
    obtain ⟨C, fz, rfl, h1, h2, h3, h4, h5, h6, h7⟩ := hn
    exact ⟨l, C, fz, hl, hF, ho, h1.symm, by omega, h4, fun i x hx => by obtain ⟨v, hv, hr⟩ := h5 i x hx; exact ⟨v, by rw [h2, Nat.zero_add]; exact hv, hr⟩, h6, h2, fun h => (h7 h).trans h1.symm⟩
  | ro cs => exact hn.elim
  | map es =>
    obtain ⟨rfl, rfl⟩ := hn
    exact ⟨l, #[], 0, hl, hF, ho, rfl⟩
  | iter s p =>
    obtain ⟨rfl, h0⟩ := hn
    exact ⟨l, hl, hF, ho, h0⟩
theorem Rel.heapEq {P : Program} {F : Froz} {φ : Phi} {st : St} {w w' : World} (hR : Rel P F φ st w) (h : w'.heap = w.heap) : Rel P F φ st w' :=
  ⟨⟨fun id b hb => (hR.blk id b hb).keep (Phi.le.refl _) fun l _ => by rw [h], hR.glob, hR.inj⟩, hR.fresh, fun k hk => by rw [h]; exact hR.low k hk, hR.maps, hR.iters, hR.ord, hR.born⟩
theorem Rel.base {P : Program} {F : Froz} {p : Nat → Prop} {φ : Phi} {st : St} {w : World} (hR : Rel P (F.with p) φ st w) : Rel P F φ st w :=
  ⟨⟨fun id b hb => (hR.blk id b hb).base, hR.glob, hR.inj⟩, hR.fresh, fun k hk => hR.low k (.inl hk), hR.maps, hR.iters, hR.ord, hR.born⟩
end Go.Ev
set_option linter.unusedVariables false
set_option linter.unusedSimpArgs false
namespace Go.Ev
/-! ### Whatever the order, the same comes of it -/
structure Ord (P : Program) (ops : Array Oper) (b : Array Nat) (L : List Rc) : Prop where
  all : ∀ j, j < ops.size → ∃ r ∈ L, r.i = j
  at' : ∀ A r C, L = A ++ r :: C → (∀ x ∈ A, x.i ≠ r.i) ∧ (∀ j, (b.getD r.i 0).testBit j = true → ∃ x ∈ A, x.i = j) ∧ (isChain P r.o.op = true → ∀ x ∈ A, (b.getD r.i 0).testBit x.i = true)
theorem ord_of {P : Program} {ops : Array Oper} {b : Array Nat} {L : List Rc} (h : okOrder P ops b (L.map Rc.i) 0 = true) (ho : ∀ r ∈ L, ops[r.i]? = some r.o) : Ord P ops b L := by
  obtain ⟨h1, h2⟩ := okOrder_spec h
  refine ⟨fun j hj => ?_, fun A r C e => ?_⟩
  · have := (h2 j).1 hj
    simpa using this
  · subst e
    obtain ⟨o, q1, ⟨_, q2⟩, q3, q4⟩ := h1 (A.map Rc.i) r.i (C.map Rc.i) (by simp)
    have hr := ho r (by simp)
    rw [hr] at q1; simp only [Option.some.injEq] at q1; subst q1
    refine ⟨fun x hx hxr => q2 (by rw [← hxr]; exact List.mem_map_of_mem hx), fun j hj => ?_, fun hc x hx => q4 hc _ (.inr (List.mem_map_of_mem hx))⟩
    rcases q3 j hj with h | h
    · simp at h
    · simpa using h
section
variable {P : Program} {F : Froz} {φ0 : Phi} {w0 : World} {E : Env} {call : CallA} {ops : Array Oper} {b : Array Nat} {fr0 : Fr} {st0 : St} {L : List Rc} {frF : Fr} {stF : St}
structure Inv (P : Program) (F : Froz) (φ0 : Phi) (w0 : World) (E : Env) (call : CallA) (ops : Array Oper) (b : Array Nat) (fr0 : Fr) (st0 : St) (L : List Rc) (frF : Fr) (stF : St)
    (d : Nat → Bool) (a : Act) (w : World) (φ : Phi) (pre suf : List Rc) (frT : Fr) (T : St) : Prop where
  split : L = pre ++ suf
  run1 : Runs E call ops b st0 [] fr0 st0 pre frT T
  run2 : Runs E call ops b st0 pre.reverse frT T suf frF stF
  last : pre = [] ∨ ∃ p r, pre = p ++ [r] ∧ isChain P r.o.op = true
  hpre : ∀ r ∈ pre, d r.i = true
  hsuf : ∀ r ∈ suf, isChain P r.o.op = true → d r.i = false
  rel : Rel P (F.with (Pend φ T.next)) (φ.cut T.next) T w
  pend : ∀ i l, T.next ≤ i → φ i = some l → ∃ r ∈ suf, d r.i = true ∧ flt P r = true ∧ r.pre.next = i
  off : ∀ k, Pend φ T.next k → ¬ F k
  done : ∀ r ∈ suf, d r.i = true → flt P r = true → ∃ l obj, φ r.pre.next = some l ∧ w.heap[l.blk]? = some obj ∧ NewOk P φ l obj r.blk
  dist : ∀ i j li lj, T.next ≤ i → T.next ≤ j → i ≠ j → φ i = some li → φ j = some lj → li.blk ≠ lj.blk
  le : φ0.le φ
  keep : Keep F w0 w
  size : a.tmps.size = fr0.n
  defs : RepDs φ fr0.defers a.defers
  wrote : ∀ r ∈ L, d r.i = true → ∀ t, r.o.dst = some t → ∃ u, a.tmps[t]? = some u ∧ Rep φ r.v u
  old : ∀ t v, fr0.tmps.get t = some v → (∀ r ∈ L, r.o.dst = some t → d r.i = false) → ∃ u, a.tmps[t]? = some u ∧ Rep φ v u
def InvE (P : Program) (F : Froz) (φ0 : Phi) (w0 : World) (E : Env) (call : CallA) (ops : Array Oper) (b : Array Nat) (fr0 : Fr) (st0 : St) (L : List Rc) (frF : Fr) (stF : St) (d : Nat → Bool) (a : Act) (w : World) : Prop :=
  ∃ φ pre suf frT T, Inv P F φ0 w0 E call ops b fr0 st0 L frF stF d a w φ pre suf frT T
/-- Blocks made ahead take their turns. -/
theorem moves (hE : E.P = P) {φ : Phi} {w : World} : ∀ {mid A : List Rc} {fr fr1 : Fr} {T B : St}, Runs E call ops b st0 A fr T mid fr1 B → (∀ r ∈ mid, isChain P r.o.op = false) →
    (∀ r ∈ mid, flt P r = true → ∃ l obj, φ r.pre.next = some l ∧ w.heap[l.blk]? = some obj ∧ NewOk P φ l obj r.blk) → (∀ k, Pend φ T.next k → ¬ F k) →
    (∀ i j li lj, T.next ≤ i → T.next ≤ j → i ≠ j → φ i = some li → φ j = some lj → li.blk ≠ lj.blk) → Rel P (F.with (Pend φ T.next)) (φ.cut T.next) T w → Rel P (F.with (Pend φ B.next)) (φ.cut B.next) B w
  | [], A, fr, fr1, T, B, ⟨h1, h2⟩, _, _, _, _, hR => by subst h2; exact hR
  | r :: mid, A, fr, fr1, T, B, ⟨h1, h2, fr2, h3, h4⟩, hch, hdone, hoff, hdist, hR => by
    have hs := (stepA_spec h2).2.2
    have hnext : T.next ≤ r.st.next := hs.next
    have hrel : Rel P (F.with (Pend φ r.st.next)) (φ.cut r.st.next) r.st w := by
      by_cases hf : flt P r = true
      · obtain ⟨k1, k2, k3, _⟩ := hs.flt_next (by rw [hE]; exact hf)
        obtain ⟨l, obj, q1, q2, q3⟩ := hdone r (by simp) hf
        rw [hs.pre] at q1 k2
        rw [k2, k1]
        exact hR.move q1 q2 q3 k3 hoff fun i l' hi hl' => hdist i T.next l' l (Nat.le_of_lt hi) (Nat.le_refl _) (Nat.ne_of_gt hi) hl' q1
      · have hst : r.st = T := by
          rcases hs.kind with ⟨_, _, h⟩ | ⟨_, _, _, _, h⟩ | ⟨e1, e2, e3, _⟩ | ⟨e1, e2, e3, _⟩
          · exact h
          · exact h
          · rw [hE] at e2 e3
            exact absurd (by simp [flt, e1, e2, e3]) hf
          · rw [hE] at e2 e3
            have := hch r (by simp)
            simp [isChain, e2, e3] at this
        rw [hst]; exact hR
    exact moves hE h4 (fun x hx => hch x (by simp [hx])) (fun x hx => hdone x (by simp [hx])) (fun k ⟨i, l, h1, h2⟩ => hoff k ⟨i, l, Nat.le_trans hnext h1, h2⟩)
      (fun i j li lj h1 h2 => hdist i j li lj (Nat.le_trans hnext h1) (Nat.le_trans hnext h2)) hrel
/-- All has been done. -/
theorem Inv.finish (hE : E.P = P) {d : Nat → Bool} {a : Act} {w : World} {φ : Phi} {pre suf : List Rc} {frT : Fr} {T : St} (h : Inv P F φ0 w0 E call ops b fr0 st0 L frF stF d a w φ pre suf frT T) (hd : ∀ r ∈ L, d r.i = true) :
    Rel P F φ stF w ∧ FrRel φ frF a := by
  have hrun : Runs E call ops b st0 [] fr0 st0 L frF stF := by rw [h.split]; exact h.run1.join (by simpa using h.run2)
  have hch : ∀ r ∈ suf, isChain P r.o.op = false := fun r hr => by
    cases hc : isChain P r.o.op with
    | false => rfl
    | true => have := h.hsuf r hr hc; rw [hd r (by rw [h.split]; simp [hr])] at this; simp at this
  have hm := moves hE h.run2 hch (fun r hr hf => h.done r hr (hd r (by rw [h.split]; simp [hr])) hf) h.off h.dist h.rel
  have hcut : φ.cut stF.next = φ := by
    funext i
    unfold Phi.cut
    split
    · rfl
    · rename_i hi
      cases hφ : φ i with
      | none => rfl
      | some l =>
        have hn := h.run2.next
        obtain ⟨r, hr, _, hf, hri⟩ := h.pend i l (Nat.le_trans hn (Nat.not_lt.1 hi)) hφ
        obtain ⟨_, k2, k3⟩ := h.run2.nexts r hr
        have := k3 (by rw [hE]; exact hf)
        have hge := Nat.not_lt.1 hi
        rw [← hri] at hge
        rw [this] at k2
        exact absurd k2 (Nat.not_le.2 (Nat.lt_succ_of_le hge))
  rw [hcut] at hm
  obtain ⟨q1, q2, q3⟩ := hrun.frame
  refine ⟨hm.base, by rw [q1]; exact h.size.symm, fun t v ht => ?_, by rw [q2]; exact h.defs⟩
  rcases q3 t v ht with ⟨x, hx, e1, rfl⟩ | ⟨e1, e2⟩
  · exact h.wrote x hx (hd x hx) t e1
  · exact h.old t v e1 fun r hr he => absurd he (e2 r hr)
/-- A value is put: what the frame tells. -/
theorem frame_put (hW : Well P ops b) (hops : ∀ r ∈ L, ops[r.i]? = some r.o) {d : Nat → Bool} {a : Act} {φ φ' : Phi} (hle : φ.le φ') {r : Rc} (hr : r ∈ L) {u : Value} (hu : Rep φ' r.v u) (hsz : a.tmps.size = fr0.n)
    (hfit : ∀ t, r.o.dst = some t → t < fr0.n) (hdefs : RepDs φ fr0.defers a.defers)
    (hwrote : ∀ r ∈ L, d r.i = true → ∀ t, r.o.dst = some t → ∃ u, a.tmps[t]? = some u ∧ Rep φ r.v u) (hold : ∀ t v, fr0.tmps.get t = some v → (∀ r ∈ L, r.o.dst = some t → d r.i = false) → ∃ u, a.tmps[t]? = some u ∧ Rep φ v u)
    (huniq : ∀ x ∈ L, x.i = r.i → x = r) :
    (a.put r.o.dst u).tmps.size = fr0.n ∧ RepDs φ' fr0.defers (a.put r.o.dst u).defers ∧
    (∀ x ∈ L, (d x.i || x.i == r.i) = true → ∀ t, x.o.dst = some t → ∃ v, (a.put r.o.dst u).tmps[t]? = some v ∧ Rep φ' x.v v) ∧
    (∀ t v, fr0.tmps.get t = some v → (∀ x ∈ L, x.o.dst = some t → (d x.i || x.i == r.i) = false) → ∃ u', (a.put r.o.dst u).tmps[t]? = some u' ∧ Rep φ' v u') := by
  have htm : ∀ t, t < fr0.n → (a.put r.o.dst u).tmps[t]? = if r.o.dst = some t then some u else a.tmps[t]? := fun t ht => by
    cases hd : r.o.dst with
    | none => simp [Act.put]
    | some e =>
      simp only [Act.put, Option.some.injEq]
      rw [Array.getElem?_setIfInBounds]
      by_cases he : e = t
      · subst he; simp [hsz, ht]
      · simp [he]
  refine ⟨?_, ?_, fun x hx hdx t ht => ?_, fun t v hv hno => ?_⟩
  · cases r.o.dst <;> simp [Act.put, hsz]
  · have : (a.put r.o.dst u).defers = a.defers := by cases r.o.dst <;> rfl
    rw [this]; exact hdefs.mono hle
  · by_cases hxr : x.i = r.i
    · obtain rfl := huniq x hx hxr
      exact ⟨u, by rw [htm t (hfit t ht), if_pos ht], hu⟩
    · have hdx' : d x.i = true := by simpa [hxr] using hdx
      obtain ⟨v, h1, h2⟩ := hwrote x hx hdx' t ht
      have htl : t < fr0.n := hsz ▸ (Array.getElem?_eq_some_iff.1 h1).1
      refine ⟨v, ?_, h2.mono hle⟩
      rw [htm t htl, if_neg (fun he => hxr (hW.dst (hops x hx) (hops r hr) ht he)), h1]
  · obtain ⟨u', h1, h2⟩ := hold t v hv fun x hx hxt => by
      have := hno x hx hxt
      simp only [Bool.or_eq_false_iff] at this
      exact this.1
    have htl : t < fr0.n := hsz ▸ (Array.getElem?_eq_some_iff.1 h1).1
    refine ⟨u', ?_, h2.mono hle⟩
    rw [htm t htl, if_neg (fun he => by have := hno r hr he; simp at this), h1]
end
end Go.Ev
set_option linter.unusedVariables false
set_option linter.unusedSimpArgs false
namespace Go.Ev
section
variable {P : Program} {F : Froz} {φ0 : Phi} {w0 : World} {E : Env} {call : CallA} {ops : Array Oper} {b : Array Nat} {fr0 : Fr} {st0 : St} {L : List Rc} {frF : Fr} {stF : St} {d : Nat → Bool} {a : Act} {w : World} {φ : Phi} {pre suf : List Rc} {frT : Fr} {T : St}
theorem wanted_of {σ : Trie AV} {o : Oper} {q : Bool} (hs : ∀ t ∈ tmpsOf ops o, ∀ v, σ.get t = some v → ∃ u, a.tmps[t]? = some u ∧ Rep φ v u) (h : wantedA σ ops o = some q) : Region.wanted o (yielded ops a.tmps) = q := by
  unfold wantedA at h
  unfold Region.wanted
  split at h
  · rename_i hg
    simp only [Option.some.injEq] at h; subst h
    simp [hg]
  · rename_i j want hg
    simp only [Option.bind_eq_some_iff] at h
    obtain ⟨e, ⟨p, hp, hd⟩, v, hv, h⟩ := h
    obtain ⟨u, h1, h2⟩ := hs e (by simp [tmpsOf, hg, hp, hd]) v hv
    simp only [hg, yielded, hp, hd, Option.bind_some, h1]
    split at h
    · rename_i c
      simp only [Option.some.injEq] at h; subst h
      simp only [Rep] at h2; subst h2
      simp
    · simp only [Option.some.injEq] at h; subst h
      simp only [Rep] at h2
      obtain ⟨x, rfl, _⟩ := h2
      simp
    · simp at h
theorem BRel.more {q : Nat → Prop} {id : Id} {c : ABlk} (h : BRel P F φ w id c) (hq : ∀ l, φ id = some l → ¬ q l.blk) : BRel P (F.with q) φ w id c := by
  cases c with
  | cells cs e g =>
    obtain ⟨l, C, fz, h1, h2, h3⟩ := h
    exact ⟨l, C, fz, h1, fun hh => hh.elim h2 (hq l h1), h3⟩
  | ro cs => exact h
  | map es =>
    obtain ⟨l, M, c, h1, h2, h3⟩ := h
    exact ⟨l, M, c, h1, fun hh => hh.elim h2 (hq l h1), h3⟩
  | iter s p =>
    obtain ⟨l, h1, h2, h3⟩ := h
    exact ⟨l, h1, fun hh => hh.elim h2 (hq l h1), h3⟩
theorem Rel.more {st : St} {q : Nat → Prop} (hR : Rel P F φ st w) (hq : ∀ i c l, st.heap.get i = some c → φ i = some l → ¬ q l.blk) (hl : ∀ k, q k → k < w.heap.size) : Rel P (F.with q) φ st w :=
  ⟨⟨fun id c hc => (hR.blk id c hc).more fun l hl => hq id c l hc hl, hR.glob, hR.inj⟩, hR.fresh, fun k hk => hk.elim (hR.low k) (hl k), hR.maps, hR.iters, hR.ord, hR.born⟩
theorem Rel.grown {st : St} {w' : World} {o : Obj} (hR : Rel P F φ st w) (hg : Grew w w' o) : Rel P F φ st w' := by
  have hold : ∀ k, k < w.heap.size → w'.heap[k]? = w.heap[k]? := fun k hk => by rw [hg.heap, Array.getElem?_push]; simp [Nat.ne_of_lt hk]
  exact ⟨⟨fun id c hc => (hR.blk id c hc).keep (Phi.le.refl _) fun l hl => hold _ (hR.blkLt hc hl), hR.glob, hR.inj⟩, hR.fresh, fun k hk => by have := hR.low k hk; rw [hg.heap]; simp; omega, hR.maps, hR.iters, hR.ord, hR.born⟩
/-- An operation that turns nothing: the evaluator's state stays. -/
theorem Inv.stay (h : Inv P F φ0 w0 E call ops b fr0 st0 L frF stF d a w φ pre suf frT T) (hW : Well P ops b) (hops : ∀ r ∈ L, ops[r.i]? = some r.o) {r : Rc} (hr : r ∈ L) (huniq : ∀ x ∈ L, x.i = r.i → x = r)
    (hfit : ∀ t, r.o.dst = some t → t < fr0.n) (hch : isChain P r.o.op = false) (hf : flt P r = false) {u : Value} (hu : Rep φ r.v u) :
    Inv P F φ0 w0 E call ops b fr0 st0 L frF stF (fun j => d j || j == r.i) (a.put r.o.dst u) w φ pre suf frT T := by
  obtain ⟨f1, f2, f3, f4⟩ := frame_put hW hops (Phi.le.refl φ) hr hu h.size hfit h.defs h.wrote h.old huniq
  have hsufL : ∀ x ∈ suf, x ∈ L := fun x hx => by rw [h.split]; simp [hx]
  refine ⟨h.split, h.run1, h.run2, h.last, fun x hx => by simp [h.hpre x hx], fun x hx hc => ?_, h.rel, fun i l hi hl => ?_, h.off, fun x hx hdx hfx => ?_, h.dist, h.le, h.keep, f1, f2, f3, f4⟩
  · have hxr : x.i ≠ r.i := fun he => by
      have := huniq x (hsufL x hx) he
      rw [this, hch] at hc; simp at hc
    simp [h.hsuf x hx hc, hxr]
  · obtain ⟨x, h1, h2, h3, h4⟩ := h.pend i l hi hl
    exact ⟨x, h1, by simp [h2], h3, h4⟩
  · have hxr : x.i ≠ r.i := fun he => by
      have := huniq x (hsufL x hx) he
      rw [this, hf] at hfx; simp at hfx
    exact h.done x hx (by simpa [hxr] using hdx) hfx
/-- A block is made ahead of its turn. -/
theorem Inv.made (hE : E.P = P) (h : Inv P F φ0 w0 E call ops b fr0 st0 L frF stF d a w φ pre suf frT T) (hW : Well P ops b) (hops : ∀ r ∈ L, ops[r.i]? = some r.o) {r : Rc} (hr : r ∈ suf) (huniq : ∀ x ∈ L, x.i = r.i → x = r)
    (hfit : ∀ t, r.o.dst = some t → t < fr0.n) (hch : isChain P r.o.op = false) (hf : flt P r = true) (hnone : φ r.pre.next = none) (hge : T.next ≤ r.pre.next) {l : Loc} {obj : Obj} {w' : World} (hl : l.blk = w.heap.size) (hg : Grew w w' obj)
    (hn : NewOk P φ l obj r.blk) {u : Value} (hu : Rep (φ.add r.pre.next l) r.v u) :
    Inv P F φ0 w0 E call ops b fr0 st0 L frF stF (fun j => d j || j == r.i) (a.put r.o.dst u) w' (φ.add r.pre.next l) pre suf frT T := by
  have hle : φ.le (φ.add r.pre.next l) := Phi.le_add hnone
  have hrL : r ∈ L := by rw [h.split]; simp [hr]
  obtain ⟨f1, f2, f3, f4⟩ := frame_put hW hops hle hrL hu h.size hfit h.defs h.wrote h.old huniq
  have hsufL : ∀ x ∈ suf, x ∈ L := fun x hx => by rw [h.split]; simp [hx]
  have hcut : (φ.add r.pre.next l).cut T.next = φ.cut T.next := by
    funext i
    unfold Phi.cut
    split
    · rename_i hi
      exact Phi.add_other (Nat.ne_of_lt (Nat.lt_of_lt_of_le hi hge))
    · rfl
  have hsize : w'.heap.size = w.heap.size + 1 := by rw [hg.heap]; simp
  have hold : ∀ k, k < w.heap.size → w'.heap[k]? = w.heap[k]? := fun k hk => by rw [hg.heap, Array.getElem?_push]; simp [Nat.ne_of_lt hk]
  have hpl : ∀ i k, T.next ≤ i → φ i = some k → k.blk < w.heap.size := fun i k h1 h2 => h.rel.low _ (.inr ⟨i, k, h1, h2, rfl⟩)
  have hpend : ∀ k, Pend (φ.add r.pre.next l) T.next k → k = w.heap.size ∨ Pend φ T.next k := fun k ⟨i, l', h1, h2, h3⟩ => by
    by_cases hi : i = r.pre.next
    · subst hi
      rw [Phi.add_self] at h2; simp at h2; subst h2
      exact .inl (h3.symm.trans hl)
    · rw [Phi.add_other hi] at h2
      exact .inr ⟨i, l', h1, h2, h3⟩
  refine ⟨h.split, h.run1, h.run2, h.last, fun x hx => by simp [h.hpre x hx], fun x hx hc => ?_, ?_, fun i k hi hk => ?_, fun k hk => ?_, fun x hx hdx hfx => ?_, fun i j li lj h1 h2 hij h3 h4 => ?_, h.le.trans hle, h.keep.trans ?_, f1, f2, f3, f4⟩
  · have hxr : x.i ≠ r.i := fun he => by
      have := huniq x (hsufL x hx) he
      rw [this, hch] at hc; simp at hc
    simp [h.hsuf x hx hc, hxr]
  · rw [hcut]
    refine (h.rel.base.grown hg).more (fun i c k h1 h2 h3 => ?_) fun k hk => ?_
    · rcases hpend _ h3 with h3 | h3
      · have := h.rel.blkLt h1 h2; omega
      · exact h.rel.notPend h.off h1 h2 h3
    · rcases hpend _ hk with hk | hk
      · omega
      · have := h.rel.low k (.inr hk); omega
  · by_cases hi2 : i = r.pre.next
    · exact ⟨r, hr, by simp, hf, hi2.symm⟩
    · rw [Phi.add_other hi2] at hk
      obtain ⟨x, h1, h2, h3, h4⟩ := h.pend i k hi hk
      exact ⟨x, h1, by simp [h2], h3, h4⟩
  · rcases hpend _ hk with rfl | hk
    · intro hF
      have := h.rel.low _ (.inl hF); omega
    · exact h.off k hk
  · by_cases hxr : x.i = r.i
    · obtain rfl := huniq x (hsufL x hx) hxr
      exact ⟨l, obj, Phi.add_self, by rw [hg.heap, hl]; simp, hn.mono hle⟩
    · obtain ⟨l', obj', h1, h2, h3⟩ := h.done x hx (by simpa [hxr] using hdx) hfx
      exact ⟨l', obj', hle _ _ h1, by rw [hold _ (Array.getElem?_eq_some_iff.1 h2).1]; exact h2, h3.mono hle⟩
  · by_cases hi : i = r.pre.next <;> by_cases hj : j = r.pre.next
    · exact absurd (hi.trans hj.symm) hij
    · subst hi
      rw [Phi.add_self] at h3; simp at h3; subst h3
      rw [Phi.add_other hj] at h4
      have := hpl j lj h2 h4; omega
    · subst hj
      rw [Phi.add_self] at h4; simp at h4; subst h4
      rw [Phi.add_other hi] at h3
      have := hpl i li h1 h3; omega
    · rw [Phi.add_other hi] at h3
      rw [Phi.add_other hj] at h4
      exact h.dist i j li lj h1 h2 hij h3 h4
  · exact ⟨hg.os, hg.tape, hg.output, by omega, fun k hk => hold k (h.rel.low k (.inl hk))⟩
/-- The next one of those that turn the heap. -/
theorem Inv.turn (hE : E.P = P) {mid suf' : List Rc} {r : Rc} (h : Inv P F φ0 w0 E call ops b fr0 st0 L frF stF d a w φ pre (mid ++ r :: suf') frT T) (hW : Well P ops b) (hops : ∀ r ∈ L, ops[r.i]? = some r.o) (huniq : ∀ x ∈ L, x.i = r.i → x = r)
    (hnot : ∀ x ∈ suf', x.i ≠ r.i) (hdr : d r.i = false) (hmid : ∀ x ∈ mid, d x.i = true)
    (hfit : ∀ t, r.o.dst = some t → t < fr0.n) (hch : isChain P r.o.op = true) {fr1 fr2 : Fr} {B : St} (hrun1 : Runs E call ops b st0 pre.reverse frT T mid fr1 B) (hstep : stepA E call ops b st0 (mid.reverse ++ pre.reverse) r.i r.o fr1 B = some r)
    (hput : fr1.put r.o.dst r.v = some fr2) (hrun2 : Runs E call ops b st0 (r :: (mid.reverse ++ pre.reverse)) fr2 r.st suf' frF stF)
    {ψ : Phi} {w' : World} (hψ : (φ.cut B.next).le ψ) (hR : Rel P (F.with (Pend φ B.next)) ψ r.st w') (hK : Keep (F.with (Pend φ B.next)) w w') {u : Value} (hu : Rep ψ r.v u) :
    InvE P F φ0 w0 E call ops b fr0 st0 L frF stF (fun j => d j || j == r.i) (a.put r.o.dst u) w' := by
  have hTB := hrun1.next
  have hs := (stepA_spec hstep).2.2
  have hBr : B.next ≤ r.st.next := hs.next
  have hrL : r ∈ L := by rw [h.split]; simp
  -- nothing lies between
  have hgap : ∀ i l, B.next ≤ i → φ i = some l → r.st.next ≤ i ∧ ∃ x ∈ suf', d x.i = true ∧ flt P x = true ∧ x.pre.next = i := fun i l hi hl => by
    obtain ⟨x, h1, h2, h3, h4⟩ := h.pend i l (Nat.le_trans hTB hi) hl
    rcases List.mem_append.1 h1 with h1 | h1
    · obtain ⟨_, k2, k3⟩ := hrun1.nexts x h1
      rw [k3 (by rw [hE]; exact h3), h4] at k2
      exact absurd hi (Nat.not_le.2 k2)
    · rcases List.mem_cons.1 h1 with rfl | h1
      · rw [hdr] at h2; simp at h2
      · obtain ⟨k1, _⟩ := hrun2.nexts x h1
        rw [h4] at k1
        exact ⟨k1, x, h1, h2, h3, h4⟩
  have hle : φ.le (fun i => if i < r.st.next then ψ i else φ i) := fun i l hl => by
    by_cases hi : i < r.st.next
    · simp only [hi, if_true]
      apply hψ
      by_cases hB : i < B.next
      · rw [Phi.cut_lt hB]; exact hl
      · exact absurd hi (Nat.not_lt.2 (hgap i l (Nat.not_lt.1 hB) hl).1)
    · simp only [hi, if_false]; exact hl
  have hψle : ψ.le (fun i => if i < r.st.next then ψ i else φ i) := fun i l hl => by
    by_cases hi : i < r.st.next
    · simp only [hi, if_true]; exact hl
    · rw [hR.fresh i (Nat.not_lt.1 hi)] at hl; simp at hl
  have hhi : ∀ i, r.st.next ≤ i → (if i < r.st.next then ψ i else φ i) = φ i := fun i hi => by rw [if_neg (Nat.not_lt.2 hi)]
  have hpend : ∀ k, Pend (fun i => if i < r.st.next then ψ i else φ i) r.st.next k → Pend φ B.next k := fun k ⟨i, l, h1, h2, h3⟩ => by
    simp only [hhi i h1] at h2
    exact ⟨i, l, Nat.le_trans hBr h1, h2, h3⟩
  have hcut : Phi.cut (fun i => if i < r.st.next then ψ i else φ i) r.st.next = ψ := by
    funext i
    by_cases hi : i < r.st.next
    · rw [Phi.cut_lt hi, if_pos hi]
    · rw [Phi.cut_ge (Nat.not_lt.1 hi), hR.fresh i (Nat.not_lt.1 hi)]
  obtain ⟨f1, f2, f3, f4⟩ := frame_put hW hops hle hrL (hu.mono hψle) h.size hfit h.defs h.wrote h.old huniq
  refine ⟨_, pre ++ mid ++ [r], suf', fr2, r.st, ?_, ?_, ?_, .inr ⟨_, r, rfl, hch⟩, fun x hx => ?_, fun x hx hc => ?_, ?_, fun i l hi hl => ?_, fun k hk => ?_, fun x hx hdx hfx => ?_, fun i j li lj h1 h2 hij h3 h4 => ?_, h.le.trans hle, h.keep.trans (hK.mono fun k hk => .inl hk), f1, f2, f3, f4⟩
  · rw [h.split]; simp
  · refine (h.run1.join (by simpa using hrun1)).join ?_
    refine ⟨hops r hrL, by simpa using hstep, fr2, hput, rfl, rfl⟩
  · simpa using hrun2
  · simp only [List.mem_append, List.mem_singleton] at hx
    rcases hx with (hx | hx) | rfl
    · simp [h.hpre x hx]
    · simp [hmid x hx]
    · simp
  · have := h.hsuf x (by simp [hx]) hc
    simp [this, hnot x hx]
  · rw [hcut]
    exact hR.less hpend
  · simp only [hhi i hi] at hl
    obtain ⟨_, x, h1, h2, h3⟩ := hgap i l (Nat.le_trans hBr hi) hl
    exact ⟨x, h1, by simp [h2], h3⟩
  · obtain ⟨i, l, h1, h2, h3⟩ := hpend k hk
    exact h.off k ⟨i, l, Nat.le_trans hTB h1, h2, h3⟩
  · have hdx' : d x.i = true := by simpa [hnot x hx] using hdx
    obtain ⟨l, obj, h1, h2, h3⟩ := h.done x (by simp [hx]) hdx' hfx
    obtain ⟨k1, _⟩ := hrun2.nexts x hx
    refine ⟨l, obj, hle _ _ h1, ?_, h3.mono hle⟩
    rw [hK.same _ (.inr ⟨x.pre.next, l, Nat.le_trans hBr k1, h1, rfl⟩)]
    exact h2
  · simp only [hhi i h1] at h3
    simp only [hhi j h2] at h4
    exact h.dist i j li lj (Nat.le_trans hTB (Nat.le_trans hBr h1)) (Nat.le_trans hTB (Nat.le_trans hBr h2)) hij h3 h4
end
end Go.Ev
set_option linter.unusedVariables false
set_option linter.unusedSimpArgs false
namespace Go.Ev
theorem countP_less {p q : Nat → Bool} {i : Nat} : ∀ {l : List Nat}, i ∈ l → p i = true → q i = false → (∀ j, q j = true → p j = true) → l.countP q < l.countP p
  | [], h, _, _, _ => by simp at h
  | x :: l, h, hp, hq, hm => by
    have hle : l.countP q ≤ l.countP p := List.countP_mono_left fun j _ hj => hm j hj
    rw [List.countP_cons, List.countP_cons]
    rcases List.mem_cons.1 h with rfl | h
    · rw [hp, hq]; simp; omega
    · have := countP_less h hp hq hm
      by_cases hx : q x = true
      · rw [hx, hm x hx]; omega
      · have hx' : q x = false := by simpa using hx
        rw [hx']; simp; omega
section
variable {P : Program} {F : Froz} {φ0 : Phi} {w0 : World} {E : Env} {call : CallA} {ops : Array Oper} {b : Array Nat} {fr0 : Fr} {st0 : St} {L : List Rc} {frF : Fr} {stF : St} {d : Nat → Bool} {a : Act} {w : World} {Q : Exit → Act → World → Prop}
set_option maxHeartbeats 1000000 in
theorem inv_step (hE : E.P = P) (hcall : SoundCall P call) (hW : Well P ops b) (hops : ∀ r ∈ L, ops[r.i]? = some r.o) (hO : Ord P ops b L) (h : InvE P F φ0 w0 E call ops b fr0 st0 L frF stF d a w)
    (hc : ∀ i o, ops[i]? = some o → d i = true → ∀ e ∈ o.after, Region.binds .any e = true → d e.on = true) {i : Nat} {o : Oper} (ho : ops[i]? = some o) (hdi : d i = false)
    (hed : ∀ e ∈ o.after, Region.binds .any e = true → d e.on = true) {K : Act → World → Prop} (hK : ∀ a' w', InvE P F φ0 w0 E call ops b fr0 st0 L frF stF (fun j => d j || j == i) a' w' → K a' w') : wpOp P ops Q i K a w := by
  obtain ⟨φ, pre, suf, frT, T, h⟩ := h
  have hisz : i < ops.size := (Array.getElem?_eq_some_iff.1 ho).1
  obtain ⟨r, hrL, rfl⟩ := hO.all i hisz
  have hro := hops r hrL
  rw [ho] at hro; simp only [Option.some.injEq] at hro; subst hro
  have hrs : r ∈ suf := by
    rw [h.split] at hrL
    rcases List.mem_append.1 hrL with hr | hr
    · rw [h.hpre r hr] at hdi; simp at hdi
    · exact hr
  obtain ⟨mid, suf', rfl⟩ := List.append_of_mem hrs
  have hsplit : L = (pre ++ mid) ++ r :: suf' := by rw [h.split]; simp
  obtain ⟨hA1, hA2, hA3⟩ := hO.at' _ _ _ hsplit
  have hnot : ∀ x ∈ suf', x.i ≠ r.i := fun x hx => by
    obtain ⟨S1, S2, rfl⟩ := List.append_of_mem hx
    have := (hO.at' ((pre ++ mid) ++ r :: S1) x S2 (by rw [hsplit]; simp)).1 r (by simp)
    exact fun he => this he.symm
  have huniq : ∀ x ∈ L, x.i = r.i → x = r := fun x hx he => by
    rw [hsplit] at hx
    rcases List.mem_append.1 hx with hx | hx
    · exact absurd he (hA1 x hx)
    · rcases List.mem_cons.1 hx with rfl | hx
      · rfl
      · exact absurd he (hnot x hx)
  obtain ⟨fr1, B, hrun1, _, hstep, fr2, hput, hrun2⟩ := h.run2.split
  have hs := (stepA_spec hstep).2.2
  have hrunA : Runs E call ops b st0 [] fr0 st0 (pre ++ mid) fr1 B := h.run1.join (by simpa using hrun1)
  obtain ⟨g1, g2, g3⟩ := hrunA.frame
  have hbd : ∀ j, (b.getD r.i 0).testBit j = true → d j = true := fun j hj => closed_ahead hW hc ops.size r.i r.o j hisz ho hed hj
  have hfit : ∀ t, r.o.dst = some t → t < fr0.n := fun t ht => by
    unfold Fr.put at hput
    rw [ht] at hput
    simp only at hput
    split at hput
    · rename_i hlt; rw [← g1]; exact hlt
    · simp at hput
  -- what its operands are
  have hsee : ∀ t ∈ tmpsOf ops r.o, ∀ v, fr1.tmps.get t = some v → ∃ u, a.tmps[t]? = some u ∧ Rep φ v u := fun t ht v hv => by
    rcases g3 t v hv with ⟨x, hx, hxt, rfl⟩ | ⟨hv0, hno⟩
    · have hxL : x ∈ L := by rw [hsplit]; exact List.mem_append_left _ hx
      rcases hW.temps ho ht (hops x hxL) hxt with hb | hb
      · exact h.wrote x hxL (hbd _ hb) t hxt
      · obtain ⟨A1, A2, hA⟩ := List.append_of_mem hx
        obtain ⟨y, hy, hyi⟩ := (hO.at' A1 x (A2 ++ r :: suf') (by rw [hsplit, hA]; simp)).2.1 _ hb
        exact absurd hyi (hA1 y (by rw [hA]; simp [hy]))
    · refine h.old t v hv0 fun x hxL hxt => ?_
      cases hdx : d x.i with
      | false => rfl
      | true =>
        exfalso
        rcases hW.temps ho ht (hops x hxL) hxt with hb | hb
        · obtain ⟨y, hy, hyi⟩ := hA2 _ hb
          have hyL : y ∈ L := by rw [hsplit]; exact List.mem_append_left _ hy
          have h1 := hops y hyL
          rw [hyi, hops x hxL] at h1
          simp only [Option.some.injEq] at h1
          exact hno y hy (by rw [← h1]; exact hxt)
        · have hxsz := (Array.getElem?_eq_some_iff.1 (hops x hxL)).1
          have := closed_ahead hW hc ops.size x.i x.o r.i hxsz (hops x hxL) (hc _ _ (hops x hxL) hdx) hb
          rw [hdi] at this; simp at this
  have hvoid : RelQ P F φ { heap := .leaf, grps := .leaf, next := 0 } w := h.rel.base.toRelQ.void (Phi.cut_le _ _)
  have hopnd : ∀ y ∈ r.o.op.operands, Opnd P φ fr1.tmps a.eval y := fun y hy =>
    opnd_of (Act.good a) hvoid y fun t v hyt hv => by
      subst hyt
      obtain ⟨u, h1, h2⟩ := hsee t (by
        unfold tmpsOf
        refine List.mem_append_left _ (List.mem_filterMap.2 ⟨.tmp t, by simpa using hy, rfl⟩)) v hv
      simpa [Act.eval, h1] using h2
  have hwant := wanted_of hsee hs.on
  unfold wpOp
  simp only [ho, hwant]
  have hchain : isChain P r.o.op = true → ∀ {ψ : Phi} {w' : World} {u : Value}, (φ.cut B.next).le ψ → Rel P (F.with (Pend φ B.next)) ψ r.st w' → Keep (F.with (Pend φ B.next)) w w' → Rep ψ r.v u → K (a.put r.o.dst u) w' := fun hch {ψ w' u} h1 h2 h3 h4 =>
    hK _ _ (h.turn hE hW hops huniq hnot hdi (fun x hx => hbd _ (hA3 hch x (by simp [hx]))) hfit hch hrun1 hstep hput hrun2 h1 h2 h3 h4)
  have hmoved : isChain P r.o.op = true → Rel P (F.with (Pend φ B.next)) (φ.cut B.next) B w := fun hch => by
    have hmd : ∀ x ∈ mid, d x.i = true := fun x hx => hbd _ (hA3 hch x (by simp [hx]))
    refine moves hE hrun1 (fun x hx => ?_) (fun x hx hf => h.done x (by simp [hx]) (hmd x hx) hf) h.off h.dist h.rel
    cases hcx : isChain P x.o.op with
    | false => rfl
    | true => have := h.hsuf x (by simp [hx]) hcx; rw [hmd x hx] at this; simp at this
  rcases hs.kind with ⟨hon, hv, hst⟩ | ⟨hon, hq, hqa, hst, hstB⟩ | ⟨hon, hq, hf, hfa, hbb, hstB⟩ | ⟨hon, hq, hf, hbel, out, hca, hout⟩
  · -- it isn't wanted
    rw [hon]
    simp only [Bool.false_eq_true, if_false]
    by_cases hch : isChain P r.o.op = true
    · refine hchain hch (Phi.le.refl _) ?_ (Keep.refl w) (by rw [hv]; exact Rep.undef _)
      rw [hst]; exact hmoved hch
    · exact hK _ _ ⟨φ, pre, _, frT, T, h.stay hW hops hrL huniq hfit (by simpa using hch) (by simp [flt, hon]) (by rw [hv]; exact Rep.undef _)⟩
  · -- it only looks
    rw [hon]
    simp only [if_true]
    rw [hE] at hq hqa hst
    have hnc : isChain P r.o.op = false := by simp [isChain, hq]
    have hseen := steady_spec (st0 := st0) (pre := pre) h.last mid.reverse hst fun x hx hcx => by
      cases hb : (b.getD r.i 0).testBit x.i with
      | false => rfl
      | true =>
        have h1 := hbd _ hb
        rw [h.hsuf x (by simp at hx; simp [hx]) hcx] at h1; simp at h1
    have hTeq : lastSt st0 pre.reverse = T := by
      rcases h.last with hp | ⟨p, x, hp, _⟩
      · have := h.run1
        rw [hp] at this
        rw [hp]
        exact this.2.symm
      · have := h.run1
        rw [hp] at this
        rw [hp]
        simp only [lastSt, List.reverse_append, List.reverse_cons, List.reverse_nil, List.nil_append, List.singleton_append]
        exact this.last.symm
    rw [hTeq] at hseen
    have hval := eqOpt_sound hseen
    have hpending : ∀ {id : Id} {c : ABlk}, (addFl P (b.getD r.i 0) T (mid.reverse ++ pre.reverse)).get id = some c → T.heap.get id = some c ∨ (T.next ≤ id ∧ ∃ l obj, φ id = some l ∧ w.heap[l.blk]? = some obj ∧ NewOk P φ l obj c) := fun {id c} hg => by
      rcases addFl_get hg with hg | ⟨x, hx, hfx, hbx, hnx, rfl, rfl⟩
      · exact .inl hg
      · right
        simp only [List.mem_append, List.mem_reverse] at hx
        rcases hx with hx | hx
        · exact ⟨hnx, h.done x (by simp [hx]) (hbd _ hbx) hfx⟩
        · obtain ⟨_, k2, k3⟩ := h.run1.nexts x hx
          rw [k3 (by rw [hE]; exact hfx)] at k2
          exact absurd hnx (Nat.not_le.2 k2)
    have hRq : RelQ P F φ { heap := addFl P (b.getD r.i 0) T (mid.reverse ++ pre.reverse), grps := T.grps, next := T.next } w := by
      have hbase := h.rel.base
      have hcutT : ∀ {id : Id} {c : ABlk} {l : Loc}, T.heap.get id = some c → φ id = some l → (φ.cut T.next) id = some l := fun {id c l} hg hl => by
        obtain ⟨l', _, h1, _⟩ := (hbase.blk id c hg).loc
        rw [h1]
        rw [Phi.cut_le _ _ _ _ h1] at hl
        exact hl
      refine ⟨fun id c hg => ?_, fun g hg => ?_, fun i j ci ei gi cj ej gj li lj hij h1 h2 h3 h4 h5 => ?_⟩
      · rcases hpending hg with hg | ⟨hge, l, obj, q1, q2, q3⟩
        · exact (hbase.blk id c hg).keep (Phi.cut_le _ _) fun _ _ => rfl
        · exact q3.brel q1 (h.off _ ⟨id, l, hge, q1, rfl⟩) q2
      · obtain ⟨l, q1, q2⟩ := hbase.glob g hg
        exact ⟨l, Phi.cut_le _ _ _ _ q1, q2⟩
      · rcases hpending h1 with h1 | ⟨hi, _⟩ <;> rcases hpending h2 with h2 | ⟨hj, _⟩
        · exact hbase.inj i j _ _ _ _ _ _ li lj hij h1 h2 (hcutT h1 h3) (hcutT h2 h4) h5
        · exact absurd (h5 ▸ ⟨j, lj, hj, h4, rfl⟩) (h.rel.notPend h.off h1 (hcutT h1 h3))
        · exact absurd (h5 ▸ ⟨i, li, hi, h3, rfl⟩) (h.rel.notPend h.off h2 (hcutT h2 h4))
        · exact absurd h5 (h.dist i j li lj hi hj hij h3 h4)
    obtain ⟨u, hu1, hu2⟩ := quiet_rep hRq hopnd hq hval
    left
    unfold Oper.wp
    rw [hu1]
    exact hK _ _ ⟨φ, pre, _, frT, T, h.stay hW hops hrL huniq hfit hnc (by simp [flt, hq]) hu2⟩
  · -- it makes a block
    rw [hon]
    simp only [if_true]
    rw [hE] at hq hf hfa
    have hnc : isChain P r.o.op = false := by simp [isChain, hf]
    have hflt : flt P r = true := by simp [flt, hf, hq, hon]
    have hTB := hrun1.next
    obtain ⟨l, obj, cv, w', q1, q2, q3, q4, q5⟩ := float_rep hvoid hopnd hf hfa
    have hnone : φ r.pre.next = none := by
      cases hp : φ r.pre.next with
      | none => rfl
      | some l' =>
        exfalso
        rw [hs.pre] at hp
        obtain ⟨x, k1, k2, k3, k4⟩ := h.pend _ l' hTB hp
        rcases List.mem_append.1 k1 with k1 | k1
        · obtain ⟨_, m2, m3⟩ := hrun1.nexts x k1
          rw [m3 (by rw [hE]; exact k3), k4] at m2
          exact absurd (Nat.le_refl _) (Nat.not_le.2 m2)
        · rcases List.mem_cons.1 k1 with rfl | k1
          · rw [hdi] at k2; simp at k2
          · obtain ⟨m1, _⟩ := hrun2.nexts x k1
            rw [k4, hstB] at m1
            exact absurd (Nat.le_refl _) (Nat.not_le.2 m1)
    left
    unfold Oper.wp
    rw [q2]
    exact hK _ _ ⟨_, pre, _, frT, T, h.made hE hW hops (by simp) huniq hfit hnc hflt hnone (by rw [hs.pre]; exact hTB) q1 q3 q4 (q5 _ (Phi.le_add hnone) (by rw [hs.pre]; exact Phi.add_self))⟩
  · -- it turns the heap
    rw [hon]
    simp only [if_true]
    rw [hE] at hq hf hbel
    have hch : isChain P r.o.op = true := by simp [isChain, hf, hq]
    left
    refine chain_rep hE hcall (hmoved hch) (fun y hy v hv => (hopnd y hy v hv).cut _ _ (hbel y hy v hv)) hca fun ψ w' h1 h2 h3 => ?_
    rcases hout with rfl | ⟨rfl, hv⟩
    · intro u hu
      exact hchain hch h1 h2 h3 hu
    · exact hchain hch h1 h2 h3 (by rw [hv]; exact Rep.undef _)
/-! ### The region -/
theorem any_rep (hE : E.P = P) (hcall : SoundCall P call) (hW : Well P ops b) (hops : ∀ r ∈ L, ops[r.i]? = some r.o) (hO : Ord P ops b L) (hQ : ∀ d a w, InvE P F φ0 w0 E call ops b fr0 st0 L frF stF d a w → (∀ r ∈ L, d r.i = true) → Q .normal a w) :
    ∀ (fuel : Nat) (listed : Array Bool) (a : Act) (w : World), listed.size = ops.size → (List.range ops.size).countP (fun j => !listed.getD j false) ≤ fuel →
      (∀ i o, ops[i]? = some o → listed.getD i false = true → ∀ e ∈ o.after, Region.binds .any e = true → listed.getD e.on false = true) →
      InvE P F φ0 w0 E call ops b fr0 st0 L frF stF (fun j => listed.getD j false) a w → wpAny P .any ops Q fuel listed a w := by
  have hall : ∀ (listed : Array Bool) (a : Act) (w : World), listed.size = ops.size → InvE P F φ0 w0 E call ops b fr0 st0 L frF stF (fun j => listed.getD j false) a w → Region.ready .any ops listed = [] → Q .normal a w := by
    intro listed a w hsz h hr
    refine hQ _ a w h fun r hrL => ?_
    -- whoever is first of those that wait is ready
    have key : ∀ (n i : Nat), i < n → i < ops.size → listed.getD i false = true := by
      intro n
      induction n with
      | zero => intro i h; omega
      | succ n ih =>
        intro i hi hisz
        cases hd : listed.getD i false with
        | true => rfl
        | false =>
          exfalso
          have hmem : i ∈ Region.ready .any ops listed := by
            rw [mem_ready]
            refine ⟨?_, ops[i], Array.getElem?_eq_getElem hisz, fun e he hb => ?_⟩
            · rw [Array.getD_eq_getD_getElem?] at hd ⊢
              rw [Array.getElem?_eq_getElem (by omega)] at hd ⊢
              exact hd
            · have := hW.less (Array.getElem?_eq_getElem hisz) he hb
              exact ih e.on (by omega) (by omega)
          rw [hr] at hmem; simp at hmem
    have := (Array.getElem?_eq_some_iff.1 (hops r hrL)).1
    exact key (r.i + 1) r.i (by omega) this
  intro fuel
  induction fuel with
  | zero =>
    intro listed a w hsz hcnt hc h
    have hr : Region.ready .any ops listed = [] := by
      rw [List.eq_nil_iff_forall_not_mem]
      intro j hj
      rw [mem_ready] at hj
      obtain ⟨h1, o, h2, _⟩ := hj
      have hjsz := (Array.getElem?_eq_some_iff.1 h2).1
      have hz : (List.range ops.size).countP (fun j => !listed.getD j false) = 0 := by omega
      rw [List.countP_eq_zero] at hz
      have := hz j (by simpa using hjsz)
      rw [Array.getD_eq_getD_getElem?] at h1 this
      rw [Array.getElem?_eq_getElem (by omega)] at h1 this
      simp at h1 this
      rw [h1] at this; simp at this
    exact ⟨hr, hall listed a w hsz h hr⟩
  | succ fuel ih =>
    intro listed a w hsz hcnt hc h
    refine ⟨hall listed a w hsz h, fun i hi => ?_⟩
    rw [mem_ready] at hi
    obtain ⟨h1, o, h2, h3⟩ := hi
    have hisz := (Array.getElem?_eq_some_iff.1 h2).1
    have hdi : listed.getD i false = false := by
      rw [Array.getD_eq_getD_getElem?] at h1 ⊢
      rw [Array.getElem?_eq_getElem (by omega)] at h1 ⊢
      exact h1
    have hset : ∀ j, (listed.setIfInBounds i true).getD j false = (listed.getD j false || j == i) := fun j => by
      by_cases hj : j = i
      · subst hj
        simp [hsz, hisz]
      · rw [getD_set_ne false (Ne.symm hj)]
        simp [hj]
    refine inv_step hE hcall hW hops hO h hc h2 hdi h3 fun a' w' h' => ih _ a' w' (by simp [hsz]) ?_ ?_ ?_
    · have hlt : (List.range ops.size).countP (fun j => !(listed.setIfInBounds i true).getD j false) < (List.range ops.size).countP (fun j => !listed.getD j false) := by
        refine countP_less (i := i) (by simpa using hisz) (by simp only [hdi]; rfl) (by rw [hset]; simp) fun j hj => ?_
        rw [hset] at hj
        cases hq : listed.getD j false with
        | false => rfl
        | true => rw [hq] at hj; simp at hj
      omega
    · intro j p hj hdj e he hb
      rw [hset] at hdj ⊢
      simp only [Bool.or_eq_true, beq_iff_eq] at hdj ⊢
      rcases hdj with hdj | rfl
      · exact .inl (hc j p hj hdj e he hb)
      · rw [h2] at hj; simp only [Option.some.injEq] at hj; subst hj
        exact .inl (h3 e he hb)
    · have : (fun j => (listed.setIfInBounds i true).getD j false) = fun j => listed.getD j false || j == i := funext hset
      rw [this]; exact h'
end
end Go.Ev
set_option linter.unusedVariables false
set_option linter.unusedSimpArgs false
namespace Go.Ev
section
variable {P : Program} {F : Froz} {E : Env} {call : CallA} {Q : Exit → Act → World → Prop}
theorem draw_rep (hE : E.P = P) (hm : P.follows .mixedOrders = true) (hcall : SoundCall P call) {id : Nat} {ops : Array Oper} {φ : Phi} {fr : Fr} {st : St} {a : Act} {w : World} {fr' : Fr} {st' : St} (hok : okRegion P ops = true)
    (h : drawA E call ops (Region.before ops) st (orderA P ops) [] fr st = some (fr', st')) (hR : Rel P F φ st w) (hF : FrRel φ fr a) (hL : Lands P F φ w Q .normal fr' st') : (Code.region id ops true).wp P Q a w := by
  apply wp_region_any hm
  obtain ⟨L, hL1, hrun⟩ := drawA_runs h
  have hW := okRegion_well hok
  have hops : ∀ r ∈ L, ops[r.i]? = some r.o := hrun.oper
  have hO : Ord P ops (Region.before ops) L := ord_of (by
    rw [hL1]
    simp only [okRegion, Bool.and_eq_true] at hok
    exact hok.2) hops
  have hdf : ∀ j, (Array.replicate ops.size false).getD j false = false := fun j => by simp [Array.getD_eq_getD_getElem?, Array.getElem?_replicate]; split <;> rfl
  have hcut : φ.cut st.next = φ := by
    funext i
    unfold Phi.cut
    split
    · rfl
    · rename_i hi; exact (hR.fresh i (Nat.not_lt.1 hi)).symm
  have hnp : ∀ k, ¬ Pend φ st.next k := fun k ⟨i, l, h1, h2, _⟩ => by rw [hR.fresh i h1] at h2; simp at h2
  refine any_rep (F := F) (φ0 := φ) (w0 := w) (fr0 := fr) (st0 := st) (frF := fr') (stF := st') hE hcall hW hops hO ?_ ops.size _ a _ (by simp) ?_ (fun i o _ hd => by rw [hdf] at hd; simp at hd) ?_
  · intro d a' w' ⟨ψ, pre, suf, frT, T, hI⟩ hd
    obtain ⟨h1, h2⟩ := hI.finish hE hd
    exact hL ψ a' w' hI.le h1 hI.keep h2 _ rfl
  · have : (List.range ops.size).countP (fun j => !(Array.replicate ops.size false).getD j false) ≤ (List.range ops.size).length := List.countP_le_length
    simpa using this
  · refine ⟨φ, [], L, fr, st, rfl, ⟨rfl, rfl⟩, by simpa using hrun, .inl rfl, by simp, fun r _ _ => hdf _, ?_, fun i l hi hl => ?_, fun k hk => absurd hk (hnp k), fun r _ hd => ?_, fun i j li lj h1 _ _ h3 => ?_, Phi.le.refl _, ⟨rfl, rfl, rfl, Nat.le_refl _, fun _ _ => rfl⟩, hF.size.symm, hF.defers, fun r _ hd => ?_, fun t v ht _ => hF.tmps t v ht⟩
    · rw [hcut]
      exact (hR.heapEq (w' := { w with drawn := w.drawn + 1 }) rfl).more (fun i c l _ _ => hnp _) fun k hk => absurd hk (hnp k)
    · rw [hR.fresh i hi] at hl; simp at hl
    · simp only [hdf] at hd; simp at hd
    · rw [hR.fresh i h1] at h3; simp at h3
    · simp only [hdf] at hd; simp at hd
/-! ### All code -/
def wpC (P : Program) : Code → (Exit → Act → World → Prop) → Act → World → Prop
  | .loop c, Q, a, w => LoopWp P c Q a w
  | c, Q, a, w => c.wp P Q a w
theorem wpC.wp {c : Code} {a : Act} {w : World} (h : wpC P c Q a w) : c.wp P Q a w := by
  cases c <;> first | exact h | exact LoopWp.wp h
structure Sound (E : Env) (ih : Job → St → Option (JobOut × St)) : Prop where
  code : ∀ {c : Code} {fr : Fr} {st : St} {e : Ex} {fr' : Fr} {st' : St}, ih (.code c fr) st = some (.code e fr', st') → ∀ {F : Froz} {φ : Phi} {a : Act} {w : World} {Q : Exit → Act → World → Prop}, Rel E.P F φ st w → FrRel φ fr a →
    Lands E.P F φ w Q e fr' st' → wpC E.P c Q a w
  scope : ∀ {c b : Code} {fr : Fr} {st : St} {e : Ex} {fr' : Fr} {st' : St}, ih (.scope c b fr) st = some (.code e fr', st') → ∀ {F : Froz} {φ : Phi} {a : Act} {w : World} {Q : Exit → Act → World → Prop}, Rel E.P F φ st w → FrRel φ fr a →
    Lands E.P F φ w Q e fr' st' → ScopeWp E.P c b Q a w
  call : SoundCall E.P (callOf ih)
theorem RepEx.normal_iff {φ : Phi} {e : Ex} {e' : Exit} (h : RepEx φ e e') : e' = .normal ↔ e = .normal := by
  cases e <;> simp only [RepEx] at h <;> first | (subst h; simp) | (obtain ⟨c, rfl, _⟩ := h; simp)
theorem Exit.then_other {next : Act → World → Prop} {e : Exit} {a : Act} {w : World} (h : e ≠ .normal) : Exit.then next Q e a w = Q e a w := by
  cases e <;> first | rfl | exact absurd rfl h
theorem code_step (hm : E.P.follows .mixedOrders = true) {ih : Job → St → Option (JobOut × St)} (hS : Sound E ih) {c : Code} {fr : Fr} {st : St} {e : Ex} {fr' : Fr} {st' : St} (h : evStep E ih (.code c fr) st = some (.code e fr', st'))
    {φ : Phi} {a : Act} {w : World} (hR : Rel E.P F φ st w) (hF : FrRel φ fr a) (hL : Lands E.P F φ w Q e fr' st') : wpC E.P c Q a w := by
  cases c with
  | skip =>
    simp only [evStep, Option.some.injEq, Prod.mk.injEq, JobOut.code.injEq] at h
    obtain ⟨⟨rfl, rfl⟩, rfl⟩ := h
    exact wp_skip (hL φ a w (Phi.le.refl _) hR (Keep.refl w) hF _ rfl)
  | label l =>
    simp only [evStep, Option.some.injEq, Prod.mk.injEq, JobOut.code.injEq] at h
    obtain ⟨⟨rfl, rfl⟩, rfl⟩ := h
    exact wp_label (hL φ a w (Phi.le.refl _) hR (Keep.refl w) hF _ rfl)
  | exit l =>
    simp only [evStep, Option.some.injEq, Prod.mk.injEq, JobOut.code.injEq] at h
    obtain ⟨⟨rfl, rfl⟩, rfl⟩ := h
    exact wp_exit (hL φ a w (Phi.le.refl _) hR (Keep.refl w) hF _ rfl)
  | goto l =>
    simp only [evStep, Option.some.injEq, Prod.mk.injEq, JobOut.code.injEq] at h
    obtain ⟨⟨rfl, rfl⟩, rfl⟩ := h
    exact wp_goto (hL φ a w (Phi.le.refl _) hR (Keep.refl w) hF _ rfl)
  | ret =>
    simp only [evStep, Option.some.injEq, Prod.mk.injEq, JobOut.code.injEq] at h
    obtain ⟨⟨rfl, rfl⟩, rfl⟩ := h
    exact wp_ret (hL φ a w (Phi.le.refl _) hR (Keep.refl w) hF _ rfl)
  | region id ops draw =>
    cases draw with
    | false =>
      simp only [evStep, Option.bind_eq_some_iff, Option.some.injEq, Prod.mk.injEq, JobOut.code.injEq] at h
      obtain ⟨⟨e1, fr1, st1⟩, h1, ⟨rfl, rfl⟩, rfl⟩ := h
      exact region_rep rfl hS.call h1 hR hF hL
    | true =>
      simp only [evStep] at h
      split at h
      case isFalse => simp at h
      rename_i hok
      simp only [Option.bind_eq_some_iff, Option.some.injEq, Prod.mk.injEq, JobOut.code.injEq] at h
      obtain ⟨⟨fr1, st1⟩, h1, ⟨rfl, rfl⟩, rfl⟩ := h
      exact draw_rep rfl hm hS.call hok h1 hR hF hL
  | seq x y =>
    simp only [evStep, Option.bind_eq_some_iff] at h
    obtain ⟨⟨o1, st1⟩, h1, h⟩ := h
    refine wp_seq ?_
    split at h
    · rename_i fr1 ho
      simp only at ho h; subst ho
      refine (hS.code h1 hR hF fun ψ a' w' k1 k2 k3 k4 e' he => ?_).wp
      rw [show e' = .normal from he]
      exact (hS.code h k2 k4 (hL.from k1 k3)).wp
    · rename_i hne
      simp only [Option.some.injEq, Prod.mk.injEq] at h
      obtain ⟨h2, rfl⟩ := h
      subst h2
      refine (hS.code h1 hR hF fun ψ a' w' k1 k2 k3 k4 e' he => ?_).wp
      have hen : e' ≠ .normal := fun hh => hne fr' (by rw [he.normal_iff.1 hh])
      rw [Exit.then_other hen]
      exact hL ψ a' w' k1 k2 k3 k4 e' he
  | cond c x y =>
    simp only [evStep, Option.bind_eq_some_iff] at h
    obtain ⟨v, hv, h⟩ := h
    have hc := hF.opnd hR.toRelQ c v hv
    split at h
    · simp only [Rep] at hc
      exact wp_cond hc (hS.code h hR hF hL).wp
    · simp only [Rep] at hc
      exact wp_cond hc (hS.code h hR hF hL).wp
    · simp at h
  | block id x =>
    simp only [evStep, Option.bind_eq_some_iff] at h
    obtain ⟨⟨o1, st1⟩, h1, h⟩ := h
    refine wp_block ?_
    split at h
    · rename_i i fr1 ho
      simp only at ho; subst ho
      simp only [Option.some.injEq, Prod.mk.injEq, JobOut.code.injEq] at h
      obtain ⟨⟨rfl, rfl⟩, rfl⟩ := h
      refine (hS.code h1 hR hF fun ψ a' w' k1 k2 k3 k4 e' he => ?_).wp
      rw [show e' = .exit i from he]
      simp only [Exit.inBlock]
      split
      · rename_i hi
        exact hL ψ a' w' k1 k2 k3 k4 _ (by rw [if_pos hi]; rfl)
      · rename_i hi
        exact hL ψ a' w' k1 k2 k3 k4 _ (by rw [if_neg hi]; rfl)
    · rename_i hne
      simp only [Option.some.injEq, Prod.mk.injEq] at h
      obtain ⟨h2, rfl⟩ := h
      subst h2
      refine (hS.code h1 hR hF fun ψ a' w' k1 k2 k3 k4 e' he => ?_).wp
      have hq := hL ψ a' w' k1 k2 k3 k4 e' he
      cases e' with
      | exit i => cases e <;> simp only [RepEx, reduceCtorEq] at he; all_goals first | exact absurd rfl (hne _ _) | (obtain ⟨c, hc, _⟩ := he; simp at hc)
      | _ => exact hq
  | loop x =>
    simp only [evStep, Option.bind_eq_some_iff] at h
    obtain ⟨⟨o1, st1⟩, h1, h⟩ := h
    refine LoopWp.unroll ?_
    split at h
    · rename_i fr1 ho
      simp only at ho h; subst ho
      refine (hS.code h1 hR hF fun ψ a' w' k1 k2 k3 k4 e' he => ?_).wp
      rw [show e' = .normal from he]
      exact hS.code h k2 k4 (hL.from k1 k3)
    · rename_i hne
      simp only [Option.some.injEq, Prod.mk.injEq] at h
      obtain ⟨h2, rfl⟩ := h
      subst h2
      refine (hS.code h1 hR hF fun ψ a' w' k1 k2 k3 k4 e' he => ?_).wp
      have hen : e' ≠ .normal := fun hh => hne fr' (by rw [he.normal_iff.1 hh])
      rw [Exit.then_other hen]
      exact hL ψ a' w' k1 k2 k3 k4 e' he
  | scope x =>
    simp only [evStep] at h
    exact (hS.scope h hR hF hL).wp
  | _ => simp [evStep] at h
theorem scope_step {ih : Job → St → Option (JobOut × St)} (hS : Sound E ih) {c b : Code} {fr : Fr} {st : St} {e : Ex} {fr' : Fr} {st' : St} (h : evStep E ih (.scope c b fr) st = some (.code e fr', st'))
    {φ : Phi} {a : Act} {w : World} (hR : Rel E.P F φ st w) (hF : FrRel φ fr a) (hL : Lands E.P F φ w Q e fr' st') : ScopeWp E.P c b Q a w := by
  simp only [evStep, Option.bind_eq_some_iff] at h
  obtain ⟨⟨o1, st1⟩, h1, h⟩ := h
  refine ScopeWp.of_wp ?_
  split at h
  · rename_i l fr1 ho
    subst ho
    refine (hS.code h1 hR hF fun ψ a' w' k1 k2 k3 k4 e' he => ?_).wp
    rw [show e' = .goto l from he]
    simp only [Exit.inScopeOf]
    split at h
    · rename_i rest hf
      rw [hf]
      exact hS.scope h k2 k4 (hL.from k1 k3)
    · rename_i hf
      rw [hf]
      simp only [Option.some.injEq, Prod.mk.injEq, JobOut.code.injEq] at h
      obtain ⟨⟨rfl, rfl⟩, rfl⟩ := h
      exact hL ψ a' w' k1 k2 k3 k4 _ rfl
  · rename_i hne
    simp only [Option.some.injEq, Prod.mk.injEq] at h
    obtain ⟨h2, rfl⟩ := h
    subst h2
    refine (hS.code h1 hR hF fun ψ a' w' k1 k2 k3 k4 e' he => ?_).wp
    have hq := hL ψ a' w' k1 k2 k3 k4 e' he
    cases e' with
    | goto i => cases e <;> simp only [RepEx, reduceCtorEq] at he; all_goals first | exact absurd rfl (hne _ _) | (obtain ⟨c, hc, _⟩ := he; simp at hc)
    | _ => exact hq
end
end Go.Ev
set_option linter.unusedVariables false
set_option linter.unusedSimpArgs false
namespace Go.Ev
section
variable {F : Froz} {E : Env} {ih : Job → St → Option (JobOut × St)}
/-! ### Results -/
def resOne (tmps : Array Value) : ResultVar → Sem Value
  | .tmp t => pure (tmps.getD t undef)
  | .cell p t => do loadVar t (← asAddr (tmps.getD p undef))
theorem resA_rep {P : Program} {φ : Phi} {st : St} {w : World} {fr : Fr} {a : Act} (hR : RelQ P F φ st w) (hF : FrRel φ fr a) : ∀ {rs : List ResultVar} {vs : List AV}, resA P fr.tmps st rs = some vs →
    ∃ us : List Value, (rs.mapM (resOne a.tmps)).run P w = .ok us w ∧ Reps φ vs us
  | [], vs, h => by
    simp only [resA, Option.some.injEq] at h; subst h
    exact ⟨[], by simp, Reps.nil'⟩
  | .tmp t :: rs, vs, h => by
    simp only [resA, Option.bind_eq_some_iff, Option.some.injEq] at h
    obtain ⟨v, hv, ws, hw, rfl⟩ := h
    obtain ⟨u, h1, h2⟩ := hF.tmps t v hv
    obtain ⟨us, h3, h4⟩ := resA_rep hR hF hw
    refine ⟨u :: us, ?_, Reps.cons' h2 h4⟩
    have hg : a.tmps.getD t undef = u := by simp [h1]
    simp only [List.mapM_cons, resOne, Sem.run_bind, Sem.run_pure, Result.andThen, h3, hg]
  | .cell p t :: rs, vs, h => by
    simp only [resA, Option.bind_eq_some_iff, Option.some.injEq] at h
    obtain ⟨x, hx, v, hv, ws, hw, rfl⟩ := h
    obtain ⟨u, h1, h2⟩ := hF.tmps p x hx
    obtain ⟨us, h3, h4⟩ := resA_rep hR hF hw
    unfold loadA at hv
    split at hv
    case h_2 => simp at hv
    rename_i id off
    simp only [Option.bind_eq_some_iff] at hv
    obtain ⟨cs, hcs, hp⟩ := hv
    obtain ⟨l, hl⟩ := hR.cellsAt hcs
    simp only [Rep] at h2
    obtain ⟨l', hl', rfl⟩ := h2
    rw [hl.loc] at hl'; simp at hl'; subst hl'
    obtain ⟨y, hy1, hy2⟩ := run_loadVarA hl hp
    refine ⟨y :: us, ?_, Reps.cons' hy2 h4⟩
    have hg : a.tmps.getD p undef = .pointer (some ⟨l.blk, l.base + off, none⟩) := by simp [h1]
    simp only [List.mapM_cons, resOne, Sem.run_bind, Sem.run_pure, Result.andThen, h3, hg, asAddr, hy1]
theorem results_rep {P : Program} {φ : Phi} {st : St} {w : World} {fr : Fr} {a : Act} {fn : Func} {vs : List AV} (hR : RelQ P F φ st w) (hF : FrRel φ fr a) (h : resA P fr.tmps st fn.results.toList = some vs) :
    ∃ u, (results fn a.tmps).run P w = .ok u w ∧ Rep φ (oneOf vs) u := by
  obtain ⟨us, h1, h2⟩ := resA_rep hR hF h
  have hrun : (results fn a.tmps).run P w = .ok (if h : us.toArray.size = 1 then us.toArray[0] else .tuple us.toArray) w := by
    have he : results fn a.tmps = (do let vs ← fn.results.mapM (resOne a.tmps); pure (if h : vs.size = 1 then vs[0] else .tuple vs)) := rfl
    rw [he, Array.mapM_eq_mapM_toList]
    simp only [Sem.run_bind, map_eq_pure_bind, bind_assoc, pure_bind]
    rw [h1]
    simp only [Result.andThen, Sem.run_pure]
  refine ⟨_, hrun, ?_⟩
  cases vs with
  | nil =>
    rw [h2.nil]
    simp only [oneOf, List.size_toArray, List.length_nil]
    simp only [Rep]
    exact ⟨#[], rfl, Reps.nil'⟩
  | cons v vs =>
    obtain ⟨u, r, rfl, h3, h4⟩ := h2.cons
    cases vs with
    | nil =>
      rw [h4.nil]
      simpa [oneOf] using h3
    | cons v2 vs =>
      obtain ⟨u2, r2, rfl, h5, h6⟩ := h4.cons
      simp only [oneOf, Rep]
      refine ⟨_, by simp, Reps.cons' h3 (Reps.cons' h5 h6)⟩
/-! ### Deferred calls -/
def RepMode (φ : Phi) : DMode → FrameMode → Prop
  | .returning, m => m = .returning
  | .panicking ch, m => ∃ c, m = .panicking c ∧ RepCh φ ch c
  | .recovered, m => ∃ v, m = .panicking [{ v, recovered := true }]
theorem RepMode.mono {φ ψ : Phi} (h : φ.le ψ) {u : DMode} {m : FrameMode} (hr : RepMode φ u m) : RepMode ψ u m := by
  cases u with
  | returning => exact hr
  | panicking ch => obtain ⟨c, h1, h2⟩ := hr; exact ⟨c, h1, h2.mono h⟩
  | recovered => exact hr
theorem RepMode.settle {φ : Phi} {u : DMode} {m : FrameMode} (hr : RepMode φ u m) : RepMode φ (settleA u) (settle m) := by
  cases u with
  | returning => rw [show m = .returning from hr]; exact rfl
  | panicking ch =>
    obtain ⟨c, rfl, h2⟩ := hr
    refine ⟨c, ?_, h2⟩
    cases ch with
    | nil => rw [show c = [] from h2]; rfl
    | cons x xs =>
      obtain ⟨p, r, rfl, ⟨h3, _⟩, _⟩ := h2
      obtain ⟨v, rc, g⟩ := p
      simp only at h3; subst h3
      rfl
  | recovered => obtain ⟨v, rfl⟩ := hr; exact rfl
theorem RepMode.notRun {φ : Phi} {u : DMode} {m : FrameMode} (hr : RepMode φ u m) : m ≠ .run := by
  cases u with
  | returning => rw [show m = .returning from hr]; simp
  | panicking ch => obtain ⟨c, rfl, _⟩ := hr; simp
  | recovered => obtain ⟨v, rfl⟩ := hr; simp
def LandsS (P : Program) (F : Froz) (φ : Phi) (w : World) (c0 : Frame) (cs : List Frame) (Q : Exit → Act → List Frame → World → Prop) (e : Ex) (fr : Fr) (u : DMode) (st : St) : Prop :=
  ∀ ψ a' w' m, φ.le ψ → Rel P F ψ st w' → Keep F w w' → FrRel ψ fr a' → RepMode ψ u m → ∀ e', RepEx ψ e e' → Q e' a' ({ c0 with mode := m } :: cs) w'
theorem LandsS.from {P : Program} {φ ψ : Phi} {w w' : World} {c0 : Frame} {cs : List Frame} {Q : Exit → Act → List Frame → World → Prop} {e : Ex} {fr : Fr} {u : DMode} {st : St} (h : LandsS P F φ w c0 cs Q e fr u st) (hψ : φ.le ψ) (hK : Keep F w w') : LandsS P F ψ w' c0 cs Q e fr u st :=
  fun χ a' w'' m h1 h2 h3 h4 h5 => h χ a' w'' m (hψ.trans h1) h2 (hK.trans h3) h4 h5
theorem not_recover {P : Program} {o : Oper} {a : Act} {w : World} {next : Act → World → Prop} {Q : Exit → Act → World → Prop} {X : World → Prop} (h : o.wp P a w next Q) :
    (match (execOp a.eval o).run P w with | .ok .recover w' => X w' | r => o.upon P a next Q r) := by
  unfold Oper.wp at h
  generalize (execOp a.eval o).run P w = r at h
  cases r with
  | ok n w' => cases n <;> first | exact h | (simp only [Oper.upon] at h)
  | halt x w' => exact h
theorem opsS_rep {P : Program} {call : CallA} (hE : E.P = P) (hcall : SoundCall P call) {c0 : Frame} {cs : List Frame} {Q : Exit → Act → List Frame → World → Prop} (ops : Array Oper) :
    ∀ (m k : Nat) (rest : List Oper), k + m = ops.size → rest = ops.toList.drop k → ∀ (φ : Phi) (fr : Fr) (u : DMode) (st : St) (a : Act) (w : World) (md : FrameMode) (e : Ex) (fr' : Fr) (u' : DMode) (st' : St),
    opsS E call ops rest fr u st = some (e, fr', u', st') → Rel P F φ st w → FrRel φ fr a → RepMode φ u md → LandsS P F φ w c0 cs Q e fr' u' st' → wpOpsS P ops Q (List.range' k m) a ({ c0 with mode := md } :: cs) w
  | 0, k, rest, hk, hrest, φ, fr, u, st, a, w, md, e, fr', u', st', h, hR, hF, hM, hL => by
    have hr0 : rest = [] := by rw [hrest]; apply List.drop_eq_nil_of_le; simp; omega
    subst hr0
    simp only [opsS, Option.some.injEq, Prod.mk.injEq] at h
    obtain ⟨rfl, rfl, rfl, rfl⟩ := h
    simp only [List.range', wpOpsS]
    exact hL φ a w md (Phi.le.refl _) hR (Keep.refl w) hF hM _ rfl
  | m + 1, k, rest, hk, hrest, φ, fr, u, st, a, w, md, e, fr', u', st', h, hR, hF, hM, hL => by
    have hlt : k < ops.size := by omega
    have hr1 : rest = ops[k] :: ops.toList.drop (k + 1) := by rw [hrest, List.drop_eq_getElem_cons (by simpa using hlt)]; simp
    subst hr1
    simp only [opsS, Option.bind_eq_some_iff] at h
    obtain ⟨b, hb, h⟩ := h
    have hw := wantedA_spec hF hb
    simp only [List.range', wpOpsS, Array.getElem?_eq_getElem hlt]
    rw [hw]
    cases b with
    | false =>
      simp only [Bool.false_eq_true, if_false, Option.bind_eq_some_iff] at h ⊢
      obtain ⟨fr1, hp, h⟩ := h
      exact opsS_rep hE hcall ops m (k + 1) _ (by omega) rfl φ fr1 u st _ w md e fr' u' st' h hR (hF.put hp (Rep.undef φ)) hM hL
    | true =>
      simp only [if_true] at h ⊢
      split at h
      · rename_i hrec
        simp only [Option.bind_eq_some_iff] at h
        obtain ⟨⟨rv, u1⟩, hru, fr1, hp, h⟩ := h
        have hexec : (execOp a.eval ops[k]).run P w = .ok .recover w := by
          generalize ops[k] = o at hrec ⊢
          obtain ⟨dst, op, type, pos, after, guard⟩ := o
          unfold isRecover at hrec
          split at hrec
          · rename_i args tys hop
            simp only at hop; subst hop
            rfl
          · simp at hrec
        rw [hexec]
        simp only
        cases u with
        | returning =>
          simp only [recoverA, Option.some.injEq, Prod.mk.injEq] at hru
          obtain ⟨rfl, rfl⟩ := hru
          have hmd : md = .returning := hM
          subst hmd
          simp only [recoverD]
          exact opsS_rep hE hcall ops m (k + 1) _ (by omega) rfl φ fr1 _ st _ w _ e fr' u' st' h hR (hF.put hp (by simp only [Rep])) rfl hL
        | recovered =>
          simp only [recoverA, Option.some.injEq, Prod.mk.injEq] at hru
          obtain ⟨rfl, rfl⟩ := hru
          obtain ⟨v, hmd⟩ := hM
          subst hmd
          simp only [recoverD]
          exact opsS_rep hE hcall ops m (k + 1) _ (by omega) rfl φ fr1 _ st _ w _ e fr' u' st' h hR (hF.put hp (by simp only [Rep])) ⟨v, rfl⟩ hL
        | panicking ch =>
          obtain ⟨c, rfl, hch⟩ := hM
          unfold recoverA at hru
          split at hru
          · rename_i v heq
            simp only [DMode.panicking.injEq] at heq; subst heq
            simp only [Option.some.injEq, Prod.mk.injEq] at hru
            obtain ⟨rfl, rfl⟩ := hru
            obtain ⟨p, r, rfl, ⟨h3, h4⟩, h5, h6⟩ := hch
            rw [show r = [] from h6]
            obtain ⟨pv, rc, g⟩ := p
            simp only at h3 h4 h5; subst h3 h4
            simp only [recoverD]
            exact opsS_rep hE hcall ops m (k + 1) _ (by omega) rfl φ fr1 _ st _ w _ e fr' u' st' h hR (hF.put hp h5) ⟨pv, rfl⟩ hL
          · simp at hru
          · rename_i hne1 hne2
            exact absurd rfl (hne2 ch)
      · simp only [Option.bind_eq_some_iff] at h
        obtain ⟨⟨r, st1⟩, hop, h⟩ := h
        refine not_recover (op_rep hE hcall hR (fun y _ => hF.opnd hR.toRelQ y) hop fun ψ w1 hψ hR1 hK1 => ?_)
        cases r with
        | val v =>
          intro x hx
          simp only [Option.bind_eq_some_iff] at h
          obtain ⟨fr1, hp, h⟩ := h
          exact opsS_rep hE hcall ops m (k + 1) _ (by omega) rfl ψ fr1 u st1 _ w1 md e fr' u' st' h hR1 ((hF.mono hψ).put hp hx) (hM.mono hψ) (hL.from hψ hK1)
        | skip =>
          simp only [Option.bind_eq_some_iff] at h
          obtain ⟨fr1, hp, h⟩ := h
          exact opsS_rep hE hcall ops m (k + 1) _ (by omega) rfl ψ fr1 u st1 _ w1 md e fr' u' st' h hR1 ((hF.mono hψ).put hp (Rep.undef ψ)) (hM.mono hψ) (hL.from hψ hK1)
        | pan ch =>
          intro c hc
          simp only [Option.some.injEq, Prod.mk.injEq] at h
          obtain ⟨rfl, rfl, rfl, rfl⟩ := h
          exact hL ψ a w1 md hψ hR1 hK1 (hF.mono hψ) (hM.mono hψ) _ ⟨c, rfl, hc⟩
        | dfr f as => simp at h
theorem evS_rep (hS : Sound E ih) {c0 : Frame} {cs : List Frame} : ∀ {c : Code} {Q : Exit → Act → List Frame → World → Prop} {φ : Phi} {fr : Fr} {u : DMode} {st : St} {a : Act} {w : World} {md : FrameMode} {e : Ex} {fr' : Fr} {u' : DMode} {st' : St},
    evS E ih c fr u st = some (e, fr', u', st') → Rel E.P F φ st w → FrRel φ fr a → RepMode φ u md → LandsS E.P F φ w c0 cs Q e fr' u' st' → c.wpS E.P Q a ({ c0 with mode := md } :: cs) w := by
  have other : ∀ {c : Code} {Q : Exit → Act → List Frame → World → Prop} {φ : Phi} {fr : Fr} {u : DMode} {st : St} {a : Act} {w : World} {md : FrameMode} {e : Ex} {fr' : Fr} {u' : DMode} {st' : St},
      ((ih (.code c fr) st).bind fun r => match r.1 with
        | .code e fr => some (e, fr, u, r.2)
        | .call _ => none) = some (e, fr', u', st') → Rel E.P F φ st w → FrRel φ fr a → RepMode φ u md → LandsS E.P F φ w c0 cs Q e fr' u' st' → c.wpS E.P Q a ({ c0 with mode := md } :: cs) w := by
    intro c Q φ fr u st a w md e fr' u' st' h hR hF hM hL
    simp only [Option.bind_eq_some_iff] at h
    obtain ⟨⟨o1, st1⟩, h1, h⟩ := h
    split at h
    · rename_i e1 fr1 ho
      simp only at ho; subst ho
      simp only [Option.some.injEq, Prod.mk.injEq] at h
      obtain ⟨rfl, rfl, rfl, rfl⟩ := h
      exact wpS_of_wp (hS.code h1 hR hF fun ψ a' w' k1 k2 k3 k4 e' he => hL ψ a' w' md k1 k2 k3 k4 (hM.mono k1) e' he).wp
    · simp at h
  intro c
  induction c with
  | seq x y ihx ihy =>
    intro Q φ fr u st a w md e fr' u' st' h hR hF hM hL
    simp only [evS, Option.bind_eq_some_iff] at h
    obtain ⟨⟨e1, fr1, u1, st1⟩, h1, h⟩ := h
    refine wpS_seq ?_
    split at h
    · rename_i fr2 u2 st2 heq
      simp only [Prod.mk.injEq] at heq
      obtain ⟨rfl, rfl, rfl, rfl⟩ := heq
      refine ihx h1 hR hF hM fun ψ a' w' m k1 k2 k3 k4 k5 e' he => ?_
      rw [show e' = .normal from he]
      exact ihy h k2 k4 k5 (hL.from k1 k3)
    · rename_i hne
      simp only [Option.some.injEq, Prod.mk.injEq] at h
      obtain ⟨rfl, rfl, rfl, rfl⟩ := h
      refine ihx h1 hR hF hM fun ψ a' w' m k1 k2 k3 k4 k5 e' he => ?_
      have hen : e' ≠ .normal := fun hh => hne fr1 u1 st1 (by rw [he.normal_iff.1 hh])
      have hq := hL ψ a' w' m k1 k2 k3 k4 k5 e' he
      cases e' <;> first | exact hq | exact absurd rfl hen
  | cond c x y ihx ihy =>
    intro Q φ fr u st a w md e fr' u' st' h hR hF hM hL
    simp only [evS, Option.bind_eq_some_iff] at h
    obtain ⟨v, hv, h⟩ := h
    have hc := hF.opnd hR.toRelQ c v hv
    split at h
    · simp only [Rep] at hc
      exact wpS_cond hc (ihx h hR hF hM hL)
    · simp only [Rep] at hc
      exact wpS_cond hc (ihy h hR hF hM hL)
    · simp at h
  | region id ops draw =>
    intro Q φ fr u st a w md e fr' u' st' h hR hF hM hL
    cases draw with
    | false =>
      simp only [evS] at h
      refine wpS_region ?_
      have := opsS_rep rfl hS.call ops ops.size 0 ops.toList (by omega) (by simp) φ fr u st a w md e fr' u' st' h hR hF hM hL
      rwa [← List.range_eq_range'] at this
    | true => simp only [evS] at h; exact other h hR hF hM hL
  | _ => intro Q φ fr u st a w md e fr' u' st' h hR hF hM hL; simp only [evS] at h; exact other h hR hF hM hL
theorem argsA_get : ∀ (args : List AV) (i : Nat) (σ : Trie AV) (t : Nat), (argsA σ i args).get t = if i ≤ t ∧ t < i + args.length then args[t - i]? else σ.get t
  | [], i, σ, t => by simp [argsA]; intro h1 h2; omega
  | v :: args, i, σ, t => by
    rw [argsA, argsA_get args (i + 1), Trie.get_put]
    by_cases h : t = i
    · subst h
      rw [if_neg (by omega), if_pos rfl, if_pos (by simp)]
      simp
    · rw [if_neg h]
      by_cases h2 : i + 1 ≤ t ∧ t < i + 1 + args.length
      · rw [if_pos h2, if_pos (by simp; omega), show t - i = (t - (i + 1)) + 1 by omega]
        simp
      · rw [if_neg h2, if_neg (by simp; omega)]
theorem enter_rep {φ : Phi} {args : List AV} {vs : Array Value} (h : Reps φ args vs.toList) {n : Nat} (hn : args.length ≤ n) : FrRel φ { tmps := argsA .leaf 0 args, n := n, defers := [] } { tmps := vs ++ Array.replicate (n - vs.size) undef, defers := [] } := by
  have hl := h.length
  simp at hl
  refine ⟨by simp; omega, fun t v hv => ?_, rfl⟩
  rw [argsA_get] at hv
  split at hv
  · rename_i ht
    obtain ⟨u, h1, h2⟩ := h.get hv
    refine ⟨u, ?_, h2⟩
    rw [Array.getElem?_append_left (by omega)]
    simpa using h1
  · simp [Trie.get] at hv
theorem deferA_rep (hS : Sound E ih) {fn : Func} {tmps : Array Value} {R : Ending → World → Prop} : ∀ {ds : List (AV × List AV)} {ds' : List Deferred} {φ : Phi} {u : DMode} {st : St} {w : World} {md : FrameMode} {u' : DMode} {st' : St},
    deferA E ih ds u st = some (u', st') → Rel E.P F φ st w → RepDs φ ds ds' → RepMode φ u md →
    (∀ ψ w' m, φ.le ψ → Rel E.P F ψ st' w' → Keep F w w' → RepMode ψ u' m → Leaves E.P fn tmps R [] m w') → Leaves E.P fn tmps R ds' md w
  | [], ds', φ, u, st, w, md, u', st', h, hR, hD, hM, hL => by
    simp only [deferA, Option.some.injEq, Prod.mk.injEq] at h
    obtain ⟨rfl, rfl⟩ := h
    rw [show ds' = [] from hD]
    exact hL φ w md (Phi.le.refl _) hR (Keep.refl w) hM
  | (f, as) :: ds, ds', φ, u, st, w, md, u', st', h, hR, hD, hM, hL => by
    obtain ⟨d, r, rfl, hd, hD⟩ := hD
    unfold RepD at hd
    split at hd
    case h_2 => exact hd.elim
    rename_i k x y hf
    simp only at hf; subst hf
    obtain ⟨xv, yv, av, rfl, hx, hy, ha⟩ := hd
    simp only [deferA, Option.bind_eq_some_iff] at h
    obtain ⟨fn2, hfn, c, hc, h⟩ := h
    split at h
    case isFalse => simp at h
    rename_i hok
    obtain ⟨hlen, hprim, hres⟩ := hok
    simp only [Option.bind_eq_some_iff] at h
    obtain ⟨⟨e1, fr1, u1, st1⟩, hev, h⟩ := h
    have hargs : Reps φ (x ++ as ++ y) (xv ++ av ++ yv).toList := by
      rw [Array.toList_append, Array.toList_append]
      exact (hx.append ha).append hy
    have hnn := hS.call.1 k fn2 hfn
    refine leaves_cons hM.notRun (f := k) (args := xv ++ av ++ yv) ?_ ?_
    · show (callFunc k ((xv ++ av) ++ yv)).run E.P w = _
      exact run_callFunc_body hfn hnn (by simp [hc]) _
    · have hres' : fn2.results = #[] := by
        have : fn2.results.toList = [] := by simpa using hres
        exact Array.ext' (by simpa using this)
      have hresrun : ∀ (t : Array Value) (w' : World), (results fn2 t).run E.P w' = .ok (.tuple #[]) w' := fun t w' => by
        unfold results
        rw [hres']
        simp
      -- how it ends
      have hend : (e1 = .normal ∨ e1 = .ret) ∧ fr1.defers = [] ∧ deferA E ih ds (settleA u1) st1 = some (u', st') := by
        split at h
        · rename_i heq
          simp only [Prod.mk.injEq] at heq
          obtain ⟨rfl, rfl, rfl, rfl⟩ := heq
          split at h
          · rename_i hd0; exact ⟨.inl rfl, by simpa using hd0, h⟩
          · simp at h
        · rename_i heq
          simp only [Prod.mk.injEq] at heq
          obtain ⟨rfl, rfl, rfl, rfl⟩ := heq
          split at h
          · rename_i hd0; exact ⟨.inr rfl, by simpa using hd0, h⟩
          · simp at h
        · simp at h
      obtain ⟨he1, hd0, hrest⟩ := hend
      refine callsD_of_wpS hfn hc fun c0 cs hc0 => ?_
      have hc0' : c0 = { c0 with mode := md } := by subst hc0; rfl
      rw [hc0']
      refine evS_rep hS hev hR (enter_rep hargs hlen) hM fun ψ a' w' m k1 k2 k3 k4 k5 e' he => ?_
      have hds : a'.defers = [] := by
        have := k4.defers
        rw [hd0] at this
        exact this
      have hgoal : a'.defers = [] ∧ ∃ u', ({ c0 with mode := m } :: cs : List Frame) = { { c0 with mode := md } with mode := u' } :: cs ∧ ∃ v, (results fn2 a'.tmps).run E.P w' = .ok v w' ∧ Leaves E.P fn tmps R r (settle u') w' :=
        ⟨hds, m, rfl, _, hresrun _ _, deferA_rep hS hrest k2 (hD.mono k1) k5.settle fun χ w'' m' j1 j2 j3 j4 => hL χ w'' m' (k1.trans j1) j2 (k3.trans j3) j4⟩
      rcases he1 with rfl | rfl
      · rw [show e' = .normal from he]; exact hgoal
      · rw [show e' = .ret from he]; exact hgoal
/-! ### Calls, and the end -/
def PrimsOk (E : Env) : Prop := ∀ (f : FuncId) (p : List AV → St → Option (AV × St)), E.prim f = some p → ∀ (F : Froz) (φ : Phi) (st : St) (w : World) (args : List AV) (vs : Array Value) (r : AV) (st' : St), Rel E.P F φ st w → Reps φ args vs.toList →
  p args st = some (r, st') → Calls E.P f vs w fun e w' => ∃ ψ, φ.le ψ ∧ Rel E.P F ψ st' w' ∧ Keep F w w' ∧ RepE ψ (.ret r) e
theorem call_step (hp : PrimsOk E) (hS : Sound E ih) {φ : Phi} {st : St} {w : World} {f : FuncId} {args : List AV} {vs : Array Value} {o : Out} {st' : St} (hR : Rel E.P F φ st w) (ha : Reps φ args vs.toList) (h : evStep E ih (.call f args) st = some (.call o, st')) :
    Calls E.P f vs w fun e w' => ∃ ψ, φ.le ψ ∧ Rel E.P F ψ st' w' ∧ Keep F w w' ∧ RepE ψ o e := by
  simp only [evStep] at h
  split at h
  · rename_i p hprim
    simp only [Option.bind_eq_some_iff, Option.some.injEq, Prod.mk.injEq, JobOut.call.injEq] at h
    obtain ⟨q, hq, rfl, rfl⟩ := h
    exact hp f p hprim F φ st w args vs q.1 q.2 hR ha hq
  · simp only [Option.bind_eq_some_iff] at h
    obtain ⟨fn, hfn, c, hc, h⟩ := h
    split at h
    case isFalse => simp at h
    rename_i hlen
    simp only [Option.bind_eq_some_iff] at h
    obtain ⟨⟨o1, st1⟩, h1, h⟩ := h
    refine calls_of_wp_defers hfn hc ?_
    -- the end of it
    have fin : ∀ {fr1 : Fr} {u0 : DMode} {a' : Act} {ψ : Phi} {w' : World} {md : FrameMode}, ((deferA E ih fr1.defers u0 st1).bind fun q => finishA E fn fr1.tmps q.1 q.2) = some (.call o, st') → φ.le ψ → Rel E.P F ψ st1 w' → Keep F w w' → FrRel ψ fr1 a' → RepMode ψ u0 md →
        Leaves E.P fn a'.tmps (fun e w' => ∃ ψ, φ.le ψ ∧ Rel E.P F ψ st' w' ∧ Keep F w w' ∧ RepE ψ o e) a'.defers md w' := by
      intro fr1 u0 a' ψ w' md h k1 k2 k3 k4 k5
      simp only [Option.bind_eq_some_iff] at h
      obtain ⟨⟨u', st2⟩, hd, h⟩ := h
      refine deferA_rep hS hd k2 k4.defers k5 fun χ w'' m j1 j2 j3 j4 => ?_
      unfold finishA at h
      split at h
      · rename_i hu
        simp only at hu; subst hu
        simp only [Option.bind_eq_some_iff, Option.some.injEq, Prod.mk.injEq, JobOut.call.injEq] at h
        obtain ⟨rs, hrs, rfl, rfl⟩ := h
        obtain ⟨v, q1, q2⟩ := results_rep j2.toRelQ (k4.mono j1) hrs
        rw [show m = .returning from j4]
        exact ⟨v, q1, χ, k1.trans j1, j2, k3.trans j3, q2⟩
      · rename_i ch hu
        simp only at hu; subst hu
        simp only [Option.some.injEq, Prod.mk.injEq, JobOut.call.injEq] at h
        obtain ⟨rfl, rfl⟩ := h
        obtain ⟨c', rfl, hcc⟩ := j4
        exact ⟨χ, k1.trans j1, j2, k3.trans j3, hcc⟩
      · simp at h
    split at h
    · rename_i fr1 ho
      simp only at ho; subst ho
      refine (hS.code h1 hR (enter_rep ha hlen) fun ψ a' w' k1 k2 k3 k4 e' he => ?_).wp
      rw [show e' = .normal from he]
      exact fin h k1 k2 k3 k4 rfl
    · rename_i fr1 ho
      simp only at ho; subst ho
      refine (hS.code h1 hR (enter_rep ha hlen) fun ψ a' w' k1 k2 k3 k4 e' he => ?_).wp
      rw [show e' = .ret from he]
      exact fin h k1 k2 k3 k4 rfl
    · rename_i ch fr1 ho
      simp only at ho; subst ho
      refine (hS.code h1 hR (enter_rep ha hlen) fun ψ a' w' k1 k2 k3 k4 e' he => ?_).wp
      obtain ⟨c', rfl, hcc⟩ := he
      exact fin h k1 k2 k3 k4 ⟨c', rfl, hcc⟩
    · simp at h
theorem ev_sound (hm : E.P.follows .mixedOrders = true) (hN : NoNum E.P) (hp : PrimsOk E) : ∀ fuel, Sound E (ev E fuel)
  | 0 => ⟨fun h => by simp [ev] at h, fun h => by simp [ev] at h, hN, fun F φ st w f args vs o st' _ _ h => by
    have h0 : ev E 0 (.call f args) st = none := rfl
    simp [callOf, h0] at h⟩
  | fuel + 1 => by
    have hS := ev_sound hm hN hp fuel
    exact ⟨fun h => fun hR hF hL => code_step hm hS h hR hF hL, fun h => fun hR hF hL => scope_step hS h hR hF hL, hN, fun F φ st w f args vs o st' hR ha h => by
      unfold callOf at h
      simp only [Option.bind_eq_some_iff] at h
      obtain ⟨⟨q, st1⟩, h1, h⟩ := h
      split at h
      · rename_i o1 ho
        simp only at ho; subst ho
        simp only [Option.some.injEq, Prod.mk.injEq] at h
        obtain ⟨rfl, rfl⟩ := h
        exact call_step hp hS hR ha h1
      · simp at h⟩
/-- **THE EVALUATOR'S WORD HOLDS**: what it answers is what the call comes to. -/
theorem ev_calls (hm : E.P.follows .mixedOrders = true) (hN : NoNum E.P) (hp : PrimsOk E) {fuel : Nat} {φ : Phi} {st : St} {w : World} {f : FuncId} {args : List AV} {vs : Array Value} {o : Out} {st' : St} (hR : Rel E.P F φ st w) (ha : Reps φ args vs.toList)
    (h : ev E fuel (.call f args) st = some (.call o, st')) : Calls E.P f vs w fun e w' => ∃ ψ, φ.le ψ ∧ Rel E.P F ψ st' w' ∧ Keep F w w' ∧ RepE ψ o e := by
  refine (ev_sound hm hN hp fuel).call.2 F φ st w f args vs o st' hR ha ?_
  simp [callOf, h]
end
end Go.Ev
