/- A way to run calls of the program on told values is shown to be sound; it holds for programs that follow mixed orders. -/
import Derived.Test.YtkbielcbkpglhaaGreatDoorE1
import Derived.Laws.BytesArg
set_option linter.unusedVariables false
set_option linter.unusedSimpArgs false
namespace Go.Ev
section
variable {P : Program} {F : Froz} {φ : Phi} {st : St} {w : World}
/-! ### Maps -/
theorem keyOk_cases {kt : TypeId} {k : AV} (h : keyOk P kt k = true) : ∃ d, P.underlying kt = some d ∧ ((∃ ik, d = .int ik ∧ ∃ k' n, k = .int k' n) ∨ (d = .string ∧ ∃ s, k = .str s)) := by
  unfold keyOk at h
  split at h
  · rename_i ik k' n hu; exact ⟨_, hu, .inl ⟨ik, rfl, k', n, rfl⟩⟩
  · rename_i s hu; exact ⟨_, hu, .inr ⟨rfl, s, rfl⟩⟩
  · simp at h
theorem same_rep {d : TypeDesc} {k e : AV} {vk ve : Value} {r : Bool} (hd : (∃ ik, d = .int ik ∧ ∃ k' n, k = .int k' n) ∨ (d = .string ∧ ∃ s, k = .str s)) (hk : Rep φ k vk) (he : Rep φ e ve) (h : sameKey k e = some r) :
    Instr.sameNow d vk ve = some r := by
  rcases hd with ⟨ik, rfl, k', n, rfl⟩ | ⟨rfl, s, rfl⟩
  · simp only [Rep] at hk; subst hk
    cases e <;> simp only [sameKey, reduceCtorEq] at h
    rename_i k2 m
    simp only [Rep] at he; subst he
    split at h <;> simp only [Option.some.injEq, reduceCtorEq] at h
    rename_i hkk
    subst hkk h
    simp [Instr.sameNow]
  · simp only [Rep] at hk; subst hk
    cases e <;> simp only [sameKey, reduceCtorEq, Option.some.injEq] at h
    rename_i s2
    simp only [Rep] at he; subst he h
    simp only [Instr.sameNow, Option.some.injEq]
    rw [beq_toListBytes, toList_mk, toList_mk]
/-- What a search comes to. -/
def FindOk (φ : Phi) : Option AV → Option (Nat × Value) → Prop
  | none, q => q = none
  | some x, q => ∃ j v, q = some (j, v) ∧ Rep φ x v
theorem find_rep {d : TypeDesc} {k : AV} {vk : Value} (hd : (∃ ik, d = .int ik ∧ ∃ k' n, k = .int k' n) ∨ (d = .string ∧ ∃ s, k = .str s)) (hk : Rep φ k vk) :
    ∀ {es : List (AV × AV)} {ms : List MapEntry} {r : Option AV} (i : Nat), RepM φ es ms → findA k es = some r →
      ∃ q, Instr.findNow d vk ms i = some q ∧ FindOk φ r q
  | [], ms, r, i, hm, h => by
    rw [show ms = [] from hm]
    simp [findA] at h; subst h
    exact ⟨none, rfl, rfl⟩
  | e :: es, ms, r, i, hm, h => by
    obtain ⟨m, q, rfl, hk1, hv1, hq⟩ := hm
    simp only [findA, Option.bind_eq_some_iff] at h
    obtain ⟨b, hb, h⟩ := h
    have hs := same_rep hd hk hk1 hb
    simp only [Instr.findNow, hs]
    cases b with
    | true => simp at h; subst h; exact ⟨_, rfl, i, m.val, rfl, hv1⟩
    | false => simp at h; exact find_rep hd hk (i + 1) hq h
theorem run_checkKey1 {kt : TypeId} {k : AV} {vk : Value} (h : keyOk P kt k = true) (hk : Rep φ k vk) (b : Bool) (w : World) (n : Nat) : (Instr.checkKey b (n + 1) kt vk).run P w = .ok () w := by
  obtain ⟨d, hu, hd⟩ := keyOk_cases h
  rcases hd with ⟨ik, rfl, k', n, rfl⟩ | ⟨rfl, s, rfl⟩
  · simp only [Rep] at hk; subst hk
    simp only [Instr.checkKey, Sem.run_bind, run_underlying' w hu, Result.andThen, Sem.run_pure]
  · simp only [Rep] at hk; subst hk
    simp only [Instr.checkKey, Sem.run_bind, run_underlying' w hu, Result.andThen, Sem.run_pure]
theorem run_checkKey' {kt : TypeId} {k : AV} {vk : Value} (h : keyOk P kt k = true) (hk : Rep φ k vk) (b : Bool) (w : World) : (Instr.checkKey b 10000 kt vk).run P w = .ok () w := run_checkKey1 h hk b w 9999
theorem run_findKey' {kt : TypeId} {k : AV} {vk : Value} (h : keyOk P kt k = true) (hk : Rep φ k vk) {es : List (AV × AV)} {ms : List MapEntry} {r : Option AV} (hm : RepM φ es ms) (hf : findA k es = some r) (w : World) :
    ∃ q, (Instr.findKey kt vk ms).run P w = .ok q w ∧ FindOk φ r q := by
  obtain ⟨d, hu, hd⟩ := keyOk_cases h
  obtain ⟨q, hq, hr⟩ := find_rep hd hk 0 hm hf
  exact ⟨q, by simp [Instr.findKey, Sem.run_bind, run_underlying' w hu, Result.andThen, hq], hr⟩
/-- A map's entries as they lie in the world. -/
theorem entries_rep (hR : RelQ P F φ st w) {x : AV} {v : Value} {es : List (AV × AV)} (hx : Rep φ x v) (h : entriesA st x = some es) :
    (v = .map none ∧ es = []) ∨ ∃ r M c, v = .map (some r) ∧ w.heap[r]? = some (.map M c) ∧ RepM φ es M.toList := by
  unfold entriesA at h
  split at h
  · simp at h; subst h
    simp only [Rep] at hx
    exact .inl ⟨hx, rfl⟩
  · rename_i id
    split at h <;> simp at h
    rename_i es' hb
    subst h
    obtain ⟨l, M, c, hl, _, hh, hm⟩ := hR.blk _ _ hb
    simp only [Rep] at hx
    obtain ⟨l', hl', rfl⟩ := hx
    rw [hl] at hl'; simp at hl'; subst hl'
    exact .inr ⟨_, M, c, rfl, hh, hm⟩
  · simp at h
def lookTail (kt e : TypeId) (vk : Value) (ok : Bool) (M : List MapEntry) (b : Bool) : Sem Value := do
  Instr.checkKey b 10000 kt vk
  let (v, b) ← match ← Instr.findKey kt vk M with
    | some (_, v) => pure (v, true)
    | none => do pure (← zeroValue e, false)
  pure (if ok then .tuple #[v, .bool b] else v)
theorem lookup_rep (hR : RelQ P F φ st w) {t : TypeId} {x k r : AV} {ok : Bool} {vx vk : Value} (hx : Rep φ x vx) (hk : Rep φ k vk) (h : lookupA P st t x k ok = some r) :
    ∃ u, (Instr.lookup t vx vk ok).run P w = .ok u w ∧ Rep φ r u := by
  unfold lookupA at h
  split at h
  case h_2 => simp at h
  rename_i kt e hu
  split at h
  case isFalse => simp at h
  rename_i hok
  simp only [Option.bind_eq_some_iff] at h
  obtain ⟨es, hes, q, hf, h⟩ := h
  have hT : ∀ M b, RepM φ es M → ∃ u, (lookTail kt e vk ok M b).run P w = .ok u w ∧ Rep φ r u := by
    intro M b hM
    obtain ⟨z, hz, hr⟩ := run_findKey' hok hk hM hf w
    cases q with
    | some y =>
      obtain ⟨j, v, rfl, hv⟩ := hr
      simp only [Option.some.injEq] at h; subst h
      refine ⟨_, by simp only [lookTail, Sem.run_bind, run_checkKey' hok hk, Result.andThen, hz, Sem.run_pure]; rfl, ?_⟩
      cases ok
      · simpa using hv
      · simp only [if_true, Rep]
        exact ⟨_, rfl, Reps.cons' hv (Reps.cons' (Rep.bool' _) Reps.nil')⟩
    | none =>
      obtain rfl : z = none := hr
      simp only [Option.bind_eq_some_iff] at h
      obtain ⟨za, hza, h⟩ := h
      simp only [Option.some.injEq] at h; subst h
      obtain ⟨ie, zv, hie, hzv, ho⟩ := zeroA_spec hza
      refine ⟨_, by simp only [lookTail, Sem.run_bind, run_checkKey' hok hk, Result.andThen, hz, run_zeroValue' w hie hzv, Sem.run_pure]; rfl, ?_⟩
      cases ok
      · simpa using ofVal_rep ho
      · simp only [if_true, Rep]
        exact ⟨_, rfl, Reps.cons' (ofVal_rep ho) (Reps.cons' (Rep.bool' _) Reps.nil')⟩
  rcases entries_rep hR hx hes with ⟨rfl, rfl⟩ | ⟨b, M, c, rfl, hh, hM⟩
  · obtain ⟨u, h1, h2⟩ := hT [] true rfl
    refine ⟨u, ?_, h2⟩
    rw [← h1]
    simp only [Instr.lookup, lookTail, Sem.run_bind, run_underlying' w hu, Result.andThen, Sem.run_pure]
    rfl
  · obtain ⟨u, h1, h2⟩ := hT M.toList M.isEmpty hM
    refine ⟨u, ?_, h2⟩
    rw [← h1]
    simp only [Instr.lookup, lookTail, Sem.run_bind, run_underlying' w hu, Result.andThen, getObj, Sem.run, hh, Sem.run_pure]
    rfl
end
end Go.Ev
set_option linter.unusedVariables false
set_option linter.unusedSimpArgs false
namespace Go.Ev
section
variable {P : Program} {F : Froz} {φ : Phi} {st : St} {w : World}
/-! ### Conversions, lengths -/
theorem strA_nums : ∀ {r : List AV} {vs : List Value} {b : List UInt8}, Reps φ r vs → strA r = some b → ∃ ns : List Int, vs = ns.map (Value.int .u8) ∧ b = ns.map fun n => UInt8.ofNat n.toNat
  | [], vs, b, h, hb => by
    simp [strA] at hb; subst hb
    exact ⟨[], by rw [h.nil]; rfl, rfl⟩
  | x :: r, vs, b, h, hb => by
    obtain ⟨v, q, rfl, hv, hq⟩ := h.cons
    cases x with
    | int k n =>
      cases k <;> simp only [strA, Option.bind_eq_some_iff, reduceCtorEq] at hb
      obtain ⟨b', hb', e⟩ := hb
      simp only [Option.some.injEq] at e; subst e
      simp only [Rep] at hv; subst hv
      obtain ⟨ns, rfl, rfl⟩ := strA_nums hq hb'
      exact ⟨n :: ns, rfl, rfl⟩
    | _ => simp [strA] at hb
theorem conv_rep (hR : RelQ P F φ st w) {s d : TypeId} {x r : AV} {v : Value} (hv : Rep φ x v) (h : convA P st s d x = some r) : ∃ u, (convert s d v).run P w = .ok u w ∧ Rep φ r u := by
  unfold convA at h
  split at h
  · rename_i ds k k' n hs hd
    simp only [Option.some.injEq] at h; subst h
    simp only [Rep] at hv; subst hv
    exact ⟨_, by simp only [convert, Sem.run_bind, run_underlying' w hs, run_underlying' w hd, Result.andThen, Conv.intToInt, Sem.run_pure], Rep.int' _ _⟩
  · rename_i ds k n hs hd
    simp only [Option.some.injEq] at h; subst h
    simp only [Rep] at hv; subst hv
    refine ⟨.string (Utf8.encode n), by simp only [convert, Sem.run_bind, run_underlying' w hs, run_underlying' w hd, Result.andThen, Conv.intToString, Sem.run_pure], ?_⟩
    simp only [Rep]
  · rename_i ds b hs hd
    simp only [Option.some.injEq] at h; subst h
    refine ⟨v, ?_, hv⟩
    simp only [Rep] at hv; subst hv
    simp only [convert, Sem.run_bind, run_underlying' w hs, run_underlying' w hd, Result.andThen, Sem.run_pure]
  · rename_i e a len c hs hd
    split at h
    case isFalse => simp at h
    rename_i hb
    have he : P.underlying e = some (.int .u8) := by
      unfold isByte at hb
      split at hb
      · assumption
      · simp at hb
    split at h
    · simp only [Option.some.injEq] at h; subst h
      simp only [Rep] at hv
      obtain ⟨_, _, rfl⟩ := hv
      refine ⟨.string .empty, ?_, by simp only [Rep]; rfl⟩
      simp only [convert, Sem.run_bind, run_underlying' w hs, run_underlying' w hd, Result.andThen, run_underlying' w he, Conv.bytesToString, Sem.run_pure]
    · rename_i id off
      split at h
      · simp at h
      rename_i hc0
      simp only [Option.bind_eq_some_iff] at h
      obtain ⟨cs, hcs, q, hq, b, hb', h⟩ := h
      simp only [Option.some.injEq] at h; subst h
      obtain ⟨l, hl⟩ := hR.cellsAt hcs
      obtain ⟨vs, hvs, hc⟩ := hl.reps hq
      obtain ⟨ns, rfl, rfl⟩ := strA_nums hvs hb'
      have hlen : len = ns.length := by
        have := hvs.length
        obtain ⟨e1, h1⟩ := readN_spec hq
        subst e1; simp at this; omega
      have hv' : ∃ o c', v = .slice (some ⟨l.blk, o, none⟩) len c' ∧ (o = l.base + off ∨ len = 0) := by
        cases c with
        | some c =>
          simp only [Rep] at hv
          obtain ⟨l', a', hl', _, ha, rfl⟩ := hv
          rw [hl.loc] at hl'; simp at hl'; subst hl'
          rcases ha with rfl | rfl
          · exact ⟨_, c, rfl, .inl rfl⟩
          · simp at hc0
        | none =>
          simp only [Rep] at hv
          obtain ⟨l', o, c', hl', hn, _, ho, rfl⟩ := hv
          rw [hl.loc] at hl'; simp at hl'; subst hl'
          exact ⟨o, c', rfl, by omega⟩
      obtain ⟨o, c', rfl, ho⟩ := hv'
      refine ⟨.string (strOfNums ns), run_convert_bytes_arg w s e hs he l.blk o len c' ns hlen.symm (fun i hi => ?_) d hd, by simp only [Rep, strOfNums]⟩
      rcases ho with rfl | h0
      · exact hc i _ (by simp [List.getElem?_eq_getElem (show i < ns.length by omega), List.getD_eq_getElem?_getD])
      · omega
  · simp at h
theorem len_rep (hR : RelQ P F φ st w) {t ty : TypeId} {x r : AV} {v : Value} {ts : Array TypeId} {vs : Array Value} (h0 : ts[0]? = some t) (h1 : vs[0]? = some v) (hv : Rep φ x v) (h : lenOfA P st t x = some r) : ∃ u, (Builtin.len_ ts ty vs).run P w = .ok u w ∧ Rep φ r u := by
  unfold lenOfA at h
  split at h
  · rename_i s hu
    simp only [Option.some.injEq] at h; subst h
    simp only [Rep] at hv; subst hv
    refine ⟨.int .i64 s.length, ?_, Rep.int' _ _⟩
    simp only [Builtin.len_, h0, h1, Sem.run_bind, run_underlying' w hu, Result.andThen, goInt, Sem.run_pure]
    simp [ByteArray.size]
  · rename_i e a n c hu
    simp only [Option.some.injEq] at h; subst h
    have : ∃ a' c', v = .slice a' n c' := by
      cases a with
      | none => simp only [Rep] at hv; obtain ⟨rfl, _, rfl⟩ := hv; exact ⟨_, _, rfl⟩
      | some a =>
        cases c with
        | none => simp only [Rep] at hv; obtain ⟨l, o, c, _, _, _, _, rfl⟩ := hv; exact ⟨_, _, rfl⟩
        | some c => simp only [Rep] at hv; obtain ⟨l, _, _, _, _, rfl⟩ := hv; exact ⟨_, _, rfl⟩
    obtain ⟨a', c', rfl⟩ := this
    refine ⟨.int .i64 n, ?_, Rep.int' _ _⟩
    simp only [Builtin.len_, h0, h1, Sem.run_bind, run_underlying' w hu, Result.andThen, goInt, Sem.run_pure]
  · rename_i n e hu
    simp only [Option.some.injEq] at h; subst h
    refine ⟨.int .i64 n, ?_, Rep.int' _ _⟩
    simp only [Builtin.len_, h0, h1, Sem.run_bind, run_underlying' w hu, Result.andThen, goInt, Sem.run_pure]
  · rename_i kt e hu
    simp only [Option.bind_eq_some_iff] at h
    obtain ⟨es, hes, h⟩ := h
    simp only [Option.some.injEq] at h; subst h
    rcases entries_rep hR hv hes with ⟨rfl, rfl⟩ | ⟨b, M, c, rfl, hh, hM⟩
    · exact ⟨.int .i64 0, by simp only [Builtin.len_, h0, h1, Sem.run_bind, run_underlying' w hu, Result.andThen, goInt, Sem.run_pure], by simpa using Rep.int' (φ := φ) .i64 0⟩
    · have hl : ∀ {es : List (AV × AV)} {ms : List MapEntry}, RepM φ es ms → ms.length = es.length := by
        intro es
        induction es with
        | nil => intro ms h; rw [show ms = [] from h]; rfl
        | cons e es ih => intro ms h; obtain ⟨m, q, rfl, _, _, hq⟩ := h; simp [ih hq]
      have := hl hM
      refine ⟨.int .i64 es.length, ?_, Rep.int' _ _⟩
      simp only [Builtin.len_, h0, h1, Sem.run_bind, run_underlying' w hu, Result.andThen, goInt, Sem.run_pure, getObj, Sem.run, hh]
      simp [← this]
  · simp at h
theorem min_rep : ∀ {xs : List AV} {x r : AV} {vs : List Value} {v : Value}, Rep φ x v → Reps φ xs vs → minA x xs = some r → ∃ u, (vs.foldlM Builtin.min2 v).run P w = .ok u w ∧ Rep φ r u
  | [], x, r, vs, v, hv, hs, h => by
    simp only [minA, Option.some.injEq] at h; subst h
    rw [hs.nil]
    exact ⟨v, by simp, hv⟩
  | y :: xs, x, r, vs, v, hv, hs, h => by
    obtain ⟨u, q, rfl, hu, hq⟩ := hs.cons
    cases x <;> cases y <;> simp only [minA, reduceCtorEq] at h
    rename_i k a k' b
    simp only [Rep] at hv hu; subst hv hu
    obtain ⟨z, hz, hr⟩ := min_rep (Rep.int' k _) hq h
    exact ⟨z, by simpa [Builtin.min2] using hz, hr⟩
theorem max_rep : ∀ {xs : List AV} {x r : AV} {vs : List Value} {v : Value}, Rep φ x v → Reps φ xs vs → maxA x xs = some r → ∃ u, (vs.foldlM Builtin.max2 v).run P w = .ok u w ∧ Rep φ r u
  | [], x, r, vs, v, hv, hs, h => by
    simp only [maxA, Option.some.injEq] at h; subst h
    rw [hs.nil]
    exact ⟨v, by simp, hv⟩
  | y :: xs, x, r, vs, v, hv, hs, h => by
    obtain ⟨u, q, rfl, hu, hq⟩ := hs.cons
    cases x <;> cases y <;> simp only [maxA, reduceCtorEq] at h
    rename_i k a k' b
    simp only [Rep] at hv hu; subst hv hu
    obtain ⟨z, hz, hr⟩ := max_rep (Rep.int' k _) hq h
    exact ⟨z, by simpa [Builtin.max2] using hz, hr⟩
end
end Go.Ev
set_option linter.unusedVariables false
set_option linter.unusedSimpArgs false
namespace Go.Ev
section
variable {P : Program} {F : Froz} {φ : Phi} {st : St} {w : World} {σ : Trie AV} {ρ : Operand → Value}
theorem Rep.nilIface_inv {a : AV} (h : Rep φ a .nilIface) : a = .nilIface ∨ a = .junk := by
  cases a with
  | ptr a => cases a <;> simp [Rep] at h
  | slice a n c => cases a <;> (try cases c) <;> simp [Rep] at h
  | map r => cases r <;> simp [Rep] at h
  | nilIface => exact .inl rfl
  | junk => exact .inr rfl
  | _ => simp [Rep] at h
theorem Rep.agg_inv {a : AV} {u : Array Value} (h : Rep φ a (.agg u)) : ∃ cs, a = .agg cs := by
  cases a with
  | ptr a => cases a <;> simp [Rep] at h
  | slice a n c => cases a <;> (try cases c) <;> simp [Rep] at h
  | map r => cases r <;> simp [Rep] at h
  | agg cs => exact ⟨cs, rfl⟩
  | junk => simp [Rep, Value.oneCell'] at h
  | _ => simp [Rep] at h
theorem eqA_junk {d : Nat} {t : TypeId} {y : AV} : eqA P st d t .junk y = none := by
  cases d <;> simp [eqA]
def guardBody (t : TypeId) (x y : Operand) (a b : Value) : Sem Unit :=
  match a, b with
  | .nilIface, .nilIface => do
    if (x matches .const _) || (y matches .const _) then return
    if ← Op.eqGuardIn Op.maxDepth t a b then unsupported (.noEntry "binop/eql: two nil values of an interface type with methods, neither of them the literal nil")
  | .agg _, .agg _ => do
    if !(← program).eqGuardType (← program).depth t then return
    if ← Op.eqGuardIn Op.maxDepth t a b then unsupported (.noEntry "binop/eql: two nil values of an interface type with methods, in a part of a struct or an array")
  | _, _ => pure ()
theorem run_guardBody {t : TypeId} {x y : Operand} {a b : Value} (h1 : (a = .nilIface ∧ b = .nilIface) → (isConstO x || isConstO y) = true) (h2 : (∃ u v, a = .agg u ∧ b = .agg v) → P.eqGuardType P.depth t = false) :
    (guardBody t x y a b).run P w = .ok () w := by
  unfold guardBody
  split
  · have h := h1 ⟨rfl, rfl⟩
    clear h1 h2
    cases x <;> cases y <;> simp [isConstO] at h <;> simp
  · rename_i u v
    simp [Sem.run_bind, program, Sem.run, Result.andThen, h2 ⟨u, v, rfl, rfl⟩]
  · simp
theorem guard_skip {op : BinOp} {t : TypeId} {x y : Operand} {a b : Value} (h : (op = .eql ∨ op = .neq) → ((a = .nilIface ∧ b = .nilIface) → (isConstO x || isConstO y) = true) ∧ ((∃ u v, a = .agg u ∧ b = .agg v) → P.eqGuardType P.depth t = false)) :
    (eqGuard op t x y a b).run P w = .ok () w := by
  cases op
  case eql => obtain ⟨h1, h2⟩ := h (.inl rfl); exact run_guardBody h1 h2
  case neq => obtain ⟨h1, h2⟩ := h (.inr rfl); exact run_guardBody h1 h2
  all_goals simp [eqGuard]
theorem eqA_junk2 {d : Nat} {t : TypeId} {x : AV} : eqA P st d t x .junk = none := by
  cases d <;> simp [eqA]
theorem sameA_junk {t : TypeId} {c : Bool} {a b : AV} {q : Bool} (h : sameA P st t c a b = some q) : a ≠ .junk ∧ b ≠ .junk := by
  unfold sameA at h
  split at h
  · simp
  · simp
  · refine ⟨?_, ?_⟩
    · rintro rfl; rw [eqA_junk] at h; simp at h
    · rintro rfl; rw [eqA_junk2] at h; simp at h
theorem Rep.int_inv {a : AV} {k : IntKind} {n : Int} (h : Rep φ a (.int k n)) : a = .int k n ∨ a = .junk := by
  cases a with
  | ptr a => cases a <;> simp [Rep] at h
  | slice a n c => cases a <;> (try cases c) <;> simp [Rep] at h
  | map r => cases r <;> simp [Rep] at h
  | int k' n' => simp [Rep] at h; left; rw [h.1, h.2]
  | junk => exact .inr rfl
  | _ => simp [Rep] at h
theorem Rep.str_inv {a : AV} {s : ByteArray} (h : Rep φ a (.string s)) : (∃ l, a = .str l) ∨ a = .junk := by
  cases a with
  | ptr a => cases a <;> simp [Rep] at h
  | slice a n c => cases a <;> (try cases c) <;> simp [Rep] at h
  | map r => cases r <;> simp [Rep] at h
  | str l => exact .inl ⟨l, rfl⟩
  | junk => exact .inr rfl
  | _ => simp [Rep] at h
theorem Rep.float_inv {a : AV} {k : FloatKind} {n : Nat} (h : Rep φ a (.float k n)) : a = .junk := by
  cases a with
  | ptr a => cases a <;> simp [Rep] at h
  | slice a n c => cases a <;> (try cases c) <;> simp [Rep] at h
  | map r => cases r <;> simp [Rep] at h
  | junk => rfl
  | _ => simp [Rep] at h
theorem Rep.complex_inv {a : AV} {k : FloatKind} {n m : Nat} (h : Rep φ a (.complex k n m)) : a = .junk := by
  cases a with
  | ptr a => cases a <;> simp [Rep] at h
  | slice a n c => cases a <;> (try cases c) <;> simp [Rep] at h
  | map r => cases r <;> simp [Rep] at h
  | junk => rfl
  | _ => simp [Rep] at h
theorem equal_bin {op : BinOp} {t : TypeId} {a b : AV} {va vb : Value} {q : Bool} (ha : Rep φ a va) (hb : Rep φ b vb) (hq : (Op.equal t va vb).run P w = .ok q w) (h : ∃ c, sameA P st t c a b = some q) (hn : ∀ k n k' m, a = .int k n → b = .int k' m → False) (hs : ∀ s s', a = .str s → b = .str s' → False) (ho : op = .eql ∨ op = .neq) :
    (binOp op t va vb).run P w = .ok (.bool (if op = .eql then q else !q)) w := by
  obtain ⟨c, hc⟩ := h
  obtain ⟨ja, jb⟩ := sameA_junk hc
  have e1 : binOp .eql t va vb = (do pure (.bool (← Op.equal t va vb))) ∧ binOp .neq t va vb = (do pure (.bool (!(← Op.equal t va vb)))) := by
    cases va <;> cases vb <;> first
      | exact ⟨rfl, rfl⟩
      | (exfalso
         rcases ha.int_inv with rfl | rfl
         · rcases hb.int_inv with rfl | rfl
           · exact hn _ _ _ _ rfl rfl
           · exact jb rfl
         · exact ja rfl)
      | (exfalso
         rcases ha.str_inv with ⟨l, rfl⟩ | rfl
         · rcases hb.str_inv with ⟨l', rfl⟩ | rfl
           · exact hs _ _ rfl rfl
           · exact jb rfl
         · exact ja rfl)
      | (exfalso; exact ja ha.float_inv)
      | (exfalso; exact ja ha.complex_inv)
  rcases ho with rfl | rfl
  · rw [e1.1]; simp [Sem.run_bind, hq, Result.andThen]
  · rw [e1.2]; simp [Sem.run_bind, hq, Result.andThen]
theorem bin_rep (hR : RelQ P F φ st w) {op : BinOp} {t : TypeId} {x y : Operand} {a b r : AV} {va vb : Value} (ha : Rep φ a va) (hb : Rep φ b vb) (h : binA P st op t (isConstO x || isConstO y) a b = some r) :
    ∃ u, (do eqGuard op t x y va vb; binOp op t va vb : Sem Value).run P w = .ok u w ∧ Rep φ r u := by
  unfold binA at h
  split at h
  · rename_i k n k' m
    simp only [Rep] at ha hb; subst ha hb
    split at h
    case isFalse => simp at h
    rename_i hk
    obtain ⟨u, hu, hr⟩ := intA_rep (w := w) (φ := φ) (P := P) hk h t
    refine ⟨u, ?_, hr⟩
    rw [Sem.run_bind, guard_skip (fun _ => ⟨by simp, by simp⟩)]
    exact hu
  · rename_i s s'
    simp only [Rep] at ha hb; subst ha hb
    obtain ⟨u, hu, hr⟩ := stringA_rep (w := w) (φ := φ) (P := P) h t
    refine ⟨u, ?_, hr⟩
    rw [Sem.run_bind, guard_skip (fun _ => ⟨by simp, by simp⟩)]
    exact hu
  · rename_i hni hns
    have key : ∀ {q : Bool}, sameA P st t (isConstO x || isConstO y) a b = some q → (op = .eql ∨ op = .neq) → (eqGuard op t x y va vb).run P w = .ok () w ∧ (Op.equal t va vb).run P w = .ok q w := by
      intro q hq ho
      unfold sameA at hq
      split at hq
      · split at hq
        case isFalse => simp at hq
        rename_i hc
        refine ⟨guard_skip fun _ => ⟨fun _ => hc, ?_⟩, eqA_rep hR _ ha hb hq⟩
        simp only [Rep] at ha; subst ha; simp
      · split at hq
        case isTrue => simp at hq
        rename_i hgt
        refine ⟨guard_skip fun _ => ⟨?_, fun _ => by simpa using hgt⟩, eqA_rep hR _ ha hb hq⟩
        simp only [Rep] at ha; obtain ⟨u, rfl, _⟩ := ha; simp
      · rename_i h1 h2
        refine ⟨guard_skip fun _ => ⟨?_, ?_⟩, eqA_rep hR _ ha hb hq⟩
        · rintro ⟨rfl, rfl⟩
          rcases ha.nilIface_inv with rfl | rfl
          · rcases hb.nilIface_inv with rfl | rfl
            · exact absurd rfl (h1 rfl)
            · simp [eqA] at hq
          · rw [eqA_junk] at hq; simp at hq
        · rintro ⟨u, v, rfl, rfl⟩
          obtain ⟨cs, rfl⟩ := ha.agg_inv
          obtain ⟨ds, rfl⟩ := hb.agg_inv
          exact absurd rfl (h2 cs ds rfl)
    split at h
    · simp only [Option.bind_eq_some_iff, Option.some.injEq] at h
      obtain ⟨q, hq, rfl⟩ := h
      obtain ⟨h1, h2⟩ := key hq (.inl rfl)
      refine ⟨.bool q, ?_, Rep.bool' _⟩
      rw [Sem.run_bind, h1]
      exact equal_bin ha hb h2 ⟨_, hq⟩ hni hns (.inl rfl)
    · simp only [Option.bind_eq_some_iff, Option.some.injEq] at h
      obtain ⟨q, hq, rfl⟩ := h
      obtain ⟨h1, h2⟩ := key hq (.inr rfl)
      refine ⟨.bool !q, ?_, Rep.bool' _⟩
      rw [Sem.run_bind, h1]
      exact equal_bin ha hb h2 ⟨_, hq⟩ hni hns (.inr rfl)
    · simp at h
end
end Go.Ev
set_option linter.unusedVariables false
set_option linter.unusedSimpArgs false
namespace Go.Ev
section
variable {P : Program} {F : Froz} {φ : Phi} {st : St} {w : World} {σ : Trie AV} {ρ : Operand → Value}
theorem bnd_of {x : Option Operand} {v : Option AV} {n : Option Int} (hO : ∀ y ∈ x.toList, Opnd P φ σ ρ y) (h : evalO P σ x = some v) (h2 : optInt v = some n) : Bnd n (x.map ρ) := by
  cases x with
  | none =>
    simp only [evalO, Option.some.injEq] at h; subst h
    simp only [optInt, Option.some.injEq] at h2; subst h2
    simp [Bnd]
  | some x =>
    simp only [evalO, Option.bind_eq_some_iff, Option.some.injEq] at h
    obtain ⟨y, hy, rfl⟩ := h
    have := hO x (by simp) y hy
    unfold optInt at h2
    split at h2
    · rename_i e; simp at e
    · rename_i k m e
      simp only [Option.some.injEq] at e h2; subst e h2
      simp only [Rep] at this
      exact ⟨k, by simp [this]⟩
    · simp at h2
theorem run_val {s : Sem Value} {u : Value} (h : s.run P w = .ok u w) : (do pure (Next.value (← s)) : Sem Next).run P w = .ok (.value u) w := run_v h
set_option maxHeartbeats 2000000 in
theorem quiet_rep (hR : RelQ P F φ st w) {o : Oper} {x : AV} (hO : ∀ y ∈ o.op.operands, Opnd P φ σ ρ y) (hq : isQuiet P o.op = true) (h : quietA P σ st o.op = some x) :
    ∃ v, (execOp ρ o).run P w = .ok (.value v) w ∧ Rep φ x v := by
  obtain ⟨dst, op, type, pos, after, guard⟩ := o
  cases op <;> simp only [quietA, reduceCtorEq] at h <;> simp only [Op.operands] at hO <;> simp only [execOp]
  case move y => exact ⟨_, by simp, hO y (by simp) x h⟩
  case assign y => exact ⟨_, by simp, hO y (by simp) x h⟩
  case pick c a b =>
    simp only [Option.bind_eq_some_iff] at h
    obtain ⟨t, ht, h⟩ := h
    have hc := hO c (by simp) t ht
    split at h
    · simp only [Rep] at hc
      exact ⟨ρ a, by simp [Sem.run_bind, hc, asBool, Result.andThen], hO a (by simp) x h⟩
    · simp only [Rep] at hc
      exact ⟨ρ b, by simp [Sem.run_bind, hc, asBool, Result.andThen], hO b (by simp) x h⟩
    · simp at h
  case build t ps =>
    simp only [Option.bind_eq_some_iff] at h
    obtain ⟨vs, hvs, h⟩ := h
    have hp := evalPs_rep (ρ := ρ) (fun y hy => hO y.2 (by simp; exact ⟨y.1, by simpa using hy⟩)) hvs
    obtain ⟨u, hu, hr⟩ := build_rep hp h w
    refine ⟨u, run_val ?_, hr⟩
    rw [← hu]
    congr 2
    apply Array.ext'
    simp
  case load t a =>
    simp only [Option.bind_eq_some_iff] at h
    obtain ⟨y, hy, h⟩ := h
    have ha := hO a (by simp) y hy
    unfold loadA at h
    split at h
    · rename_i id off
      simp only [Option.bind_eq_some_iff] at h
      obtain ⟨cs, hcs, h⟩ := h
      obtain ⟨l, hl⟩ := hR.cellsAt hcs
      obtain ⟨v, hv, hr⟩ := run_loadVarA hl h
      simp only [Rep] at ha
      obtain ⟨l', hl', ha⟩ := ha
      rw [hl.loc] at hl'; simp at hl'; subst hl'
      exact ⟨v, run_val (by simp [Instr.loadAt, Sem.run_bind, ha, Instr.sureAddr, Result.andThen, hv]), hr⟩
    · simp at h
  case nilCheck y =>
    simp only [Option.bind_eq_some_iff] at h
    obtain ⟨v, hv, h⟩ := h
    have ha := hO y (by simp) v hv
    split at h
    · rename_i a
      simp only [Option.some.injEq] at h; subst h
      refine ⟨ρ y, ?_, ha⟩
      simp only [Rep] at ha
      obtain ⟨l, _, e⟩ := ha
      simp [e]
    · rename_i f a b
      simp only [Option.some.injEq] at h; subst h
      refine ⟨ρ y, ?_, ha⟩
      simp only [Rep] at ha
      obtain ⟨_, _, e, _⟩ := ha
      simp [e]
    · simp at h
  case binOp op t a b ty =>
    simp only [Option.bind_eq_some_iff] at h
    obtain ⟨u, hu, v, hv, h⟩ := h
    obtain ⟨r, hr, hx⟩ := bin_rep hR (hO a (by simp) u hu) (hO b (by simp) v hv) h
    exact ⟨r, run_val hr, hx⟩
  case unOp op t a =>
    simp only [Option.bind_eq_some_iff] at h
    obtain ⟨u, hu, h⟩ := h
    have ha := hO a (by simp) u hu
    unfold unA at h
    split at h
    · simp only [Option.some.injEq] at h; subst h
      simp only [Rep] at ha
      exact ⟨_, run_val (by rw [ha]; simp only [Op.unary, Op.intArith, Sem.run_pure]), Rep.int' _ _⟩
    · simp only [Option.some.injEq] at h; subst h
      simp only [Rep] at ha
      exact ⟨_, run_val (by rw [ha]; simp only [Op.unary, Sem.run_pure]), Rep.bool' _⟩
    · simp at h
  case convert s d a =>
    simp only [Option.bind_eq_some_iff] at h
    obtain ⟨u, hu, h⟩ := h
    obtain ⟨r, hr, hx⟩ := conv_rep hR (hO a (by simp) u hu) h
    exact ⟨r, run_val hr, hx⟩
  case makeInterface t a =>
    simp only [Option.bind_eq_some_iff] at h
    obtain ⟨u, hu, h⟩ := h
    have ha := hO a (by simp) u hu
    split at h
    · simp at h
    · rename_i d hi hd
      simp only [Option.some.injEq] at h; subst h
      refine ⟨.iface t (ρ a), run_val ?_, by simp only [Rep]; exact ⟨_, rfl, ha⟩⟩
      simp only [Instr.makeInterface, Sem.run_bind, run_underlying' w hd, Result.andThen]
      cases d with
      | interface ms => exact absurd rfl (hi ms)
      | _ => simp
    · simp at h
  case makeFunc f first cap =>
    simp only [Option.bind_eq_some_iff, Option.some.injEq] at h
    obtain ⟨a, ha, b, hb, rfl⟩ := h
    refine ⟨.func f (first.map ρ) (cap.map ρ), run_val (by simp [Instr.makeFunc]), ?_⟩
    simp only [Rep]
    exact ⟨_, _, rfl, by simpa using evalL_rep (ρ := ρ) (fun y hy => hO y (by simp; exact .inl (by simpa using hy))) ha, by simpa using evalL_rep (ρ := ρ) (fun y hy => hO y (by simp; exact .inr (by simpa using hy))) hb⟩
  case slice t a lo hi mx =>
    simp only [Option.bind_eq_some_iff] at h
    obtain ⟨v, hv, l, hl, hh, hhh, m, hm, l', hl', h', hh', m', hm', h⟩ := h
    obtain ⟨u, hu, hr⟩ := slice_rep hR (hO a (by simp) v hv) (bnd_of (fun y hy => hO y (by simp at hy ⊢; simp [hy])) hl hl') (bnd_of (fun y hy => hO y (by simp at hy ⊢; simp [hy])) hhh hh') (bnd_of (fun y hy => hO y (by simp at hy ⊢; simp [hy])) hm hm') h
    exact ⟨u, run_val hu, hr⟩
  case fieldAddr t a i =>
    simp only [Option.bind_eq_some_iff] at h
    obtain ⟨v, hv, fs, hfs, f, hf, n, hn, h⟩ := h
    have ha := hO a (by simp) v hv
    split at h
    · rename_i id off
      split at h
      · simp at h
      · rename_i h0
        simp only [Option.some.injEq] at h; subst h
        obtain ⟨u, hu, hr⟩ := fieldAddr_rep (w := w) hfs hf hn h0 ha
        exact ⟨u, run_val hu, hr⟩
    · simp at h
  case field t a i =>
    simp only [Option.bind_eq_some_iff] at h
    obtain ⟨v, hv, fs, hfs, f, hf, h⟩ := h
    have ha := hO a (by simp) v hv
    split at h
    · obtain ⟨u, hu, hr⟩ := field_rep (w := w) hfs hf ha h
      exact ⟨u, run_val hu, hr⟩
    · simp at h
  case indexAddr t a i =>
    simp only [Option.bind_eq_some_iff] at h
    obtain ⟨u, hu, v, hv, h⟩ := h
    obtain ⟨r, hr, hx⟩ := indexAddr_rep (w := w) (hO a (by simp) u hu) (hO i (by simp) v hv) h
    exact ⟨r, run_val hr, hx⟩
  case index t a i =>
    simp only [Option.bind_eq_some_iff] at h
    obtain ⟨u, hu, v, hv, h⟩ := h
    obtain ⟨r, hr, hx⟩ := index_rep (w := w) (hO a (by simp) u hu) (hO i (by simp) v hv) h
    exact ⟨r, run_val hr, hx⟩
  case lookup t a k ok =>
    simp only [Option.bind_eq_some_iff] at h
    obtain ⟨u, hu, v, hv, h⟩ := h
    obtain ⟨r, hr, hx⟩ := lookup_rep hR (hO a (by simp) u hu) (hO k (by simp) v hv) h
    exact ⟨r, run_val hr, hx⟩
  case extract t i =>
    simp only [Option.bind_eq_some_iff] at h
    obtain ⟨v, hv, h⟩ := h
    have ha := hO t (by simp) v hv
    split at h
    · rename_i vs
      simp only [Rep] at ha
      obtain ⟨y, e, hy⟩ := ha
      obtain ⟨u, hu, hr⟩ := hy.get h
      simp only [Array.getElem?_toList] at hu
      exact ⟨u, run_val (by rw [e]; simp [Instr.extract, hu]), hr⟩
    · simp at h
  case typeAssert a ty t ok =>
    simp only [Option.bind_eq_some_iff] at h
    obtain ⟨v, hv, h⟩ := h
    have ha := hO a (by simp) v hv
    split at h
    · simp at h
    · rename_i d u y hi hd
      split at h <;> simp only [Option.some.injEq, reduceCtorEq] at h
      rename_i hut
      subst hut h
      simp only [Rep] at ha
      obtain ⟨z, e, hz⟩ := ha
      have hrun : (Instr.typeAssert (ρ a) ty u ok).run P w = .ok (if ok then .tuple #[z, .bool true] else z) w := by
        rw [e]
        cases d with
        | interface ms => exact absurd rfl (hi ms)
        | _ => simp [Instr.typeAssert, Sem.run_bind, run_underlying' w hd, Result.andThen]
      refine ⟨_, run_val hrun, ?_⟩
      cases ok
      · simpa using hz
      · simp only [if_true, Rep]
        exact ⟨_, rfl, Reps.cons' hz (Reps.cons' (Rep.bool' _) Reps.nil')⟩
    · simp at h
  case call c =>
    simp only [Option.bind_eq_some_iff] at h
    obtain ⟨args, ha, h⟩ := h
    obtain ⟨callee, cargs, tys⟩ := c
    have hargs : Reps φ args (cargs.map ρ).toList := by
      simpa using evalL_rep (ρ := ρ) (fun y hy => hO y (by simp [Call.operands]; exact .inr (by simpa using hy))) ha
    cases callee with
    | value f => simp at h
    | invoke r m => simp at h
    | builtin b =>
      have hres : ∀ (ts : Array TypeId), ts = tys → (do
          let d ← resolve ρ { callee := .builtin b, args := cargs, argTypes := tys } type
          invoke d.target d.args : Sem Next) = builtin b ts type (cargs.map fun | .const _ => true | _ => false) (cargs.map ρ) := by
        rintro ts rfl; rfl
      rw [hres tys rfl]
      split at h
      · rename_i t ts y e1 e2
        simp only [Callee.builtin.injEq] at e1; subst e1
        obtain ⟨v, q, e, hv, _⟩ := hargs.cons
        have h0 : tys[0]? = some t := by
          have := congrArg (·[0]?) e2; simpa using this
        have h1 : (cargs.map ρ)[0]? = some v := by
          have := congrArg (·[0]?) e; simpa using this
        obtain ⟨u, hu, hr⟩ := len_rep (ty := type) hR h0 h1 hv h
        exact ⟨u, run_val hu, hr⟩
      · rename_i t ts a n m e1 e2
        simp only [Callee.builtin.injEq] at e1; subst e1
        obtain ⟨v, q, e, hv, _⟩ := hargs.cons
        have h0 : tys[0]? = some t := by
          have := congrArg (·[0]?) e2; simpa using this
        have h1 : (cargs.map ρ)[0]? = some v := by
          have := congrArg (·[0]?) e; simpa using this
        split at h <;> simp only [Option.some.injEq, reduceCtorEq] at h
        rename_i et hu
        subst h
        have : ∃ a', v = .slice a' n m := by
          cases a with
          | none => simp only [Rep] at hv; obtain ⟨rfl, hm, rfl⟩ := hv; simp only [Option.some.injEq] at hm; subst hm; exact ⟨_, rfl⟩
          | some a => simp only [Rep] at hv; obtain ⟨l, _, _, _, _, rfl⟩ := hv; exact ⟨_, rfl⟩
        obtain ⟨a', rfl⟩ := this
        exact ⟨_, run_val (s := Builtin.cap_ tys type (cargs.map ρ)) (by simp only [Builtin.cap_, h0, h1, Sem.run_bind, run_underlying' w hu, Result.andThen, goInt, Sem.run_pure]), Rep.int' _ _⟩
      · rename_i ts y ys e1
        simp only [Callee.builtin.injEq] at e1; subst e1
        obtain ⟨v, q, e, hv, hq⟩ := hargs.cons
        obtain ⟨u, hu, hr⟩ := min_rep (w := w) (P := P) hv hq h
        exact ⟨u, run_val (s := Builtin.min_ tys type (cargs.map ρ)) (by unfold Builtin.min_; rw [e]; exact hu), hr⟩
      · rename_i ts y ys e1
        simp only [Callee.builtin.injEq] at e1; subst e1
        obtain ⟨v, q, e, hv, hq⟩ := hargs.cons
        obtain ⟨u, hu, hr⟩ := max_rep (w := w) (P := P) hv hq h
        exact ⟨u, run_val (s := Builtin.max_ tys type (cargs.map ρ)) (by unfold Builtin.max_; rw [e]; exact hu), hr⟩
      · simp at h
end
end Go.Ev
set_option linter.unusedVariables false
set_option linter.unusedSimpArgs false
namespace Go.Ev
section
variable {P : Program} {F : Froz} {φ : Phi} {st : St} {w w' : World} {σ : Trie AV} {ρ : Operand → Value}
/-! ### Operations that make a block -/
/-- The world with one block more, some draws made. -/
structure Grew (w w' : World) (o : Obj) : Prop where
  heap : w'.heap = w.heap.push o
  os : w'.os = w.os
  tape : w'.tape = w.tape
  output : w'.output = w.output
theorem Grew.alloc (w : World) (o : Obj) : Grew w (w.alloc o) o := ⟨rfl, rfl, rfl, rfl⟩
theorem odd_ne (n : Nat) : (2 * n + 1) % 2 ≠ 0 := by omega
/-- A new block as it is told. -/
def NewOk (P : Program) (φ : Phi) (l : Loc) (o : Obj) : ABlk → Prop
  | .cells cs e g => ∃ (C : Array Value) (fz : Nat × Nat), o = .cells C e fz ∧ l.size = C.size ∧ l.base = 0 ∧ cs.length ≤ C.size ∧ (∃ i, P.info? e = some i ∧ i.size = l.sz) ∧
      (∀ (i : Nat) (x : AV), cs[i]? = some x → ∃ v, C[i]? = some v ∧ Rep φ x v) ∧ (fz = (0, 0) ∨ (isByte P e = true ∧ C.size ≤ fz.1)) ∧ (g % 2 = 0 → cs.length = C.size)
  | .ro _ => False
  | .map es => o = .map #[] 0 ∧ es = []
  | .iter s pos => o = .stringIter ⟨s.toArray⟩ pos ∧ l.base = 0
theorem reps_get {φ : Phi} {cs : List AV} {C : Array Value} (h : Reps φ cs C.toList) : ∀ (i : Nat) (x : AV), cs[i]? = some x → ∃ v, C[i]? = some v ∧ Rep φ x v := fun i x hx => by
  obtain ⟨v, hv, p⟩ := h.get hx
  exact ⟨v, by simpa using hv, p⟩
theorem repsA_rep {z : List AV} {zv : Array Value} (h : Reps φ z zv.toList) (n : Nat) : Reps φ (repsA z n) (madeCells zv (n * z.length)).toList := by
  have hz : zv.size = z.length := by have := h.length; simpa using this
  induction n with
  | zero => simp [repsA, madeCells]; exact Reps.nil'
  | succ n ih =>
    have : (madeCells zv ((n + 1) * z.length)).toList = zv.toList ++ (madeCells zv (n * z.length)).toList := by
      apply List.ext_getElem?
      intro i
      simp only [madeCells, Array.toList_map, List.getElem?_map, Array.toList_range]
      by_cases hi : i < z.length
      · rw [List.getElem?_append_left (by simpa [hz] using hi)]
        rw [List.getElem?_range (by rw [Nat.add_mul]; omega)]
        simp only [Option.map_some]
        rw [hz, Nat.mod_eq_of_lt hi]
        have h2 : i < zv.size := by omega
        rw [Array.getElem?_toList, Array.getElem?_eq_getElem h2, getElem!_pos zv i h2]
      · rw [List.getElem?_append_right (by simp [hz]; omega)]
        simp only [Array.length_toList, hz]
        by_cases hi2 : i < (n + 1) * z.length
        · rw [List.getElem?_range hi2]
          simp only [List.getElem?_map, Array.toList_map, Array.toList_range]
          rw [List.getElem?_range (by rw [Nat.add_mul] at hi2; omega)]
          simp only [Option.map_some]
          rw [Nat.mod_eq_sub_mod (by omega)]
        · rw [List.getElem?_eq_none (by simp; omega)]
          simp only [List.getElem?_map, Array.toList_map, Array.toList_range]
          rw [List.getElem?_eq_none (by simp; rw [Nat.add_mul] at hi2; omega)]
    rw [this, repsA]
    exact h.append ih
theorem bytesA_rep (b : List UInt8) : Reps φ (bytesA b) (b.map fun c => Value.int .u8 c.toNat) := by
  induction b with
  | nil => exact Reps.nil'
  | cons c b ih => exact Reps.cons' (Rep.int' _ _) ih
set_option maxHeartbeats 1000000 in
theorem float_rep (hR : RelQ P F φ st w) {o : Oper} {b : ABlk} {x : AV} {id : Id} (hO : ∀ y ∈ o.op.operands, Opnd P φ σ ρ y) (hf : isFloat P o.op = true) (h : floatA P σ id o.op = some (b, x)) :
    ∃ l obj cv w', l.blk = w.heap.size ∧ (execOp ρ o).run P w = .ok (.value cv) w' ∧ Grew w w' obj ∧ NewOk P φ l obj b ∧ ∀ ψ : Phi, φ.le ψ → ψ id = some l → Rep ψ x cv := by
  obtain ⟨dst, op, type, pos, after, guard⟩ := o
  cases op <;> simp only [floatA, reduceCtorEq] at h <;> simp only [Op.operands] at hO <;> simp only [execOp]
  case alloc e =>
    simp only [Option.bind_eq_some_iff, Option.some.injEq, Prod.mk.injEq] at h
    obtain ⟨z, hz, rfl, rfl⟩ := h
    obtain ⟨i, zv, hi, hzv, ho⟩ := zeroA_spec hz
    have hr := (ofVal_rep (φ := φ) ho).cells
    refine ⟨⟨w.heap.size, 0, zv.cells.size, i.size⟩, .cells zv.cells e, .pointer (some ⟨w.heap.size, 0, none⟩), w.alloc (.cells zv.cells e), rfl, run_v ?_, Grew.alloc _ _, ?_, ?_⟩
    · simp only [Instr.alloc, Sem.run_bind, run_zeroValue' w hi hzv, Result.andThen, newVar, newRow, newObj, Sem.run_pure]
      rfl
    · exact ⟨zv.cells, (0, 0), rfl, rfl, rfl, by have := hr.length; simp at this; simp; omega, ⟨i, hi, rfl⟩, reps_get hr, .inl rfl, fun _ => by have := hr.length; simp only [Array.length_toList] at this; exact this.symm⟩
    · intro ψ _ hl; simp only [Rep]; exact ⟨_, hl, rfl⟩
  case box e y =>
    simp only [Option.bind_eq_some_iff, Option.some.injEq, Prod.mk.injEq] at h
    obtain ⟨v, hv, n, hn, rfl, rfl⟩ := h
    obtain ⟨i, hi, rfl⟩ := run_sizeA hn
    have hr := (hO y (by simp) v hv).cells
    refine ⟨⟨w.heap.size, 0, (ρ y).cells.size, i.size⟩, .cells (ρ y).cells e, .pointer (some ⟨w.heap.size, 0, none⟩), w.alloc (.cells (ρ y).cells e), rfl, run_v ?_, Grew.alloc _ _, ?_, ?_⟩
    · simp only [Instr.box, Sem.run_bind, Result.andThen, newVar, newRow, newObj, Sem.run_pure]
      rfl
    · exact ⟨(ρ y).cells, (0, 0), rfl, rfl, rfl, by have := hr.length; simp at this; simp; omega, ⟨i, hi, rfl⟩, reps_get hr, .inl rfl, fun _ => by have := hr.length; simp only [Array.length_toList] at this; exact this.symm⟩
    · intro ψ _ hl; simp only [Rep]; exact ⟨_, hl, rfl⟩
  case buildSlice t len ps =>
    simp only [Option.bind_eq_some_iff] at h
    obtain ⟨e, he, n, hn, z, hz, vs, hvs, h⟩ := h
    split at h
    case isFalse => simp at h
    rename_i hc
    obtain ⟨hzl, hsm⟩ := hc
    simp only [Option.bind_eq_some_iff, Option.some.injEq, Prod.mk.injEq] at h
    obtain ⟨cs, hcs, rfl, rfl⟩ := h
    obtain ⟨i, hi, rfl⟩ := run_sizeA hn
    obtain ⟨i', zv, hi', hzv, ho⟩ := zeroA_spec hz
    rw [hi] at hi'; simp at hi'; subst hi'
    have hu : P.underlying t = some (.slice e) := by
      unfold elemA at he
      split at he
      · simp only [Option.some.injEq] at he; subst he; assumption
      · simp at he
    have hr := (ofVal_rep (φ := φ) ho).cells
    have hp := evalPs_rep (ρ := ρ) (fun y hy => hO y.2 (by simp; exact ⟨y.1, by simpa using hy⟩)) hvs
    have hrep := repsA_rep hr len
    rw [hzl] at hrep
    obtain ⟨D, hD, hrD⟩ := fill_rep _ hp hrep hcs
    refine ⟨⟨w.heap.size, 0, D.size, i.size⟩, .cells D e, .slice (some ⟨w.heap.size, 0, none⟩) len len, w.alloc (.cells D e), rfl, run_v ?_, Grew.alloc _ _, ?_, ?_⟩
    · have hps : (ps.map fun x => (x.1, ρ x.2)).toList = ps.toList.map fun x => (x.1, ρ x.2) := by simp
      by_cases h0 : len * i.size = 0
      · have hD' : Instr.fill (fun j => some (j * i.size, i.size)) #[] (ps.toList.map fun x => (x.1, ρ x.2)) = some D := by
          rw [← hD, h0]; simp [madeCells, Array.range_zero']
        have hD2 : Instr.fill (fun j => some (j * i.size, i.size)) #[] (ps.map fun x => (x.1, ρ x.2)).toList = some D := by rw [hps]; exact hD'
        rw [Instr.buildSlice]
        simp [run_underlying hu, sizeOf, typeInfo, hi, h0, hps, hD', newRow, Array.range_zero']
      · exact run_buildSlice w t e len _ D i zv hu hi hzv (by omega) h0 (by rw [hps]; exact hD)
    · exact ⟨D, (0, 0), rfl, rfl, rfl, by have := hrD.length; simp at this; omega, ⟨i, hi, rfl⟩, reps_get hrD, .inl rfl, fun _ => by have := hrD.length; simp only [Array.length_toList] at this; exact this.symm⟩
    · intro ψ _ hl; simp only [Rep]; exact ⟨_, _, hl, Nat.le_refl _, .inl rfl, rfl⟩
  case makeMap t r =>
    split at h
    · simp only [Option.some.injEq, Prod.mk.injEq] at h
      obtain ⟨rfl, rfl⟩ := h
      refine ⟨⟨w.heap.size, 0, 0, 0⟩, .map #[] 0, .map (some w.heap.size), w.alloc (.map #[] 0), rfl, run_v ?_, Grew.alloc _ _, ⟨rfl, rfl⟩, ?_⟩
      · simp [Instr.makeMap]
      · intro ψ _ hl; simp only [Rep]; exact ⟨_, hl, rfl⟩
    · simp at h
  case makeSlice t l c =>
    simp only [Option.bind_eq_some_iff] at h
    obtain ⟨lv, hl, cv, hc, e, he, z, hz, n, hn, h⟩ := h
    split at h
    case h_2 => simp at h
    rename_i kl li kc ci
    split at h
    case isFalse => simp at h
    rename_i hcond
    obtain ⟨h0, hlc, hcs, hzl, hcs'⟩ := hcond
    simp only [Option.some.injEq, Prod.mk.injEq] at h
    obtain ⟨rfl, rfl⟩ := h
    obtain ⟨i, hi, rfl⟩ := run_sizeA hn
    obtain ⟨i', zv, hi', hzv, ho⟩ := zeroA_spec hz
    rw [hi] at hi'; simp at hi'; subst hi'
    have hu : P.underlying t = some (.slice e) := by
      unfold elemA at he
      split at he
      · simp only [Option.some.injEq] at he; subst he; assumption
      · simp at he
    have hr := (ofVal_rep (φ := φ) ho).cells
    have hl' := hO l (by simp) _ hl
    have hc' := hO c (by simp) _ hc
    simp only [Rep] at hl' hc'
    have hrep := repsA_rep hr ci.toNat
    rw [hzl] at hrep
    obtain ⟨hcell, hfew⟩ := hcs'
    have hb : i.bytes ≤ 2 ^ 16 := by
      unfold fewA at hfew
      rw [hi] at hfew
      simpa using hfew
    have hbytes : (i.bytes : Int) * ci ≤ 281474976710656 := by
      have h1 : (i.bytes : Int) ≤ 65536 := by have h9 : i.bytes ≤ 65536 := hb; omega
      have h2 : ci ≤ 1048576 := by omega
      have h3 : (i.bytes : Int) * ci ≤ 65536 * ci := Int.mul_le_mul_of_nonneg_right h1 (by omega)
      have h4 : (65536 : Int) * ci ≤ 65536 * 1048576 := Int.mul_le_mul_of_nonneg_left h2 (by omega)
      omega
    refine ⟨⟨w.heap.size, 0, (madeCells zv.cells (ci.toNat * i.size)).size, i.size⟩, .cells (madeCells zv.cells (ci.toNat * i.size)) e, .slice (some ⟨w.heap.size, 0, none⟩) li.toNat ci.toNat, w.alloc _, rfl, run_v ?_, Grew.alloc _ _, ?_, ?_⟩
    · rw [hl', hc']
      exact run_makeSlice w t e i zv hu hi hzv kl kc li ci h0 hlc (by omega) hbytes (by omega)
    · exact ⟨_, (0, 0), rfl, rfl, rfl, by have := hrep.length; simp only [Array.length_toList] at this; exact Nat.le_of_eq this.symm, ⟨i, hi, rfl⟩, reps_get hrep, .inl rfl, fun _ => by have := hrep.length; simp only [Array.length_toList] at this; exact this.symm⟩
    · intro ψ _ hl; simp only [Rep]; exact ⟨_, _, hl, by omega, .inl rfl, rfl⟩
  case convert s d y =>
    simp only [Option.bind_eq_some_iff] at h
    obtain ⟨v, hv, h⟩ := h
    split at h
    case h_2 => simp at h
    rename_i e bs hd
    split at h
    case isFalse => simp at h
    rename_i hb
    obtain ⟨hb, hsz1⟩ := hb
    simp only [Option.some.injEq, Prod.mk.injEq] at h
    obtain ⟨rfl, rfl⟩ := h
    have hu8 : P.underlying e = some (.int .u8) := by
      unfold isByte at hb
      split at hb
      · assumption
      · simp at hb
    have hv' := hO y (by simp) _ hv
    simp only [Rep] at hv'
    have hs : P.underlying s = some .string := by
      simp only [isFloat] at hf
      split at hf
      · assumption
      · simp at hf
    obtain ⟨ei, hei, hes⟩ := run_sizeA hsz1
    have hcs : (Lib.bytesCells w e ⟨bs.toArray⟩).size = grownCap w bs.length 0 e := by
      have := grownCap_ge w bs.length 0 e
      simp [Lib.bytesCells, ByteArray.size]
      omega
    refine ⟨⟨w.heap.size, 0, (Lib.bytesCells w e ⟨bs.toArray⟩).size, 1⟩, .cells (Lib.bytesCells w e ⟨bs.toArray⟩) e ((Lib.bytesCells w e ⟨bs.toArray⟩).size, (Lib.bytesCells w e ⟨bs.toArray⟩).size + 1), .slice (some ⟨w.heap.size, 0, none⟩) bs.length (grownCap w bs.length 0 e), Lib.bytesWorld w e ⟨bs.toArray⟩, rfl, run_v ?_, ?_, ?_, ?_⟩
    · rw [hv']
      exact Lib.run_convert_string_bytes w s d e _ hs hd hu8
    · refine ⟨?_, rfl, rfl, rfl⟩
      apply Array.ext_getElem?
      intro j
      rw [Array.getElem?_push]
      by_cases hj : j = w.heap.size
      · subst hj
        rw [Lib.bytesWorld_at_new, if_pos rfl]
      · rw [if_neg hj]
        by_cases hj2 : j < w.heap.size
        · exact Lib.bytesWorld_at_old w e _ j hj2
        · rw [Array.getElem?_eq_none (by rw [Lib.bytesWorld_size]; omega), Array.getElem?_eq_none (by omega)]
    · refine ⟨_, _, rfl, rfl, rfl, ?_, ⟨ei, hei, ?_⟩, ?_, .inr ⟨hb, Nat.le_refl _⟩, fun h => absurd h (odd_ne id)⟩
      · rw [hcs]; simp [bytesA]; exact grownCap_ge w bs.length 0 e
      · exact hes
      · intro i x hx
        obtain ⟨v, hv, hr⟩ := (bytesA_rep (φ := φ) bs).get hx
        refine ⟨v, ?_, hr⟩
        rw [List.getElem?_eq_some_iff] at hv
        obtain ⟨hlt, hv⟩ := hv
        simp at hlt hv
        simp only [Lib.bytesCells]
        rw [Array.getElem?_append_left (by simp; omega)]
        simp [hlt, hv]
    · intro ψ _ hl
      simp only [Rep]
      exact ⟨_, 0, grownCap w bs.length 0 e, hl, grownCap_ge w bs.length 0 e, by simp [hcs], .inl rfl, rfl⟩
end
end Go.Ev
set_option linter.unusedVariables false
set_option linter.unusedSimpArgs false
namespace Go.Ev
/-! ### The heap is changed -/
structure Keep (F : Froz) (w w' : World) : Prop where
  os : w'.os = w.os
  tape : w'.tape = w.tape
  output : w'.output = w.output
  size : w.heap.size ≤ w'.heap.size
  same : ∀ k, F k → w'.heap[k]? = w.heap[k]?
theorem Keep.refl {F : Froz} (w : World) : Keep F w w := ⟨rfl, rfl, rfl, Nat.le_refl _, fun _ _ => rfl⟩
theorem Keep.trans {F : Froz} {w w' w'' : World} (h : Keep F w w') (k : Keep F w' w'') : Keep F w w'' :=
  ⟨k.os.trans h.os, k.tape.trans h.tape, k.output.trans h.output, Nat.le_trans h.size k.size, fun i hi => (k.same i hi).trans (h.same i hi)⟩
theorem Keep.mono {F G : Froz} {w w' : World} (h : Keep F w w') (hg : ∀ k, G k → F k) : Keep G w w' := ⟨h.os, h.tape, h.output, h.size, fun k hk => h.same k (hg k hk)⟩

/-- The newer ones of a group end no earlier. -/
def Later (φ : Phi) (st : St) (g i j : Id) : Prop := ∀ ci ei cj ej li lj, st.heap.get i = some (.cells ci ei g) → st.heap.get j = some (.cells cj ej g) → φ i = some li → φ j = some lj → li.blk = lj.blk →
  lj.base + cj.length ≤ li.base + ci.length
structure Rel (P : Program) (F : Froz) (φ : Phi) (st : St) (w : World) : Prop extends RelQ P F φ st w where
  fresh : ∀ id, st.next ≤ id → φ id = none
  low : ∀ k, F k → k < w.heap.size
  maps : ∀ i j ei ej li lj, i ≠ j → st.heap.get i = some (.map ei) → st.heap.get j = some (.map ej) → φ i = some li → φ j = some lj → li.blk ≠ lj.blk
  iters : ∀ i j si pi sj pj li lj, i ≠ j → st.heap.get i = some (.iter si pi) → st.heap.get j = some (.iter sj pj) → φ i = some li → φ j = some lj → li.blk ≠ lj.blk
  ord : ∀ g l, st.grps.get g = some l → l.Pairwise (Later φ st g)
  born : ∀ g l, st.grps.get g = some l → ∀ i ∈ l, i < st.next

theorem BRel.loc {P : Program} {F : Froz} {φ : Phi} {w : World} {id : Id} {b : ABlk} (h : BRel P F φ w id b) : ∃ l o, φ id = some l ∧ w.heap[l.blk]? = some o := by
  cases b with
  | cells cs e g => obtain ⟨l, C, fz, h1, _, h2, _⟩ := h; exact ⟨l, _, h1, h2⟩
  | ro cs => obtain ⟨l, C, e, fz, h1, _, h2, _⟩ := h; exact ⟨l, _, h1, h2⟩
  | map es => obtain ⟨l, M, c, h1, _, h2, _⟩ := h; exact ⟨l, _, h1, h2⟩
  | iter s p => obtain ⟨l, h1, _, h2, _⟩ := h; exact ⟨l, _, h1, h2⟩
theorem RepM.mono {φ ψ : Phi} (h : φ.le ψ) : ∀ {es : List (AV × AV)} {ms : List MapEntry}, RepM φ es ms → RepM ψ es ms
  | [], ms, hr => hr
  | e :: es, ms, ⟨m, r, h1, h2, h3, h4⟩ => ⟨m, r, h1, h2.mono h, h3.mono h, h4.mono h⟩
theorem BRel.keep {P : Program} {F : Froz} {φ ψ : Phi} {w w' : World} {id : Id} {b : ABlk} (h : BRel P F φ w id b) (hψ : φ.le ψ) (hw : ∀ l, φ id = some l → w'.heap[l.blk]? = w.heap[l.blk]?) : BRel P F ψ w' id b := by
  cases b with
  | cells cs e g =>
    obtain ⟨l, C, fz, h1, h2, h3, h4, h5, h6, h7, h8, h9⟩ := h
    exact ⟨l, C, fz, hψ _ _ h1, h2, (hw l h1).trans h3, h4, h5, h6, fun i x hx => by obtain ⟨v, hv, hr⟩ := h7 i x hx; exact ⟨v, hv, hr.mono hψ⟩, h8, h9⟩
  | ro cs =>
    obtain ⟨l, C, e, fz, h1, h2, h3, h4⟩ := h
    exact ⟨l, C, e, fz, hψ _ _ h1, h2, (hw l h1).trans h3, fun i x hx => by obtain ⟨v, hv, hr⟩ := h4 i x hx; exact ⟨v, hv, hr.mono hψ⟩⟩
  | map es =>
    obtain ⟨l, M, c, h1, h2, h3, h4⟩ := h
    exact ⟨l, M, c, hψ _ _ h1, h2, (hw l h1).trans h3, h4.mono hψ⟩
  | iter s p =>
    obtain ⟨l, h1, h2, h3, h4⟩ := h
    exact ⟨l, hψ _ _ h1, h2, (hw l h1).trans h3, h4⟩
section
variable {P : Program} {F : Froz} {φ ψ : Phi} {st : St} {w w' : World}
theorem RelQ.blkLt (hR : RelQ P F φ st w) {id : Id} {b : ABlk} {l : Loc} (h : st.heap.get id = some b) (hl : φ id = some l) : l.blk < w.heap.size := by
  obtain ⟨l', o, h1, h2⟩ := (hR.blk id b h).loc
  rw [hl] at h1; simp at h1; subst h1
  exact (Array.getElem?_eq_some_iff.1 h2).1
/-- Whatever shares memory with cells is of their group. -/
theorem RelQ.shares (hR : RelQ P F φ st w) {i j : Id} {ci : List AV} {ei : TypeId} {gi : Id} {b : ABlk} {li lj : Loc} (hne : i ≠ j) (hi : st.heap.get i = some (.cells ci ei gi)) (hj : st.heap.get j = some b)
    (hli : φ i = some li) (hlj : φ j = some lj) (he : li.blk = lj.blk) : (∃ cj ej, b = .cells cj ej gi) ∧ ∃ l, st.grps.get gi = some l ∧ i ∈ l ∧ j ∈ l := by
  obtain ⟨l1, C, fz, h1, h2, h3, _⟩ := hR.blk i _ hi
  rw [hli] at h1; simp at h1; subst h1
  have hb := hR.blk j b hj
  cases b with
  | cells cs e g =>
    obtain ⟨rfl, hl⟩ := hR.inj i j _ _ _ _ _ _ li lj hne hi hj hli hlj he
    exact ⟨⟨_, _, rfl⟩, hl⟩
  | ro cs =>
    obtain ⟨l2, C2, e2, fz2, k1, k2, k3, _⟩ := hb
    rw [hlj] at k1; simp at k1; subst k1
    rw [he] at h2; exact absurd (F.le _ k2) h2
  | map es =>
    obtain ⟨l2, M, c, k1, k2, k3, _⟩ := hb
    rw [hlj] at k1; simp at k1; subst k1
    rw [he, k3] at h3; simp at h3
  | iter s p =>
    obtain ⟨l2, k1, k2, k3, _⟩ := hb
    rw [hlj] at k1; simp at k1; subst k1
    rw [he, k3] at h3; simp at h3
/-- A new number. -/
def Phi.add (φ : Phi) (n : Id) (l : Loc) : Phi := fun i => if i = n then some l else φ i
theorem Phi.le_add {φ : Phi} {n : Id} {l : Loc} (h : φ n = none) : φ.le (φ.add n l) := fun i k e => by
  unfold Phi.add
  split
  · rename_i hi; subst hi; rw [h] at e; simp at e
  · exact e
theorem Phi.add_self {φ : Phi} {n : Id} {l : Loc} : φ.add n l n = some l := by simp [Phi.add]
theorem Phi.add_other {φ : Phi} {n i : Id} {l : Loc} (h : i ≠ n) : φ.add n l i = φ i := by simp [Phi.add, h]
theorem Rel.unborn (hR : Rel P F φ st w) {id : Id} (h : st.next ≤ id) : st.heap.get id = none := by
  cases hb : st.heap.get id with
  | none => rfl
  | some b =>
    obtain ⟨l, _, h1, _⟩ := (hR.blk id b hb).loc
    rw [hR.fresh id h] at h1; simp at h1
theorem Rel.add (hR : Rel P F φ st w) {o : Obj} {l : Loc} {b : ABlk} (hnew : w'.heap[l.blk]? = some o) (hn : NewOk P φ l o b) (hnF : ¬ F l.blk) (hap : ∀ i c li, st.heap.get i = some c → φ i = some li → li.blk ≠ l.blk)
    (hold : ∀ i c li, st.heap.get i = some c → φ i = some li → w'.heap[li.blk]? = w.heap[li.blk]?) (hlow : ∀ k, F k → k < w'.heap.size) : Rel P F (φ.add st.next l) (st.alloc b) w' := by
  have hle : φ.le (φ.add st.next l) := Phi.le_add (hR.fresh _ (Nat.le_refl _))
  have hget : ∀ i, (st.alloc b).heap.get i = if i = st.next then some b else st.heap.get i := fun i => Trie.get_put _ _ _ _
  have other : ∀ {i c li}, (st.alloc b).heap.get i = some c → φ.add st.next l i = some li → i ≠ st.next → st.heap.get i = some c ∧ φ i = some li ∧ li.blk ≠ l.blk := fun {i c li} h1 h2 h3 => by
    rw [hget, if_neg h3] at h1
    rw [Phi.add_other h3] at h2
    exact ⟨h1, h2, hap _ _ _ h1 h2⟩
  have self : ∀ {i li}, φ.add st.next l i = some li → i = st.next → li = l := fun {i li} h1 h2 => by
    subst h2; rw [Phi.add_self] at h1; simpa using h1.symm
  refine ⟨⟨?_, ?_, ?_⟩, ?_, hlow, ?_, ?_, ?_, fun g L hL i hi => Nat.lt_succ_of_lt (hR.born g L hL i hi)⟩
  · intro id c hc
    rw [hget] at hc
    split at hc
    · rename_i hid
      subst hid
      simp at hc; subst hc
      cases b with
      | cells cs e g =>
        obtain ⟨C, fz, rfl, h1, h2, h3, h4, h5, h6, h7⟩ := hn
        exact ⟨l, C, fz, Phi.add_self, hnF, hnew, h1.symm, by omega, h4, fun i x hx => by obtain ⟨v, hv, hr⟩ := h5 i x hx; exact ⟨v, by rw [h2, Nat.zero_add]; exact hv, hr.mono hle⟩, h6, h2, fun h => (h7 h).trans h1.symm⟩
      | ro cs => exact hn.elim
      | map es =>
        obtain ⟨rfl, rfl⟩ := hn
        exact ⟨l, #[], 0, Phi.add_self, hnF, hnew, rfl⟩
      | iter s p =>
        obtain ⟨rfl, h0⟩ := hn
        exact ⟨l, Phi.add_self, hnF, hnew, h0⟩
    · exact (hR.blk id c hc).keep hle fun k hk => hold _ _ _ hc hk
  · intro g hlt
    obtain ⟨k, h1, h2⟩ := hR.glob g hlt
    exact ⟨k, hle _ _ h1, h2⟩
  · intro i j ci ei gi cj ej gj li lj hne h1 h2 h3 h4 h5
    by_cases hi : i = st.next <;> by_cases hj : j = st.next
    · exact absurd (hi.trans hj.symm) hne
    · obtain rfl := self h3 hi
      exact absurd h5.symm (other h2 h4 hj).2.2
    · obtain rfl := self h4 hj
      exact absurd h5 (other h1 h3 hi).2.2
    · obtain ⟨k1, k2, _⟩ := other h1 h3 hi
      obtain ⟨k3, k4, _⟩ := other h2 h4 hj
      exact hR.inj i j _ _ _ _ _ _ li lj hne k1 k3 k2 k4 h5
  · intro id hid
    have : st.next + 1 ≤ id := hid
    have h9 : id ≠ st.next := Nat.ne_of_gt this
    rw [Phi.add_other h9]
    exact hR.fresh id (Nat.le_of_succ_le this)
  · intro i j ei ej li lj hne h1 h2 h3 h4 h5
    by_cases hi : i = st.next <;> by_cases hj : j = st.next
    · exact absurd (hi.trans hj.symm) hne
    · obtain rfl := self h3 hi
      exact absurd h5.symm (other h2 h4 hj).2.2
    · obtain rfl := self h4 hj
      exact absurd h5 (other h1 h3 hi).2.2
    · obtain ⟨k1, k2, _⟩ := other h1 h3 hi
      obtain ⟨k3, k4, _⟩ := other h2 h4 hj
      exact hR.maps i j _ _ li lj hne k1 k3 k2 k4 h5
  · intro i j si pi sj pj li lj hne h1 h2 h3 h4 h5
    by_cases hi : i = st.next <;> by_cases hj : j = st.next
    · exact absurd (hi.trans hj.symm) hne
    · obtain rfl := self h3 hi
      exact absurd h5.symm (other h2 h4 hj).2.2
    · obtain rfl := self h4 hj
      exact absurd h5 (other h1 h3 hi).2.2
    · obtain ⟨k1, k2, _⟩ := other h1 h3 hi
      obtain ⟨k3, k4, _⟩ := other h2 h4 hj
      exact hR.iters i j _ _ _ _ li lj hne k1 k3 k2 k4 h5
  · intro g L hL
    refine (hR.ord g L hL).imp fun {i j} h => ?_
    intro ci ei cj ej li lj h1 h2 h3 h4 h5
    by_cases hi : i = st.next <;> by_cases hj : j = st.next
    · obtain rfl := self h3 hi
      obtain rfl := self h4 hj
      obtain rfl : i = j := hi.trans hj.symm
      rw [h1] at h2; simp at h2
      rw [h2.1]
      exact Nat.le_refl _
    · obtain rfl := self h3 hi
      exact absurd h5.symm (other h2 h4 hj).2.2
    · obtain rfl := self h4 hj
      exact absurd h5 (other h1 h3 hi).2.2
    · obtain ⟨k1, k2, _⟩ := other h1 h3 hi
      obtain ⟨k3, k4, _⟩ := other h2 h4 hj
      exact h ci ei cj ej li lj k1 k3 k2 k4 h5
theorem Rel.alloc (hR : Rel P F φ st w) {o : Obj} {l : Loc} {b : ABlk} (hg : Grew w w' o) (hl : l.blk = w.heap.size) (hn : NewOk P φ l o b) :
    Rel P F (φ.add st.next l) (st.alloc b) w' ∧ Keep F w w' := by
  have hsize : w'.heap.size = w.heap.size + 1 := by rw [hg.heap]; simp
  have hold : ∀ k, k < w.heap.size → w'.heap[k]? = w.heap[k]? := fun k hk => by rw [hg.heap, Array.getElem?_push]; simp [Nat.ne_of_lt hk]
  refine ⟨hR.add (by rw [hg.heap, hl]; simp) hn (fun h => by have := hR.low _ h; omega) (fun i c li h1 h2 => by have := hR.blkLt h1 h2; omega) (fun i c li h1 h2 => hold _ (hR.blkLt h1 h2)) (fun k hk => by have := hR.low k hk; omega),
    hg.os, hg.tape, hg.output, by omega, fun k hk => hold k (hR.low k hk)⟩
theorem kill_get : ∀ (l : List Id) (h : Trie ABlk) (i : Id), (kill h l).get i = if i ∈ l then none else h.get i
  | [], h, i => by simp [kill]
  | a :: l, h, i => by
    rw [kill, kill_get l, Trie.get_put]
    by_cases h1 : i ∈ l
    · simp [h1]
    · by_cases h2 : i = a
      · simp [h2]
      · simp [h1, h2]
/-- Cells of a block are written over. -/
structure Wrote (w w' : World) (b o : Nat) (vs : List Value) : Prop where
  os : w'.os = w.os
  tape : w'.tape = w.tape
  output : w'.output = w.output
  size : w'.heap.size = w.heap.size
  other : ∀ k, k ≠ b → w'.heap[k]? = w.heap[k]?
  own : ∀ C e fz, w.heap[b]? = some (.cells C e fz) → ∃ C' : Array Value, w'.heap[b]? = some (.cells C' e fz) ∧ C'.size = C.size ∧ ∀ i, i < C.size → C'[i]? = if o ≤ i ∧ i < o + vs.length then vs[i - o]? else C[i]?
theorem wrote_setCells (b : Nat) : ∀ (vs : List Value) (o : Nat) (w : World), Wrote w (w.setCells b o vs) b o vs
  | [], o, w => ⟨rfl, rfl, rfl, rfl, fun _ _ => rfl, fun C e fz h => ⟨C, h, rfl, fun i _ => by rw [if_neg (by simp)]⟩⟩
  | v :: vs, o, w => by
    have ih := wrote_setCells b vs (o + 1) (w.setCell ⟨b, o, none⟩ v)
    refine ⟨ih.os, ih.tape, ih.output, ih.size.trans (by simp), fun k hk => (ih.other k hk).trans ?_, fun C e fz h => ?_⟩
    · simp [World.setCell, Array.getElem?_modify, hk, Ne.symm hk]
    · have h1 : (w.setCell ⟨b, o, none⟩ v).heap[b]? = some (.cells (C.setIfInBounds o v) e fz) := by
        simp [World.setCell, Array.getElem?_modify, h]
      obtain ⟨C', h2, h3, h4⟩ := ih.own _ _ _ h1
      refine ⟨C', h2, by simpa using h3, fun i hi => ?_⟩
      rw [h4 i (by simpa using hi), Array.getElem?_setIfInBounds]
      by_cases ho : o + 1 ≤ i ∧ i < o + 1 + vs.length
      · rw [if_pos ho, if_pos (by simp; omega), show i - o = (i - (o + 1)) + 1 by omega]; simp
      · rw [if_neg ho]
        by_cases hio : o = i
        · subst hio; simp [hi]
        · rw [if_neg hio, if_neg (by simp; omega)]
theorem Wrote.keep {b o : Nat} {vs : List Value} (h : Wrote w w' b o vs) (hF : ¬ F b) : Keep F w w' := ⟨h.os, h.tape, h.output, by rw [h.size]; exact Nat.le_refl _, fun k hk => h.other k (by rintro rfl; exact hF hk)⟩
end
end Go.Ev
set_option linter.unusedVariables false
set_option linter.unusedSimpArgs false
namespace Go.Ev
section
variable {P : Program} {F : Froz} {φ ψ : Phi} {st : St} {w w' : World}
/-! ### Cells are written over -/
theorem write_spec {st' : St} {id off : Nat} {vs : List AV} (h : st.write id off vs = some st') : ∃ cs e g cs', st.heap.get id = some (.cells cs e g) ∧ vs.all AV.one = true ∧ writeN cs off vs = some cs' ∧ st'.next = st.next ∧
    (∀ i, st'.heap.get i = if i = id then some (.cells cs' e g) else if (∃ l, st.grps.get g = some l ∧ i ∈ l) then none else st.heap.get i) ∧ (∀ i, st'.grps.get i = if i = g then none else st.grps.get i) := by
  unfold St.write at h
  split at h
  · rename_i cs e g hid
    split at h
    · rename_i hall
      simp only [Option.bind_eq_some_iff] at h
      obtain ⟨cs', hw, h⟩ := h
      refine ⟨cs, e, g, cs', hid, hall, hw, ?_⟩
      split at h
      · rename_i hg
        simp at h; subst h
        refine ⟨rfl, fun i => ?_, fun i => ?_⟩
        · simp only [Trie.get_put, hg]; simp
        · split
          · rename_i hi; subst hi; exact hg
          · rfl
      · rename_i l hg
        simp at h; subst h
        refine ⟨rfl, fun i => ?_, fun i => ?_⟩
        · simp only [Trie.get_put, kill_get, hg]
          by_cases hi : i = id
          · simp [hi]
          · simp [hi]
        · simp only [Trie.get_put]
    · simp at h
  · simp at h
theorem Rel.write (hR : Rel P F φ st w) {st' : St} {id off : Nat} {vs : List AV} {news : List Value} {l : Loc} (h : st.write id off vs = some st') (hl : φ id = some l) (hW : Wrote w w' l.blk (l.base + off) news) (hv : Reps φ vs news) :
    Rel P F φ st' w' ∧ Keep F w w' := by
  obtain ⟨cs, e, g, cs', hid, hall, hw, hnext, hheap, hgrps⟩ := write_spec h
  obtain ⟨l0, C, fz, h1, hF, hC, hCs, hlen, hinfo, hcells, hfz, hex⟩ := hR.blk id _ hid
  rw [hl] at h1; simp at h1; subst h1
  obtain ⟨C', hC', hsz', hget'⟩ := hW.own C e fz hC
  have hlw := writeN_length hw
  obtain ⟨_, hin⟩ := writeN_spec hw
  have hvl := hv.length
  have alive : ∀ {i b}, st'.heap.get i = some b → i ≠ id → st.heap.get i = some b ∧ ¬ ∃ l, st.grps.get g = some l ∧ i ∈ l := fun {i b} hi hne => by
    rw [hheap, if_neg hne] at hi
    split at hi
    · simp at hi
    · exact ⟨hi, ‹_›⟩
  have apart : ∀ {i b li}, st'.heap.get i = some b → i ≠ id → φ i = some li → li.blk ≠ l.blk := fun {i b li} hi hne hli he => by
    obtain ⟨k1, k2⟩ := alive hi hne
    obtain ⟨_, L, hL, _, hm⟩ := hR.shares (Ne.symm hne) hid k1 hl hli he.symm
    exact k2 ⟨L, hL, hm⟩
  have hself : st'.heap.get id = some (.cells cs' e g) := by rw [hheap, if_pos rfl]
  refine ⟨⟨⟨?_, hR.glob, ?_⟩, ?_, ?_, ?_, ?_, ?_, fun g' L hL i hi => by
    rw [hgrps] at hL
    split at hL
    · simp at hL
    · rw [hnext]; exact hR.born g' L hL i hi⟩, hW.keep hF⟩
  · intro i b hi
    by_cases hne : i = id
    · subst hne
      rw [hself] at hi; simp at hi; subst hi
      refine ⟨l, C', fz, hl, hF, hC', by omega, by omega, hinfo, fun k x hx => ?_, by rw [hsz']; exact hfz, hex.1, fun h => by rw [hlw]; exact hex.2 h⟩
      rw [writeN_get hw] at hx
      have hk : k < cs'.length := by
        by_cases hc : off ≤ k ∧ k < off + vs.length
        · omega
        · rw [if_neg hc] at hx; have := (List.getElem?_eq_some_iff.1 hx).1; omega
      rw [hget' _ (by omega)]
      by_cases hc : off ≤ k ∧ k < off + vs.length
      · rw [if_pos hc] at hx
        rw [if_pos (by omega), show l.base + k - (l.base + off) = k - off by omega]
        exact hv.get hx
      · rw [if_neg hc] at hx
        rw [if_neg (by omega)]
        exact hcells k x hx
    · exact (hR.blk i b (alive hi hne).1).keep (Phi.le.refl _) fun li hli => hW.other _ (apart hi hne hli)
  · intro i j ci ei gi cj ej gj li lj hne k1 k2 k3 k4 k5
    by_cases hi : i = id
    · subst hi
      rw [hl] at k3; simp at k3; subst k3
      exact absurd k5.symm (apart k2 (Ne.symm hne) k4)
    · by_cases hj : j = id
      · subst hj
        rw [hl] at k4; simp at k4; subst k4
        exact absurd k5 (apart k1 hi k3)
      · obtain ⟨a1, a2⟩ := alive k1 hi
        obtain ⟨a3, a4⟩ := alive k2 hj
        obtain ⟨rfl, L, hL, hm⟩ := hR.inj i j _ _ _ _ _ _ li lj hne a1 a3 k3 k4 k5
        refine ⟨rfl, L, ?_, hm⟩
        rw [hgrps, if_neg ?_]
        · exact hL
        · rintro rfl; exact a2 ⟨L, hL, hm.1⟩
  · intro i hi; exact hR.fresh i (by omega)
  · intro k hk; rw [hW.size]; exact hR.low k hk
  · intro i j ei ej li lj hne k1 k2 k3 k4
    have hi : i ≠ id := by rintro rfl; rw [hself] at k1; simp at k1
    have hj : j ≠ id := by rintro rfl; rw [hself] at k2; simp at k2
    exact hR.maps i j _ _ li lj hne (alive k1 hi).1 (alive k2 hj).1 k3 k4
  · intro i j si pi sj pj li lj hne k1 k2 k3 k4
    have hi : i ≠ id := by rintro rfl; rw [hself] at k1; simp at k1
    have hj : j ≠ id := by rintro rfl; rw [hself] at k2; simp at k2
    exact hR.iters i j _ _ _ _ li lj hne (alive k1 hi).1 (alive k2 hj).1 k3 k4
  · intro g' L hL
    rw [hgrps] at hL
    split at hL
    · simp at hL
    · rename_i hg'
      refine (hR.ord g' L hL).imp fun {i j} hlat => ?_
      intro ci ei cj ej li lj k1 k2 k3 k4 k5
      have hi : i ≠ id := by rintro rfl; rw [hself] at k1; simp at k1; exact hg' k1.2.2.symm
      have hj : j ≠ id := by rintro rfl; rw [hself] at k2; simp at k2; exact hg' k2.2.2.symm
      exact hlat ci ei cj ej li lj (alive k1 hi).1 (alive k2 hj).1 k3 k4 k5
/-! ### A map, an iterator -/
theorem Rel.setRow (hR : Rel P F φ st w) {id : Id} {b b' : ABlk} {l : Loc} (hid : st.heap.get id = some b) (hk : (∃ e e', b = .map e ∧ b' = .map e') ∨ (∃ s p s' p', b = .iter s p ∧ b' = .iter s' p')) (hl : φ id = some l)
    (hK : Keep F w w') (ho : ∀ k, k ≠ l.blk → w'.heap[k]? = w.heap[k]?) (hn : BRel P F φ w' id b') : Rel P F φ { heap := st.heap.put id (some b'), grps := st.grps, next := st.next } w' := by
  have apart : ∀ {i c li}, st.heap.get i = some c → i ≠ id → φ i = some li → li.blk ≠ l.blk := fun {i c li} hi hne hli he => by
    have hb := hR.blk id _ hid
    cases c with
    | cells ci ei gi =>
      obtain ⟨⟨cj, ej, h⟩, _⟩ := hR.shares hne hi hid hli hl he
      rcases hk with ⟨_, _, rfl, _⟩ | ⟨_, _, _, _, rfl, _⟩ <;> simp at h
    | ro cs =>
      obtain ⟨l2, C2, e2, fz2, k1, k2, k3, _⟩ := hR.blk i _ hi
      rw [hli] at k1; simp at k1; subst k1
      rcases hk with ⟨_, _, rfl, _⟩ | ⟨_, _, _, _, rfl, _⟩
      · obtain ⟨l3, M, c, q1, q2, _⟩ := hb
        rw [hl] at q1; simp at q1; subst q1
        rw [he] at k2; exact q2 (F.le _ k2)
      · obtain ⟨l3, q1, q2, _⟩ := hb
        rw [hl] at q1; simp at q1; subst q1
        rw [he] at k2; exact q2 (F.le _ k2)
    | map es =>
      obtain ⟨l2, M, c, k1, k2, k3, _⟩ := hR.blk i _ hi
      rw [hli] at k1; simp at k1; subst k1
      rcases hk with ⟨_, _, rfl, _⟩ | ⟨_, _, _, _, rfl, _⟩
      · exact hR.maps i id _ _ _ _ hne hi hid hli hl he
      · obtain ⟨l3, q1, q2, q3, _⟩ := hb
        rw [hl] at q1; simp at q1; subst q1
        rw [he, q3] at k3; simp at k3
    | iter s p =>
      obtain ⟨l2, k1, k2, k3, _⟩ := hR.blk i _ hi
      rw [hli] at k1; simp at k1; subst k1
      rcases hk with ⟨_, _, rfl, _⟩ | ⟨_, _, _, _, rfl, _⟩
      · obtain ⟨l3, M, c, q1, q2, q3, _⟩ := hb
        rw [hl] at q1; simp at q1; subst q1
        rw [he, q3] at k3; simp at k3
      · exact hR.iters i id _ _ _ _ _ _ hne hi hid hli hl he
  have hget : ∀ i, (st.heap.put id (some b')).get i = if i = id then some b' else st.heap.get i := fun i => Trie.get_put _ _ _ _
  have hnc : ∀ {i c e g}, (st.heap.put id (some b')).get i = some (.cells c e g) → st.heap.get i = some (.cells c e g) := fun {i c e g} h => by
    rw [hget] at h
    split at h
    · rcases hk with ⟨_, _, _, rfl⟩ | ⟨_, _, _, _, _, rfl⟩ <;> simp at h
    · exact h
  have hap : ∀ {i c li}, (st.heap.put id (some b')).get i = some c → i ≠ id → φ i = some li → li.blk ≠ l.blk := fun {i c li} h hne => by
    rw [hget, if_neg hne] at h
    exact apart h hne
  refine ⟨⟨?_, hR.glob, ?_⟩, hR.fresh, ?_, ?_, ?_, ?_, hR.born⟩
  · intro i c hi
    simp only [hget] at hi
    split at hi
    · rename_i h; subst h
      simp at hi; subst hi; exact hn
    · rename_i hne
      exact (hR.blk i c hi).keep (Phi.le.refl _) fun li hli => ho _ (apart hi hne hli)
  · intro i j ci ei gi cj ej gj li lj hne k1 k2 k3 k4 k5
    exact hR.inj i j _ _ _ _ _ _ li lj hne (hnc k1) (hnc k2) k3 k4 k5
  · intro k hk; exact Nat.lt_of_lt_of_le (hR.low k hk) hK.size
  · intro i j ei ej li lj hne k1 k2 k3 k4 k5
    by_cases hi : i = id
    · subst hi
      rw [hl] at k3; simp at k3; subst k3
      exact hap k2 (Ne.symm hne) k4 k5.symm
    · by_cases hj : j = id
      · subst hj
        rw [hl] at k4; simp at k4; subst k4
        exact hap k1 hi k3 k5
      · simp only [hget, if_neg hi, if_neg hj] at k1 k2
        exact hR.maps i j _ _ li lj hne k1 k2 k3 k4 k5
  · intro i j si pi sj pj li lj hne k1 k2 k3 k4 k5
    by_cases hi : i = id
    · subst hi
      rw [hl] at k3; simp at k3; subst k3
      exact hap k2 (Ne.symm hne) k4 k5.symm
    · by_cases hj : j = id
      · subst hj
        rw [hl] at k4; simp at k4; subst k4
        exact hap k1 hi k3 k5
      · simp only [hget, if_neg hi, if_neg hj] at k1 k2
        exact hR.iters i j _ _ _ _ li lj hne k1 k2 k3 k4 k5
  · intro g L hL
    refine (hR.ord g L hL).imp fun {i j} hlat => ?_
    intro ci ei cj ej li lj k1 k2 k3 k4 k5
    exact hlat ci ei cj ej li lj (hnc k1) (hnc k2) k3 k4 k5
/-! ### A row goes on -/
theorem partL_spec (id : Id) : ∀ (l : List Id), (id ∈ l ∧ l = (partL id l).1 ++ id :: (partL id l).2 ∧ id ∉ (partL id l).1) ∨ (id ∉ l ∧ partL id l = (l, []))
  | [] => .inr ⟨by simp, rfl⟩
  | i :: is => by
    unfold partL
    by_cases h : i = id
    · subst h; left; simp
    · rw [if_neg h]
      rcases partL_spec id is with ⟨h1, h2, h3⟩ | ⟨h1, h2⟩
      · left
        refine ⟨by simp [h1], ?_, ?_⟩
        · simp only [List.cons_append]; rw [← h2]
        · simp [h3, Ne.symm h]
      · right
        refine ⟨by simp [h1, Ne.symm h], ?_⟩
        rw [h2]
theorem Rel.grow (hR : Rel P F φ st w) {id g : Id} {cs cs' : List AV} {e e' : TypeId} {l l' : Loc} (hid : st.heap.get id = some (.cells cs e g)) (hl : φ id = some l) (hK : Keep F w w')
    (hold : ∀ k, k < w.heap.size → k ≠ l.blk → w'.heap[k]? = w.heap[k]?)
    (hown : ∀ C e fz, w.heap[l.blk]? = some (.cells C e fz) → ∃ C' : Array Value, w'.heap[l.blk]? = some (.cells C' e fz) ∧ C'.size = C.size ∧ ∀ i, i < l.base + cs.length → C'[i]? = C[i]?)
    (hl' : (l'.blk = l.blk ∧ l.base + cs.length ≤ l'.base + cs'.length) ∨ l'.blk = w.heap.size)
    (hn : ∀ ψ : Phi, φ.le ψ → ψ st.next = some l' → BRel P F ψ w' st.next (.cells cs' e' g)) : Rel P F (φ.add st.next l') (st.grow id g (.cells cs' e' g)) w' := by
  have hle : φ.le (φ.add st.next l') := Phi.le_add (hR.fresh _ (Nat.le_refl _))
  have hidn : id ≠ st.next := by rintro rfl; rw [hR.fresh _ (Nat.le_refl _)] at hl; simp at hl
  generalize hLd : (st.grps.get g).getD [] = L
  have hget : ∀ i, (st.grow id g (.cells cs' e' g)).heap.get i = if i = st.next then some (.cells cs' e' g) else if i ∈ (partL id L).1 ∧ i ≠ id then none else st.heap.get i := fun i => by
    simp only [St.grow, Trie.get_put, kill_get, hLd]
    by_cases h1 : i = st.next
    · simp [h1]
    · simp [h1]
  have hgrp : ∀ i, (st.grow id g (.cells cs' e' g)).grps.get i = if i = g then some (st.next :: id :: (partL id L).2) else st.grps.get i := fun i => by
    simp only [St.grow, Trie.get_put, hLd]
  -- those that are left
  have alive : ∀ {i b}, (st.grow id g (.cells cs' e' g)).heap.get i = some b → i ≠ st.next → st.heap.get i = some b ∧ ¬ (i ∈ (partL id L).1 ∧ i ≠ id) := fun {i b} hi hne => by
    rw [hget, if_neg hne] at hi
    split at hi
    · simp at hi
    · exact ⟨hi, ‹_›⟩
  have self : ∀ {i li}, φ.add st.next l' i = some li → i = st.next → li = l' := fun {i li} h1 h2 => by
    subst h2; rw [Phi.add_self] at h1; simpa using h1.symm
  have selfb : ∀ {i b}, (st.grow id g (.cells cs' e' g)).heap.get i = some b → i = st.next → b = .cells cs' e' g := fun {i b} h1 h2 => by
    rw [hget, if_pos h2] at h1; simpa using h1.symm
  have inL2 : ∀ {i}, i ∈ L → ¬ (i ∈ (partL id L).1 ∧ i ≠ id) → i ≠ id → i ∈ (partL id L).2 := fun {i} h1 h2 h3 => by
    rcases partL_spec id L with ⟨_, h, _⟩ | ⟨h, hp⟩
    · rw [h] at h1
      simp [h3] at h1
      rcases h1 with h1 | h1
      · exact absurd ⟨h1, h3⟩ h2
      · exact h1
    · rw [hp] at h2
      exact absurd ⟨h1, h3⟩ h2
  have hLg : ∀ {M}, st.grps.get g = some M → M = L := fun {M} h => by rw [h] at hLd; simpa using hLd
  have behind : ∀ {j}, j ∈ (partL id L).2 → Later φ st g id j := fun {j} hj => by
    rcases partL_spec id L with ⟨hm, h, _⟩ | ⟨h, hp⟩
    · cases hg : st.grps.get g with
      | none => rw [hg] at hLd; simp at hLd; subst hLd; simp at hm
      | some M =>
        obtain rfl := hLg hg
        have := hR.ord g _ hg
        rw [h, List.pairwise_append] at this
        exact (List.pairwise_cons.1 this.2.1).1 j hj
    · rw [hp] at hj; simp at hj
  -- who else is in the block
  have share : ∀ {i b li}, (st.grow id g (.cells cs' e' g)).heap.get i = some b → i ≠ st.next → φ i = some li → li.blk = l.blk → ∃ ci ei, b = .cells ci ei g ∧ (i = id ∨ i ∈ (partL id L).2) ∧ li.base + ci.length ≤ l.base + cs.length := fun {i b li} hi hne hli he => by
    obtain ⟨k1, k2⟩ := alive hi hne
    by_cases hii : i = id
    · subst hii
      rw [hid] at k1; simp at k1; subst k1
      rw [hl] at hli; simp at hli; subst hli
      exact ⟨_, _, rfl, .inl rfl, Nat.le_refl _⟩
    · obtain ⟨⟨ci, ei, rfl⟩, M, hM, _, hm⟩ := hR.shares (Ne.symm hii) hid k1 hl hli he.symm
      obtain rfl := hLg hM
      have h2 := inL2 hm k2 hii
      exact ⟨_, _, rfl, .inr h2, behind h2 _ _ _ _ _ _ hid k1 hl hli he.symm⟩
  have hidlt : id < st.next := by
    rcases Nat.lt_or_ge id st.next with h | h
    · exact h
    · rw [hR.fresh _ h] at hl; simp at hl
  have hr2 : ∀ j ∈ (partL id L).2, j < st.next := fun j hj => by
    rcases partL_spec id L with ⟨hm, h, _⟩ | ⟨h, hp⟩
    · cases hg : st.grps.get g with
      | none => rw [hg] at hLd; simp at hLd; subst hLd; simp at hm
      | some M =>
        obtain rfl := hLg hg
        exact hR.born g _ hg j (by rw [h]; simp [hj])
    · rw [hp] at hj; simp at hj
  refine ⟨⟨?_, ?_, ?_⟩, ?_, ?_, ?_, ?_, ?_, ?_⟩
  · intro i b hi
    by_cases hne : i = st.next
    · obtain rfl := selfb hi hne
      subst hne
      exact hn _ hle Phi.add_self
    · obtain ⟨k1, k2⟩ := alive hi hne
      by_cases hb : ∃ li, φ i = some li ∧ li.blk = l.blk
      · obtain ⟨li, hli, he⟩ := hb
        obtain ⟨ci, ei, rfl, hwho, hend⟩ := share hi hne hli he
        obtain ⟨l1, C, fz, h1, h2, h3, h4, h5, h6, h7, h8, h9⟩ := hR.blk i _ k1
        rw [hli] at h1; simp at h1; subst h1
        obtain ⟨C', q1, q2, q3⟩ := hown C _ fz (by rw [← he]; exact h3)
        refine ⟨li, C', fz, hle _ _ hli, h2, by rw [he]; exact q1, by omega, h5, h6, fun k x hx => ?_, by rw [q2]; exact h8, h9⟩
        have hk := (List.getElem?_eq_some_iff.1 hx).1
        rw [q3 _ (by omega)]
        obtain ⟨v, hv, hr⟩ := h7 k x hx
        exact ⟨v, hv, hr.mono hle⟩
      · exact (hR.blk i b k1).keep hle fun li hli => hold _ (hR.blkLt k1 hli) fun he => hb ⟨li, hli, he⟩
  · intro k hk
    obtain ⟨m, h1, h2⟩ := hR.glob k hk
    exact ⟨m, hle _ _ h1, h2⟩
  · intro i j ci ei gi cj ej gj li lj hne k1 k2 k3 k4 k5
    have mem : ∀ {j cj ej gj lj}, j ≠ st.next → (st.grow id g (.cells cs' e' g)).heap.get j = some (.cells cj ej gj) → φ.add st.next l' j = some lj → l'.blk = lj.blk → gj = g ∧ (j = id ∨ j ∈ (partL id L).2) := fun {j cj ej gj lj} hj k2 k4 k5 => by
      rw [Phi.add_other hj] at k4
      rcases hl' with ⟨hb, _⟩ | hb
      · obtain ⟨c1, e1, h1, h2, _⟩ := share k2 hj k4 (by rw [← k5, hb])
        simp at h1
        exact ⟨h1.2.2, h2⟩
      · have := hR.blkLt (alive k2 hj).1 k4
        omega
    by_cases hi : i = st.next <;> by_cases hj : j = st.next
    · exact absurd (hi.trans hj.symm) hne
    · obtain rfl := self k3 hi
      have := selfb k1 hi
      simp at this
      obtain ⟨rfl, hm⟩ := mem hj k2 k4 k5
      refine ⟨this.2.2, _, by rw [hgrp, if_pos this.2.2], by simp [hi], ?_⟩
      rcases hm with rfl | hm <;> simp [*]
    · obtain rfl := self k4 hj
      have := selfb k2 hj
      simp at this
      obtain ⟨rfl, hm⟩ := mem hi k1 k3 k5.symm
      refine ⟨this.2.2.symm, _, by rw [hgrp, if_pos rfl], ?_, by simp [hj]⟩
      rcases hm with rfl | hm <;> simp [*]
    · obtain ⟨a1, a2⟩ := alive k1 hi
      obtain ⟨a3, a4⟩ := alive k2 hj
      rw [Phi.add_other hi] at k3
      rw [Phi.add_other hj] at k4
      obtain ⟨rfl, M, hM, m1, m2⟩ := hR.inj i j _ _ _ _ _ _ li lj hne a1 a3 k3 k4 k5
      refine ⟨rfl, ?_⟩
      by_cases hgi : gi = g
      · subst hgi
        obtain rfl := hLg hM
        refine ⟨_, by rw [hgrp, if_pos rfl], ?_, ?_⟩
        · by_cases hh : i = id
          · simp [hh]
          · simp [inL2 m1 a2 hh]
        · by_cases hh : j = id
          · simp [hh]
          · simp [inL2 m2 a4 hh]
      · exact ⟨M, by rw [hgrp, if_neg hgi]; exact hM, m1, m2⟩
  · intro i hi
    have : st.next + 1 ≤ i := hi
    have h9 : i ≠ st.next := Nat.ne_of_gt this
    rw [Phi.add_other h9]
    exact hR.fresh i (Nat.le_of_succ_le this)
  · intro k hk; exact Nat.lt_of_lt_of_le (hR.low k hk) hK.size
  · intro i j ei ej li lj hne k1 k2 k3 k4 k5
    have hi : i ≠ st.next := fun h => by have := selfb k1 h; simp at this
    have hj : j ≠ st.next := fun h => by have := selfb k2 h; simp at this
    rw [Phi.add_other hi] at k3
    rw [Phi.add_other hj] at k4
    exact hR.maps i j _ _ li lj hne (alive k1 hi).1 (alive k2 hj).1 k3 k4 k5
  · intro i j si pi sj pj li lj hne k1 k2 k3 k4 k5
    have hi : i ≠ st.next := fun h => by have := selfb k1 h; simp at this
    have hj : j ≠ st.next := fun h => by have := selfb k2 h; simp at this
    rw [Phi.add_other hi] at k3
    rw [Phi.add_other hj] at k4
    exact hR.iters i j _ _ _ _ li lj hne (alive k1 hi).1 (alive k2 hj).1 k3 k4 k5
  · intro g' M hM
    have lat : ∀ {i j}, Later φ st g' i j → (i = st.next → j = st.next ∨ g' ≠ g) → (j = st.next → i = st.next ∨ g' ≠ g) → Later (φ.add st.next l') (st.grow id g (.cells cs' e' g)) g' i j := fun {i j} hlat hni hnj ci ei cj ej li lj k1 k2 k3 k4 k5 => by
      by_cases hi : i = st.next <;> by_cases hj : j = st.next
      · have a := selfb k1 hi
        have b := selfb k2 hj
        simp at a b
        obtain rfl := self k3 hi
        obtain rfl := self k4 hj
        rw [a.1, b.1]
        exact Nat.le_refl _
      · have a := selfb k1 hi
        simp at a
        rcases hni hi with h | h
        · exact absurd h hj
        · exact absurd a.2.2 h
      · have a := selfb k2 hj
        simp at a
        rcases hnj hj with h | h
        · exact absurd h hi
        · exact absurd a.2.2 h
      · rw [Phi.add_other hi] at k3
        rw [Phi.add_other hj] at k4
        exact hlat ci ei cj ej li lj (alive k1 hi).1 (alive k2 hj).1 k3 k4 k5
    rw [hgrp] at hM
    split at hM
    · rename_i hgg
      subst hgg
      simp at hM; subst hM
      have hnext : ∀ j, (j = id ∨ j ∈ (partL id L).2) → Later (φ.add st.next l') (st.grow id g' (.cells cs' e' g')) g' st.next j := fun j hj ci ei cj ej li lj k1 k2 k3 k4 k5 => by
        obtain rfl := self k3 rfl
        have a := selfb k1 rfl
        simp at a
        by_cases hjn : j = st.next
        · have b := selfb k2 hjn
          simp at b
          obtain rfl := self k4 hjn
          rw [a.1, b.1]; exact Nat.le_refl _
        · rw [Phi.add_other hjn] at k4
          rcases hl' with ⟨hb, hend⟩ | hb
          · obtain ⟨c1, e1, h1, _, h2⟩ := share k2 hjn k4 (by rw [← k5, hb])
            simp at h1
            rw [h1.1, a.1]
            omega
          · have := hR.blkLt (alive k2 hjn).1 k4
            omega
      refine List.pairwise_cons.2 ⟨fun j hj => hnext j (by simpa using hj), List.pairwise_cons.2 ⟨fun j hj => ?_, ?_⟩⟩
      · refine fun ci ei cj ej li lj k1 k2 k3 k4 k5 => ?_
        have hjn : j ≠ st.next := Nat.ne_of_lt (hr2 j hj)
        rw [Phi.add_other hidn] at k3
        rw [Phi.add_other hjn] at k4
        exact behind hj ci ei cj ej li lj (alive k1 hidn).1 (alive k2 hjn).1 k3 k4 k5
      · have hp2 : (partL id L).2.Pairwise (Later φ st g') := by
          rcases partL_spec id L with ⟨hm, h, _⟩ | ⟨h, hp⟩
          · cases hg : st.grps.get g' with
            | none => rw [hg] at hLd; simp at hLd; subst hLd; simp at hm
            | some M =>
              obtain rfl := hLg hg
              have := hR.ord g' _ hg
              rw [h, List.pairwise_append] at this
              exact (List.pairwise_cons.1 this.2.1).2
          · rw [hp]; simp
        refine hp2.imp_of_mem fun {i j} hi hj h => lat h (fun h => absurd h (Nat.ne_of_lt (hr2 i hi))) (fun h => absurd h (Nat.ne_of_lt (hr2 j hj)))
    · rename_i hgg
      exact (hR.ord g' M hM).imp fun {i j} h => lat h (fun _ => .inr hgg) (fun _ => .inr hgg)
  · intro g' M hM i hi
    have hnx : (st.grow id g (.cells cs' e' g)).next = st.next + 1 := rfl
    rw [hnx]
    rw [hgrp] at hM
    split at hM
    · simp at hM; subst hM
      simp at hi
      rcases hi with rfl | rfl | hi
      · exact Nat.lt_succ_self _
      · exact Nat.lt_succ_of_lt hidlt
      · exact Nat.lt_succ_of_lt (hr2 i hi)
    · exact Nat.lt_succ_of_lt (hR.born g' M hM i hi)
end
end Go.Ev
