/- A way to run calls of the program on told values is shown to be sound; it holds for programs that follow mixed orders. -/
import Derived.Test.YtkbielcbkpglhaaGreatDoorE2
import Derived.Lib.Bytealg
import Derived.Scope
set_option linter.unusedVariables false
set_option linter.unusedSimpArgs false
namespace Go.Ev
section
variable {P : Program} {F : Froz} {φ ψ : Phi} {st : St} {w w' : World}
/-! ### Writing, as the program does it -/
theorem not_frozen {w : World} {b : Nat} {C : Array Value} {e : TypeId} {fz : Nat × Nat} (h : w.heap[b]? = some (.cells C e fz)) (hf : fz = (0, 0) ∨ C.size ≤ fz.1) {o : Nat} (ho : o < C.size) : w.frozen? ⟨b, o, none⟩ = false := by
  obtain ⟨lo, hi⟩ := fz
  simp only [World.frozen?, h]
  rcases hf with hf | hf
  · simp at hf; simp [hf]
  · simp at hf
    simp
    intro h1
    omega
/-- Cells that the evaluator writes may be written. -/
theorem write_run (hR : Rel P F φ st w) {st' : St} {id off : Nat} {vs : List AV} {news : List Value} (h : st.write id off vs = some st') (hv : Reps φ vs news) :
    ∃ l, φ id = some l ∧ (∀ j, j < news.length → (w.cell? ⟨l.blk, l.base + off + j, none⟩).isSome = true) ∧ (∀ j, j < news.length → w.frozen? ⟨l.blk, l.base + off + j, none⟩ = false) ∧ (∀ v ∈ news, v.oneCell' = true) ∧
      Rel P F φ st' (w.setCells l.blk (l.base + off) news) ∧ Keep F w (w.setCells l.blk (l.base + off) news) := by
  obtain ⟨cs, e, g, cs', hid, hall, hw, hnext, hheap, hgrps⟩ := write_spec h
  obtain ⟨l, C, fz, hl, hF, hC, hCs, hlen, hinfo, hcells, hfz, _⟩ := hR.blk id _ hid
  obtain ⟨_, hin⟩ := writeN_spec hw
  have hvl := hv.length
  have hfz' : fz = (0, 0) ∨ C.size ≤ fz.1 := by rcases hfz with h | h <;> simp [h]
  refine ⟨l, hl, fun j hj => ?_, fun j hj => not_frozen hC hfz' (by omega), hv.ones hall, hR.write h hl (wrote_setCells _ _ _ _) hv⟩
  rw [cell_at hC]
  have : l.base + off + j < C.size := by omega
  simp [this]
theorem store_rep (hR : Rel P F φ st w) {t : TypeId} {a x : AV} {va vx : Value} {st' : St} (ha : Rep φ a va) (hx : Rep φ x vx) (h : storeA P st t a x = some st') :
    ∃ w', (Instr.storeAt t va vx).run P w = .ok () w' ∧ Rel P F φ st' w' ∧ Keep F w w' := by
  unfold storeA at h
  split at h
  · rename_i id off
    split at h
    · rename_i hs
      obtain ⟨i, hi, his⟩ := run_sizeA hs
      have hc := hx.cells
      obtain ⟨l, hl, h1, h2, h3, h4, h5⟩ := write_run hR h hc
      simp only [Rep] at ha
      obtain ⟨l', hl', rfl⟩ := ha
      rw [hl] at hl'; simp at hl'; subst hl'
      refine ⟨_, ?_, h4, h5⟩
      have hst := run_storeCells_cells (P := P) l.blk (l.base + off) vx.cells.toList 0 w (by simpa using h1) (by simpa using h2) h3
      have hsz : vx.cells.size = i.size := by have := hc.length; simp at this; omega
      simp only [Instr.storeAt, Instr.sureAddr, Sem.run_bind, Sem.run_pure, Result.andThen, storeVar, run_sizeOf' w hi]
      rw [if_neg (by simp [hsz])]
      simpa using hst
    · simp at h
  · simp at h
/-! ### Rows that are copied -/
theorem run_firstA (hR : RelQ P F φ st w) {size n len : Nat} {x : AV} {v : Value} {new : List AV} (hx : Rep φ x v) (hl : lenA x = some len) (hn : n ≤ len) (h : firstA st size n x = some new) :
    ∃ news, Reps φ new news ∧ news.length = n * size ∧ (∀ w', (Builtin.lenOf v).run P w' = .ok len w') ∧ ∀ w' : World, w'.heap = w.heap → (Builtin.firstCells size n v).run P w' = .ok news.toArray w' := by
  unfold firstA at h
  split at h
  · rename_i id off n' c
    simp only [lenA, Option.some.injEq] at hl; subst hl
    split at h
    · rename_i hn0
      subst hn0
      simp only [Option.some.injEq] at h; subst h
      obtain ⟨a, c', rfl⟩ : ∃ a c', v = .slice (some a) n' c' := by
        cases c with
        | some c => simp only [Rep] at hx; obtain ⟨l', a', _, _, _, rfl⟩ := hx; exact ⟨_, _, rfl⟩
        | none => simp only [Rep] at hx; obtain ⟨l', o, c', _, _, _, _, rfl⟩ := hx; exact ⟨_, _, rfl⟩
      exact ⟨[], Reps.nil', by simp, fun w' => rfl, fun w' hw => run_firstCells_some w' size 0 _ _ _ [] (by simp) (by intro j u hj; simp at hj)⟩
    simp only [Option.bind_eq_some_iff] at h
    obtain ⟨cs, hcs, hr⟩ := h
    obtain ⟨l, hL⟩ := hR.cellsAt hcs
    obtain ⟨news, hv, hc⟩ := hL.reps hr
    have hnl : news.length = n * size := by rw [hv.length]; obtain ⟨e, hl⟩ := readN_spec hr; subst e; simp; omega
    have hadr : ∃ o c', v = .slice (some o) n' c' ∧ (o = ⟨l.blk, l.base + off, none⟩ ∨ n' = 0) := by
      cases c with
      | some c =>
        simp only [Rep] at hx; obtain ⟨l', a', h1, h2, h3, rfl⟩ := hx; rw [hL.loc] at h1; simp at h1; subst h1
        exact ⟨_, _, rfl, by rcases h3 with h3 | h3; exact .inl h3; exact .inr (by omega)⟩
      | none =>
        simp only [Rep] at hx; obtain ⟨l', o, c', h1, h2, _, h3, rfl⟩ := hx; rw [hL.loc] at h1; simp at h1; subst h1
        exact ⟨_, _, rfl, by rcases h3 with h3 | h3; exact .inl (by rw [h3]); exact .inr (by omega)⟩
    obtain ⟨o, c', rfl, ho⟩ := hadr
    refine ⟨news, hv, hnl, fun w' => rfl, fun w' hw => run_firstCells_some w' size n _ _ _ news hnl fun j u hj => ?_⟩
    rcases ho with rfl | h0
    · rw [addr_add]
      have := hc j u hj
      simpa [World.cell?, hw] using this
    · have := (List.getElem?_eq_some_iff.1 hj).1
      have hn0 : n = 0 := by omega
      subst hn0
      omega
  · rename_i n' c
    simp only [lenA, Option.some.injEq] at hl; subst hl
    simp only [Option.some.injEq] at h; subst h
    simp only [Rep] at hx
    obtain ⟨rfl, _, rfl⟩ := hx
    obtain rfl : n = 0 := by omega
    exact ⟨[], Reps.nil', by simp, fun w' => rfl, fun w' _ => run_firstCells_none w' size 0 0 0⟩
  · rename_i s
    simp only [lenA, Option.some.injEq] at hl; subst hl
    split at h
    · rename_i hs
      subst hs
      simp only [Option.some.injEq] at h; subst h
      simp only [Rep] at hx; subst hx
      refine ⟨_, bytesA_rep _, by simp; omega, fun w' => by simp [Builtin.lenOf, ByteArray.size], fun w' _ => ?_⟩
      simp [Builtin.firstCells, ByteArray.extract, ByteArray.copySlice]
    · simp at h
  · simp at h
theorem elemA_spec {t e : TypeId} (h : elemA P t = some e) : P.underlying t = some (.slice e) := by
  unfold elemA at h
  split at h
  · simp only [Option.some.injEq] at h; subst h; assumption
  · simp at h
theorem copy_rep (hR : Rel P F φ st w) {t u ty : TypeId} {d s r : AV} {vd vs : Value} {st' : St} (hd : Rep φ d vd) (hs : Rep φ s vs) (h : copyA P st t d s = some (r, st')) :
    ∃ v w', (Builtin.copy_ #[t, u] ty #[vd, vs]).run P w = .ok v w' ∧ Rep φ r v ∧ Rel P F φ st' w' ∧ Keep F w w' := by
  simp only [copyA, Option.bind_eq_some_iff] at h
  obtain ⟨e, he, size, hsz, n, hn, h⟩ := h
  have hu := elemA_spec he
  obtain ⟨i, hi, rfl⟩ := run_sizeA hsz
  split at h
  case h_2 => simp at h
  rename_i base len cap
  split at h
  · rename_i h0
    simp only [Option.some.injEq, Prod.mk.injEq] at h
    obtain ⟨rfl, rfl⟩ := h
    have hvd : ∃ a c, vd = .slice a len c := by
      cases base with
      | none => simp only [Rep] at hd; obtain ⟨rfl, _, rfl⟩ := hd; exact ⟨_, _, rfl⟩
      | some b =>
        cases cap with
        | some c => simp only [Rep] at hd; obtain ⟨l', q1, _, _, _, rfl⟩ := hd; exact ⟨_, _, rfl⟩
        | none => simp only [Rep] at hd; obtain ⟨l', o, c', q1, q2, _, q3, rfl⟩ := hd; exact ⟨_, _, rfl⟩
    obtain ⟨a, c, rfl⟩ := hvd
    have hlo : (Builtin.lenOf vs).run P w = .ok n w ∧ ((Builtin.firstCells i.size 0 vs).run P w = .ok #[] w) := by
      have hl0 : ∀ (x : Addr), (loadCells x 0).run P w = .ok #[] w := fun x => by simpa using run_loadCells_list (P := P) (w := w) x [] (by simp)
      cases s <;> simp only [lenA, reduceCtorEq, Option.some.injEq] at hn
      · subst hn; simp only [Rep] at hs; subst hs; exact ⟨by simp [Builtin.lenOf, ByteArray.size], by simp [Builtin.firstCells]⟩
      · rename_i b m c2
        subst hn
        cases b with
        | none => simp only [Rep] at hs; obtain ⟨rfl, _, rfl⟩ := hs; exact ⟨rfl, run_firstCells_none w i.size 0 0 0⟩
        | some b =>
          cases c2 with
          | some c => simp only [Rep] at hs; obtain ⟨l', q1, _, _, _, rfl⟩ := hs; exact ⟨rfl, by simp [Builtin.firstCells, hl0]⟩
          | none => simp only [Rep] at hs; obtain ⟨l', o, c', q1, q2, _, q3, rfl⟩ := hs; exact ⟨rfl, by simp [Builtin.firstCells, hl0]⟩
    refine ⟨_, w, ?_, Rep.int' _ _, hR, Keep.refl w⟩
    simp only [Builtin.copy_, List.getElem?_toArray, List.getElem?_cons_zero, List.getElem?_cons_succ, run_underlying' w hu, Sem.run_bind, Result.andThen, hlo.1, run_sizeOf' w hi, h0, hlo.2]
    cases a with
    | none => simp [goInt]
    | some a => simp [storeCells, goInt]
  · rename_i h0
    simp only [Option.bind_eq_some_iff] at h
    obtain ⟨new, hnew, h⟩ := h
    split at h
    case h_2 => simp at h
    rename_i id off
    simp only [Option.bind_eq_some_iff, Option.some.injEq, Prod.mk.injEq] at h
    obtain ⟨st1, hw, rfl, rfl⟩ := h
    obtain ⟨news, hv, hnl, hlen, hcells⟩ := run_firstA hR.toRelQ hs hn (Nat.min_le_left n len) hnew
    obtain ⟨l, hl, h1, h2, h3, h4, h5⟩ := write_run hR hw hv
    have hst := run_storeCells_cells (P := P) l.blk (l.base + off) news 0 w (by simpa using h1) (by simpa using h2) h3
    have hadr : ∃ c', vd = .slice (some ⟨l.blk, l.base + off, none⟩) len c' := by
      cases cap with
      | some c =>
        simp only [Rep] at hd; obtain ⟨l', a', q1, q2, q3, rfl⟩ := hd; rw [hl] at q1; simp at q1; subst q1
        rcases q3 with rfl | rfl
        · exact ⟨_, rfl⟩
        · obtain rfl : len = 0 := by omega
          exact absurd (Nat.min_zero n) h0
      | none =>
        simp only [Rep] at hd; obtain ⟨l', o, c', q1, q2, _, q3, rfl⟩ := hd; rw [hl] at q1; simp at q1; subst q1
        rcases q3 with rfl | rfl
        · exact ⟨_, rfl⟩
        · obtain rfl : len = 0 := by omega
          exact absurd (Nat.min_zero n) h0
    obtain ⟨c', rfl⟩ := hadr
    refine ⟨_, _, ?_, Rep.int' _ _, h4, h5⟩
    simp only [Builtin.copy_, List.getElem?_toArray, List.getElem?_cons_zero, List.getElem?_cons_succ, run_underlying' w hu, Sem.run_bind, Result.andThen, hlen w, run_sizeOf' w hi, hcells w rfl]
    simp only [Nat.add_zero] at hst
    simp [Result.andThen, hst, goInt]
end
end Go.Ev
set_option linter.unusedVariables false
set_option linter.unusedSimpArgs false
namespace Go.Ev
section
variable {P : Program} {F : Froz} {φ ψ : Phi} {st : St} {w w' : World}
/-! ### 'append' -/
theorem rowA_spec {e : TypeId} {size : Nat} (h : rowA P e = some size) : ∃ i z, P.info? e = some i ∧ i.zero = some z ∧ z.cells.size = i.size ∧ i.size = size ∧ i.bytes ≤ 65536 ∧ 0 < size := by
  simp only [rowA, Option.bind_eq_some_iff] at h
  obtain ⟨i, hi, za, ⟨z, hz, ho⟩, h⟩ := h
  split at h <;> simp only [Option.some.injEq, reduceCtorEq] at h
  rename_i hc
  subst h
  have := (ofVal_rep (φ := fun _ => none) ho).cells.length
  simp at this
  exact ⟨i, z, hi, hz, by omega, rfl, hc.2.1, hc.2.2⟩
theorem growBy_le (n : Nat) (hn : n ≤ 2 ^ 24) : ∀ (r c : Nat), c ≤ 2 ^ 25 → Builtin.growBy n r c ≤ 2 ^ 25
  | 0, c, h => by simpa [Builtin.growBy] using h
  | r + 1, c, h => by
    unfold Builtin.growBy
    split
    · exact h
    · exact growBy_le n hn r _ (by omega)
theorem nextcap_le {n c : Nat} (hn : n ≤ 2 ^ 24) (hc : c < n) : Builtin.nextslicecap n c ≤ 2 ^ 25 := by
  unfold Builtin.nextslicecap
  split
  · omega
  · split
    · omega
    · exact growBy_le n hn 4 c (by omega)
theorem grow_run {t u ty e : TypeId} {i : TypeInfo} {z : Value} {size len n cap : Nat} {base : Option Addr} {vx : Value} {olds news : List Value} (hu : P.underlying t = some (.slice e)) (hi : P.info? e = some i) (hz : i.zero = some z)
    (hzs : z.cells.size = i.size) (his : i.size = size) (hb : i.bytes ≤ 65536) (hold : (Builtin.firstCells size len (.slice base len cap)).run P w.drew = .ok olds.toArray w.drew) (hol : olds.length = len * size) (hs : Src P size u vx n news w)
    (hg : cap < len + n) (hsm : len + n ≤ 2 ^ 24) :
    ∃ (cap' : Nat) (C : Array Value), (Builtin.append_ #[t, u] ty #[.slice base len cap, vx]).run P w = .ok (.slice (some ⟨w.heap.size, 0, none⟩) (len + n) cap') (w.drew.alloc (.cells C e)) ∧ C.size = cap' * size ∧ len + n ≤ cap' ∧
      ∀ (j : Nat) (v : Value), (olds ++ news)[j]? = some v → C[j]? = some v := by
  subst his
  have h25 := nextcap_le hsm hg
  have hfit : Builtin.nextslicecap (len + n) cap * i.bytes ≤ 281474976710656 := by
    have h1 : Builtin.nextslicecap (len + n) cap * i.bytes ≤ 2 ^ 25 * 65536 := Nat.mul_le_mul h25 hb
    omega
  have h63 : ((len + n : Nat) : Int) ≤ 9223372036854775807 := by omega
  have hge := grownCap_ge w (len + n) cap e
  refine ⟨_, _, run_append_grow_src w t u ty e i z hu hi hz base len cap olds hold vx n news hs hg h63 hfit, ?_, hge, ?_⟩
  · have hnl := hs.newsLen
    simp only [Array.size_append, List.size_toArray, List.length_append, Builtin.zeroCells, Array.size_map, Array.size_range, hol, hnl, hzs]
    rw [← Nat.add_mul, ← Nat.add_mul]
    congr 1
    omega
  · intro j v hj
    rw [Array.getElem?_append_left (by simpa using (List.getElem?_eq_some_iff.1 hj).1)]
    simpa using hj
theorem Grew.drewAlloc (w : World) (o : Obj) : Grew w (w.drew.alloc o) o := ⟨rfl, rfl, rfl, rfl⟩
theorem slice_addr {id off len : Nat} {cap : Option Nat} {v : Value} (h : Rep φ (.slice (some (id, off)) len cap) v) : ∃ l a' c, φ id = some l ∧ v = .slice (some a') len c ∧ len ≤ c ∧ (a' = ⟨l.blk, l.base + off, none⟩ ∨ c = 0) ∧
    (∀ k, cap = some k → k = c) ∧ (cap = none → l.base + off + c * l.sz = l.size ∧ ∃ o, a' = ⟨l.blk, o, none⟩) := by
  cases cap with
  | some c => simp only [Rep] at h; obtain ⟨l, a', q1, q2, q3, rfl⟩ := h; exact ⟨l, a', c, q1, rfl, q2, q3, by simp, by simp⟩
  | none =>
    simp only [Rep] at h; obtain ⟨l, o, c, q1, q2, q3, q4, rfl⟩ := h
    exact ⟨l, _, c, q1, rfl, q2, by rcases q4 with q4 | q4; exact .inl (by rw [q4]); exact .inr q4, by simp, fun _ => ⟨q3, o, rfl⟩⟩
set_option maxHeartbeats 1000000 in
theorem appendTo_rep (hR : Rel P F φ st w) {t u ty e : TypeId} {i : TypeInfo} {z : Value} {size len n : Nat} {base : Option (Id × Nat)} {cap : Option Nat} {r : AV} {vs vx : Value} {st' : St} {new : List AV} {news : List Value}
    (hu : P.underlying t = some (.slice e)) (hi : P.info? e = some i) (hz : i.zero = some z) (hzs : z.cells.size = i.size) (his : i.size = size) (hb : i.bytes ≤ 65536) (hpos : 0 < size)
    (hs : Rep φ (.slice base len cap) vs) (hnew : Reps φ new news) (hx : Src P size u vx n news w) (hsm : len + n ≤ 2 ^ 24) (h : appendTo st e size base len cap n new = some (r, st')) :
    ∃ v w' ψ, (Builtin.append_ #[t, u] ty #[vs, vx]).run P w = .ok v w' ∧ φ.le ψ ∧ Rep ψ r v ∧ Rel P F ψ st' w' ∧ Keep F w w' := by
  have hnl := hx.newsLen
  have hnl2 := hnew.length
  have alloc_case : ∀ (b : Option Addr) (l c : Nat) (old : List AV) (olds : List Value), vs = .slice b l c → Reps φ old olds → olds.length = l * size → (Builtin.firstCells size l (.slice b l c)).run P w.drew = .ok olds.toArray w.drew → c < l + n → l + n ≤ 2 ^ 24 →
      ∃ v w' ψ, (Builtin.append_ #[t, u] ty #[vs, vx]).run P w = .ok v w' ∧ φ.le ψ ∧ Rep ψ (.slice (some (st.next, 0)) (l + n) none) v ∧ Rel P F ψ (st.alloc (.cells (old ++ new) e (2 * st.next + 1))) w' ∧ Keep F w w' := by
    intro b l c old olds hvs hold hol hrun hg hsm
    subst hvs
    obtain ⟨cap', C, h1, h2, h3, h4⟩ := grow_run (ty := ty) hu hi hz hzs his hb hrun hol hx hg hsm
    have hnew2 := hold.append hnew
    have hA := hR.alloc (l := ⟨w.heap.size, 0, C.size, size⟩) (b := .cells (old ++ new) e (2 * st.next + 1)) (Grew.drewAlloc w (.cells C e)) rfl
      ⟨C, (0, 0), rfl, rfl, rfl, by
        have := hnew2.length
        rw [h2]
        have hh : (olds ++ news).length = (l + n) * size := by rw [List.length_append, hol, hnl, Nat.add_mul]
        have : (l + n) * size ≤ cap' * size := Nat.mul_le_mul_right _ h3
        omega, ⟨i, hi, his⟩, fun j x hj => by
          obtain ⟨v, hv, hr⟩ := hnew2.get hj
          exact ⟨v, h4 j v hv, hr⟩, .inl rfl, fun h => absurd h (odd_ne st.next)⟩
    refine ⟨_, _, _, h1, Phi.le_add (hR.fresh _ (Nat.le_refl _)), ?_, hA.1, hA.2⟩
    simp only [Rep]
    exact ⟨_, 0, cap', Phi.add_self, h3, by simp [h2], .inl rfl, rfl⟩
  unfold appendTo at h
  split at h
  · -- nil
    simp only [Rep] at hs
    obtain ⟨rfl, hcap, rfl⟩ := hs
    split at h
    · rename_i h0
      subst h0
      simp only [Option.some.injEq, Prod.mk.injEq] at h
      obtain ⟨rfl, rfl⟩ := h
      refine ⟨.slice none 0 0, w, φ, ?_, Phi.le.refl _, by simp [Rep], hR, Keep.refl w⟩
      have hl := hx.len w
      have hc := hx.cells
      rcases hx.kind with ⟨e', hk⟩ | hk <;> subst his <;> simp [Builtin.append_, run_underlying hu, run_underlying hk, sizeOf, typeInfo, hi, hl, hc]
    · rename_i h0
      simp only [if_true, Option.some.injEq, Prod.mk.injEq] at h
      obtain ⟨rfl, rfl⟩ := h
      have := alloc_case none 0 0 [] [] rfl Reps.nil' (by simp) (run_firstCells_none w.drew size 0 0 0) (by omega) (by omega)
      simpa using this
  · rename_i id off
    obtain ⟨l, a', c, hl, rfl, hlc, ho, hcap, hcapn⟩ := slice_addr hs
    -- what the row holds
    have holds : ∀ {cs old : List AV}, st.cellsAt id = some cs → readN cs off (len * size) = some old → ∃ olds, Reps φ old olds ∧ olds.length = len * size ∧ (Builtin.firstCells size len (.slice (some a') len c)).run P w.drew = .ok olds.toArray w.drew ∧ ∀ (j : Nat) (v : Value), olds[j]? = some v → w.cell? ⟨l.blk, l.base + off + j, none⟩ = some v := by
      intro cs old hcs hr
      obtain ⟨l', hL⟩ := hR.cellsAt hcs
      have hll := hL.loc
      rw [hl] at hll; simp at hll; subst hll
      obtain ⟨olds, hv, hc⟩ := hL.reps hr
      have hol : olds.length = len * size := by rw [hv.length]; obtain ⟨e, hl⟩ := readN_spec hr; subst e; simp; omega
      refine ⟨olds, hv, hol, run_firstCells_some w.drew size len _ _ _ olds hol fun j u hj => ?_, hc⟩
      rcases ho with rfl | rfl
      · rw [addr_add]; exact hc j u hj
      · obtain rfl : len = 0 := by omega
        have := (List.getElem?_eq_some_iff.1 hj).1
        rw [hol] at this; omega
    have write_case : ∀ {st1 : St}, st.write id (off + len * size) new = some st1 → len + n ≤ c → a' = ⟨l.blk, l.base + off, none⟩ →
        ∃ w', (Builtin.append_ #[t, u] ty #[.slice (some a') len c, vx]).run P w = .ok (.slice (some a') (len + n) c) w' ∧ Rel P F φ st1 w' ∧ Keep F w w' := by
      intro st1 hw hroom ho
      obtain ⟨l', hl', h1, h2, h3, h4, h5⟩ := write_run hR hw hnew
      rw [hl] at hl'; simp at hl'; subst hl'
      subst ho his
      have hadd : l.base + (off + len * i.size) = l.base + off + len * i.size := by omega
      rw [hadd] at h1 h2 h4 h5
      exact ⟨_, run_append_room_src w t u ty e i hu hi l.blk (l.base + off) len c vx n news hx hroom h1 h2, h4, h5⟩
    cases cap with
    | some k =>
      obtain rfl := hcap k rfl
      simp only at h
      split at h
      · rename_i hroom
        split at h
        · simp at h
        rename_i hk0
        have ha' : a' = ⟨l.blk, l.base + off, none⟩ := by rcases ho with ho | ho; exact ho; exact absurd ho hk0
        simp only [Option.bind_eq_some_iff, Option.some.injEq, Prod.mk.injEq] at h
        obtain ⟨st1, hw, rfl, rfl⟩ := h
        obtain ⟨w', h1, h2, h3⟩ := write_case hw hroom ha'
        refine ⟨_, w', φ, h1, Phi.le.refl _, ?_, h2, h3⟩
        simp only [Rep]
        exact ⟨l, a', hl, hroom, .inl ha', rfl⟩
      · rename_i hroom
        simp only [Option.bind_eq_some_iff, Option.some.injEq, Prod.mk.injEq] at h
        obtain ⟨cs, hcs, old, hr, rfl, rfl⟩ := h
        obtain ⟨olds, hv, hol, hrun, _⟩ := holds hcs hr
        exact alloc_case _ len _ old olds rfl hv hol hrun (by omega) hsm
    | none =>
      obtain ⟨hend, o, rfl⟩ := hcapn rfl
      replace ho : o = l.base + off ∨ c = 0 := by rcases ho with ho | ho; exact .inl (by injection ho); exact .inr ho
      simp only at h
      split at h
      case h_2 => simp at h
      rename_i cs be g hid
      obtain ⟨l1, C, fz, hl1, hF, hC, hCs, hlen, ⟨ib, hib, hibs⟩, hcells, hfz, hbase, _⟩ := hR.blk id _ hid
      rw [hl] at hl1; simp at hl1; subst hl1
      split at h
      · rename_i h0
        subst h0
        simp only [Option.some.injEq, Prod.mk.injEq] at h
        obtain ⟨rfl, rfl⟩ := h
        obtain rfl : news = [] := by simpa using hnl
        refine ⟨_, w, φ, ?_, Phi.le.refl _, hs, hR, Keep.refl w⟩
        have := run_append_room_src w t u ty e i hu hi l.blk o len c vx 0 [] (by rw [his]; exact hx) (by omega) (by simp) (by simp)
        simpa [World.setCells] using this
      · rename_i h0
        split at h
        · simp at h
        · rename_i hbe
          simp only [ne_eq, not_or, Decidable.not_not] at hbe
          obtain ⟨hbe, hodd, hoff⟩ := hbe
          subst hbe
          rw [hi] at hib; simp at hib; subst hib
          have hsz : l.sz = size := by omega
          split at h
          · rename_i hin
            simp only [Option.bind_eq_some_iff, Option.some.injEq, Prod.mk.injEq] at h
            obtain ⟨st1, hw, rfl, rfl⟩ := h
            have hroom : len + n ≤ c := by
              have : (len + n) * size ≤ c * size := by rw [hsz] at hend; omega
              exact Nat.le_of_mul_le_mul_right this hpos
            obtain ⟨w', h1, h2, h3⟩ := write_case hw hroom (by congr 1; omega)
            refine ⟨_, w', φ, h1, Phi.le.refl _, ?_, h2, h3⟩
            simp only [Rep]
            exact ⟨l, o, c, hl, hroom, hend, ho, rfl⟩
          · split at h
            case isFalse => simp at h
            rename_i hin hend2
            simp only [Option.bind_eq_some_iff, Option.some.injEq, Prod.mk.injEq] at h
            obtain ⟨old, hr, rfl, rfl⟩ := h
            obtain ⟨olds, hv, hol, hrun, hoc⟩ := holds (by simp [St.cellsAt, hid]) hr
            have hnew2 := hv.append hnew
            have hlen2 : (old ++ new).length = (len + n) * size := by rw [← hnew2.length, List.length_append, hol, hnl, Nat.add_mul]
            have hle : φ.le _ := Phi.le_add (l := ⟨l.blk, l.base + off, l.size, l.sz⟩) (hR.fresh _ (Nat.le_refl _))
            by_cases hroom : len + n ≤ c
            · -- it goes on in place
              have hoo : o = l.base + off := by omega
              have hfit : l.base + off + (len + n) * size ≤ l.size := by
                have : (len + n) * size ≤ c * size := Nat.mul_le_mul_right _ hroom
                rw [hsz] at hend; omega
              have hadd : (len + n) * size = len * size + n * size := Nat.add_mul _ _ _
              have hfz' : fz = (0, 0) ∨ C.size ≤ fz.1 := by rcases hfz with h | h <;> simp [h]
              have hex : ∀ j, j < news.length → (w.cell? ⟨l.blk, o + len * i.size + j, none⟩).isSome = true := fun j hj => by
                rw [cell_at hC]
                have : o + len * i.size + j < C.size := by rw [his]; omega
                simp [this]
              have hnf : ∀ j, j < news.length → w.frozen? ⟨l.blk, o + len * i.size + j, none⟩ = false := fun j hj => not_frozen hC hfz' (by rw [his]; omega)
              have hrun2 := run_append_room_src w t u ty be i hu hi l.blk o len c vx n news (by rw [his]; exact hx) hroom hex hnf
              have hW := wrote_setCells l.blk news (o + len * i.size) w
              have hK := hW.keep hF
              obtain ⟨C', hC', hCs', hget'⟩ := hW.own _ _ _ hC
              have hG := hR.grow (l' := ⟨l.blk, l.base + off, l.size, l.sz⟩) (cs' := old ++ new) (e' := be) hid hl hK (fun k _ hk => hW.other k hk)
                (fun C2 e2 fz2 h2 => by
                  obtain ⟨C3, q1, q2, q3⟩ := hW.own _ _ _ h2
                  refine ⟨C3, q1, q2, fun j hj => ?_⟩
                  rw [h2] at hC; simp at hC; obtain ⟨rfl, _, _⟩ := hC
                  rw [q3 j (by omega), if_neg (by rw [his, hoo]; omega)])
                (.inl ⟨rfl, by simp only; omega⟩)
                (fun ψ hψ hn => by
                  refine ⟨_, C', fz, hn, hF, hC', by simp only; omega, by simp only; omega, ⟨i, hi, by simp only; omega⟩, fun j x hj => ?_, by rw [hCs']; exact hfz, by simp only; omega, fun h => absurd h hodd⟩
                  obtain ⟨v, hv2, hr2⟩ := hnew2.get hj
                  refine ⟨v, ?_, hr2.mono hψ⟩
                  have hjl := (List.getElem?_eq_some_iff.1 hj).1
                  simp only
                  rw [hget' _ (by omega)]
                  by_cases hj1 : j < len * size
                  · rw [if_neg (by rw [his, hoo]; omega)]
                    rw [List.getElem?_append_left (by omega)] at hv2
                    rw [← cell_at hC]
                    exact hoc j v hv2
                  · rw [if_pos (by rw [his, hoo]; omega)]
                    rw [List.getElem?_append_right (by omega)] at hv2
                    rw [← hv2]
                    congr 1
                    rw [his, hoo]; omega)
              refine ⟨_, _, _, hrun2, hle, ?_, hG, hK⟩
              simp only [Rep]
              exact ⟨_, o, c, Phi.add_self, hroom, by simp only; omega, .inl (by simp only; omega), rfl⟩
            · -- it moves
              obtain ⟨cap', C2, h1, h2, h3, h4⟩ := grow_run (ty := ty) hu hi hz hzs his hb hrun hol hx (by omega) hsm
              have hgr := Grew.drewAlloc w (.cells C2 be)
              have hK : Keep F w (w.drew.alloc (.cells C2 be)) := by
                refine ⟨rfl, rfl, rfl, by rw [hgr.heap]; simp, fun k hk => ?_⟩
                rw [hgr.heap, Array.getElem?_push]; have := hR.low k hk; simp [Nat.ne_of_lt this]
              have hG := hR.grow (l' := ⟨w.heap.size, 0, C2.size, size⟩) (cs' := old ++ new) (e' := be) (w' := w.drew.alloc (.cells C2 be)) hid hl hK
                (fun k hk _ => by rw [hgr.heap, Array.getElem?_push]; simp [Nat.ne_of_lt hk])
                (fun C3 e3 fz3 q => ⟨C3, by rw [hgr.heap, Array.getElem?_push]; have := hR.blkLt hid hl; simp [Nat.ne_of_lt this, q], rfl, fun _ _ => rfl⟩)
                (.inr rfl)
                (fun ψ hψ hn => by
                  refine ⟨_, C2, (0, 0), hn, fun hF => by have := hR.low _ hF; simp at this, by rw [hgr.heap]; simp, rfl, ?_, ⟨i, hi, his⟩, fun j x hj => ?_, .inl rfl, rfl, fun h => absurd h hodd⟩
                  · simp only
                    rw [hlen2, h2]
                    have := Nat.mul_le_mul_right size h3
                    omega
                  · obtain ⟨v, hv2, hr2⟩ := hnew2.get hj
                    exact ⟨v, by simp only [Nat.zero_add]; exact h4 j v hv2, hr2.mono hψ⟩)
              refine ⟨_, _, _, h1, Phi.le_add (hR.fresh _ (Nat.le_refl _)), ?_, hG, hK⟩
              simp only [Rep]
              exact ⟨_, 0, cap', Phi.add_self, h3, by simp [h2], .inl rfl, rfl⟩
end
end Go.Ev
set_option linter.unusedVariables false
set_option linter.unusedSimpArgs false
namespace Go.Ev
section
variable {P : Program} {F : Froz} {φ ψ : Phi} {st : St} {w w' : World}
theorem append_rep (hR : Rel P F φ st w) {t u ty : TypeId} {s x r : AV} {vs vx : Value} {st' : St} (hu2 : isSrc P u = true) (hs : Rep φ s vs) (hx : Rep φ x vx) (h : appendA P st t s x = some (r, st')) :
    ∃ v w' ψ, (Builtin.append_ #[t, u] ty #[vs, vx]).run P w = .ok v w' ∧ φ.le ψ ∧ Rep ψ r v ∧ Rel P F ψ st' w' ∧ Keep F w w' := by
  simp only [appendA, Option.bind_eq_some_iff] at h
  obtain ⟨e, he, size, hsz, n, hn, h⟩ := h
  obtain ⟨i, z, hi, hz, hzs, his, hb, hpos⟩ := rowA_spec hsz
  split at h
  case h_2 => simp at h
  rename_i base len cap
  simp only [Option.bind_eq_some_iff] at h
  obtain ⟨new, hnew, h⟩ := h
  split at h
  case isFalse => simp at h
  rename_i hc
  obtain ⟨news, hv, hnl, hlen, hcells⟩ := run_firstA hR.toRelQ hx hn (Nat.le_refl n) hnew
  have hkind : (∃ e', P.underlying u = some (.slice e')) ∨ P.underlying u = some .string := by
    unfold isSrc at hu2
    split at hu2
    · exact .inl ⟨_, ‹_›⟩
    · exact .inr ‹_›
    · simp at hu2
  exact appendTo_rep hR (elemA_spec he) hi hz hzs his hb hpos hs hv ⟨hkind, hlen, hcells w rfl, hcells w.drew rfl, hnl, hv.ones hc.1⟩ hc.2 h
/-! ### Maps are set -/
theorem sameBits_of {d : TypeDesc} {k e : AV} {vk ve : Value} (hd : (∃ ik, d = .int ik ∧ ∃ k' n, k = .int k' n) ∨ (d = .string ∧ ∃ s, k = .str s)) (hk : Rep φ k vk) (he : Rep φ e ve) (h : sameKey k e = some true) (n : Nat) :
    Instr.sameBits n ve vk = true := by
  rcases hd with ⟨ik, rfl, k', m, rfl⟩ | ⟨rfl, s, rfl⟩
  · simp only [Rep] at hk; subst hk
    cases e <;> simp only [sameKey, reduceCtorEq] at h
    rename_i k2 m2
    simp only [Rep] at he; subst he
    split at h <;> simp only [Option.some.injEq, reduceCtorEq, beq_iff_eq] at h
    subst h
    rename_i hkk
    subst hkk
    cases n <;> simp [Instr.sameBits]
  · simp only [Rep] at hk; subst hk
    cases e <;> simp only [sameKey, reduceCtorEq, Option.some.injEq, beq_iff_eq] at h
    rename_i s2
    simp only [Rep] at he; subst he h
    have hb : ((⟨s.toArray⟩ : ByteArray) == ⟨s.toArray⟩) = true := by rw [beq_toListBytes]; simp
    cases n <;> simpa only [Instr.sameBits] using hb
theorem set_rep {d : TypeDesc} {k v : AV} {vk vv : Value} (hd : (∃ ik, d = .int ik ∧ ∃ k' n, k = .int k' n) ∨ (d = .string ∧ ∃ s, k = .str s)) (hk : Rep φ k vk) (hv : Rep φ v vv) (c : Nat) :
    ∀ {es es' : List (AV × AV)} {ms : List MapEntry} (i : Nat), RepM φ es ms → setA k v es = some es' →
      (Instr.findNow d vk ms i = some none ∧ RepM φ es' (ms ++ [{ key := vk, val := vv, born := c }])) ∨
      (∃ j m, Instr.findNow d vk ms i = some (some (i + j, m.val)) ∧ ms[j]? = some m ∧ Instr.sameBits 10000 m.key vk = true ∧ RepM φ es' (ms.modify j fun e => { e with key := vk, val := vv }))
  | [], es', ms, i, hm, h => by
    rw [show ms = [] from hm]
    simp [setA] at h; subst h
    exact .inl ⟨rfl, { key := vk, val := vv, born := c }, [], rfl, hk, hv, rfl⟩
  | e :: es, es', ms, i, hm, h => by
    obtain ⟨m, q, rfl, hk1, hv1, hq⟩ := hm
    simp only [setA, Option.bind_eq_some_iff] at h
    obtain ⟨b, hb, h⟩ := h
    have hs := same_rep hd hk hk1 hb
    simp only [Instr.findNow, hs]
    cases b with
    | true =>
      simp at h; subst h
      exact .inr ⟨0, m, rfl, rfl, sameBits_of hd hk hk1 hb 10000, { m with key := vk, val := vv }, q, rfl, hk, hv, hq⟩
    | false =>
      simp only [Bool.false_eq_true, if_false, Option.bind_eq_some_iff, Option.some.injEq] at h
      obtain ⟨l, hl, rfl⟩ := h
      rcases set_rep hd hk hv c (i + 1) hq hl with ⟨h1, h2⟩ | ⟨j, m2, h1, h2, h3, h4⟩
      · exact .inl ⟨h1, m, _, rfl, hk1, hv1, h2⟩
      · refine .inr ⟨j + 1, m2, ?_, by simpa using h2, h3, ?_⟩
        · rw [h1, show i + 1 + j = i + (j + 1) by omega]
        · rw [List.modify_succ_cons]
          exact ⟨m, _, rfl, hk1, hv1, h4⟩
theorem mapSet_rep (hR : Rel P F φ st w) {t : TypeId} {x k v : AV} {vx vk vv : Value} {st' : St} (hx : Rep φ x vx) (hk : Rep φ k vk) (hv : Rep φ v vv) (h : mapSetA P st t x k v = some st') :
    ∃ w', (Instr.mapUpdate t vx vk vv).run P w = .ok () w' ∧ Rel P F φ st' w' ∧ Keep F w w' := by
  unfold mapSetA at h
  split at h
  case h_2 => simp at h
  rename_i kt et id hu
  split at h
  case isFalse => simp at h
  rename_i hok
  split at h
  case h_2 => simp at h
  rename_i es hid
  simp only [Option.bind_eq_some_iff, Option.some.injEq] at h
  obtain ⟨es', hset, rfl⟩ := h
  obtain ⟨l, M, c, hl, hF, hM, hrep⟩ := hR.blk id _ hid
  simp only [Rep] at hx
  obtain ⟨l', hl', rfl⟩ := hx
  rw [hl] at hl'; simp at hl'; subst hl'
  obtain ⟨d, hd, hdk⟩ := keyOk_cases hok
  have hlt : l.blk < w.heap.size := (Array.getElem?_eq_some_iff.1 hM).1
  have fin : ∀ (M' : Array MapEntry) (c' : Nat), RepM φ es' M'.toList → ∀ w' : World, w' = { w with heap := w.heap.setIfInBounds l.blk (.map M' c') } → Rel P F φ { heap := st.heap.put id (some (.map es')), grps := st.grps, next := st.next } w' ∧ Keep F w w' := by
    rintro M' c' hM' w' rfl
    have hoth : ∀ k, k ≠ l.blk → (w.heap.setIfInBounds l.blk (.map M' c'))[k]? = w.heap[k]? := fun k hk => by rw [Array.getElem?_setIfInBounds]; simp [Ne.symm hk]
    have hK : Keep F w { w with heap := w.heap.setIfInBounds l.blk (.map M' c') } := ⟨rfl, rfl, rfl, by simp, fun k hk => hoth k (by rintro rfl; exact hF hk)⟩
    exact ⟨hR.setRow hid (.inl ⟨_, _, rfl, rfl⟩) hl hK hoth ⟨l, M', c', hl, hF, by simp [hlt], hM'⟩, hK⟩
  have hfk : ∀ (q : Option (Nat × Value)), Instr.findNow d vk M.toList 0 = some q → (Instr.findKey kt vk M.toList).run P w = .ok q w := fun q hq => by
    simp only [Instr.findKey, Sem.run_bind, run_underlying' w hd, Result.andThen, hq, Sem.run_pure]
  rcases set_rep hdk hk hv c 0 hrep hset with ⟨h1, h2⟩ | ⟨j, m, h1, h2, h3, h4⟩
  · obtain ⟨a, b⟩ := fin (M.push { key := vk, val := vv, born := c }) (c + 1) (by simpa using h2) _ rfl
    refine ⟨_, ?_, a, b⟩
    simp only [Instr.mapUpdate, Sem.run_bind, run_underlying' w hu, Result.andThen, getObj, Sem.run, hM, run_checkKey' hok hk, hfk _ h1, setObj]
  · simp only [Nat.zero_add] at h1
    obtain ⟨a, b⟩ := fin (M.modify j fun e => { e with key := vk, val := vv }) c (by simpa using h4) _ rfl
    refine ⟨_, ?_, a, b⟩
    have hkey : (Instr.keyThatStays (((M[j]?).map (·.key)).getD vk) vk).run P w = .ok vk w := by
      have : M[j]? = some m := by simpa using h2
      simp [Instr.keyThatStays, this, h3]
    simp only [Instr.mapUpdate, Sem.run_bind, run_underlying' w hu, Result.andThen, getObj, Sem.run, hM, run_checkKey' hok hk, hfk _ h1, setObj, hkey]
/-! ### Functions without a body -/
theorem find_ib {fn : Func} (h : fn.name = "internal/bytealg.IndexByteString") : Extern.find fn = some Extern.BytealgIndexByte.indexByte := by
  have h1 : Extern.allGenericRows.lookup "internal/bytealg.IndexByteString" = none := by kernel_rfl
  have h2 : Extern.allTypedRows.lookup "internal/bytealg.IndexByteString" = none := by kernel_rfl
  have h3 : Extern.allRows.lookup "internal/bytealg.IndexByteString" = some Extern.BytealgIndexByte.indexByte := by kernel_rfl
  simp [Extern.find, h, h1, h2, h3]
theorem next_ib {fn : Func} (h : fn.name = "internal/bytealg.IndexByteString") (ho : fn.origin = "") : Extern.findNext fn = none := by
  have h1 : Extern.allNextRows.lookup "internal/bytealg.IndexByteString" = none := by kernel_rfl
  have h2 : Extern.allNextRows.lookup "" = none := by kernel_rfl
  simp [Extern.findNext, h, ho, h1, h2]
theorem find_cs {fn : Func} (h : fn.name = "internal/bytealg.abigen_runtime_cmpstring") : Extern.find fn = some Extern.BytealgCompare.compare := by
  have h1 : Extern.allGenericRows.lookup "internal/bytealg.abigen_runtime_cmpstring" = none := by kernel_rfl
  have h2 : Extern.allTypedRows.lookup "internal/bytealg.abigen_runtime_cmpstring" = none := by kernel_rfl
  have h3 : Extern.allRows.lookup "internal/bytealg.abigen_runtime_cmpstring" = some Extern.BytealgCompare.compare := by kernel_rfl
  simp [Extern.find, h, h1, h2, h3]
theorem next_cs {fn : Func} (h : fn.name = "internal/bytealg.abigen_runtime_cmpstring") (ho : fn.origin = "") : Extern.findNext fn = none := by
  have h1 : Extern.allNextRows.lookup "internal/bytealg.abigen_runtime_cmpstring" = none := by kernel_rfl
  have h2 : Extern.allNextRows.lookup "" = none := by kernel_rfl
  simp [Extern.findNext, h, ho, h1, h2]
theorem findB_from : ∀ (l : List UInt8) (c : UInt8) (i : Nat), findB c l i = match (List.range l.length).find? fun j => l[j]! == c with
    | some j => ((i + j : Nat) : Int)
    | none => -1
  | [], c, i => by simp [findB]
  | b :: bs, c, i => by
    rw [findB]
    by_cases hb : (b == c) = true
    · simp [hb, List.range_succ_eq_map]
    · simp only [hb, Bool.false_eq_true, if_false]
      rw [findB_from bs c (i + 1)]
      simp only [List.length_cons, List.range_succ_eq_map, List.find?_cons, List.getElem!_cons_zero, hb, List.find?_map, Function.comp_def, Nat.succ_eq_add_one, List.getElem!_cons_succ]
      cases hf : (List.range bs.length).find? fun j => bs[j]! == c with
      | none => simp [hf]
      | some j => simp only [hf, Option.map_some]; show ((i + 1 + j : Nat) : Int) = ((i + (j + 1) : Nat) : Int); congr 1; omega
theorem cmpA_eq : ∀ (a b : List UInt8), cmpA a b = Lib.compareBytes a b
  | [], [] => by simp [cmpA, Lib.compareBytes]
  | [], _ :: _ => by simp [cmpA, Lib.compareBytes]
  | _ :: _, [] => by simp [cmpA, Lib.compareBytes]
  | x :: a, y :: b => by
    simp only [cmpA, Lib.compareBytes, cmpA_eq a b, beq_iff_eq]
    by_cases h : x = y
    · subst h; simp
    · rw [if_neg h]
      by_cases h1 : x < y
      · rw [if_pos h1, if_pos h1]
      · have : y < x := by
          rcases UInt8.lt_or_lt_of_ne h with h2 | h2
          · exact absurd h2 h1
          · exact h2
        rw [if_neg h1, if_neg h1, if_pos this]
theorem ext_rep {f : FuncId} {fn : Func} {args : List AV} {vs : Array Value} {r : AV} (hf : P.funcs[f]? = some fn) (hb : fn.body.isNone = true) (ho : fn.origin = "") (ha : Reps φ args vs.toList) (h : externA fn.name args = some r) :
    ∃ v, (callFunc f vs).run P w = .ok (.value v) w ∧ Rep φ r v := by
  unfold externA at h
  split at h
  · rename_i a b
    split at h <;> simp only [Option.some.injEq, reduceCtorEq] at h
    rename_i hn
    subst h
    obtain ⟨v1, r1, e1, q1, ha⟩ := ha.cons
    obtain ⟨v2, r2, rfl, q2, ha⟩ := ha.cons
    rw [ha.nil] at e1
    simp only [Rep] at q1 q2; subst q1 q2
    obtain rfl : vs = #[.string ⟨a.toArray⟩, .string ⟨b.toArray⟩] := Array.ext' (by simpa using e1)
    refine ⟨_, ?_, Rep.int' _ _⟩
    rw [run_callFunc_standIn hf (by simp [hn]) hb (next_cs hn ho) (find_cs hn), Lib.run_compareString]
    simp [Result.andThen, cmpA_eq]
  · rename_i s c
    split at h <;> simp only [Option.some.injEq, reduceCtorEq] at h
    rename_i hn
    subst h
    obtain ⟨v1, r1, e1, q1, ha⟩ := ha.cons
    obtain ⟨v2, r2, rfl, q2, ha⟩ := ha.cons
    rw [ha.nil] at e1
    simp only [Rep] at q1 q2; subst q1 q2
    obtain rfl : vs = #[.string ⟨s.toArray⟩, .int .u8 c] := Array.ext' (by simpa using e1)
    refine ⟨_, ?_, Rep.int' _ _⟩
    rw [run_callFunc_standIn hf (by simp [hn]) hb (next_ib hn ho) (find_ib hn), run_indexByte_string]
    have hg : ∀ i, (⟨s.toArray⟩ : ByteArray)[i]! = s[i]! := fun i => by
      rw [Lib.get!_eq, List.getD_eq_getElem?_getD, List.getElem!_eq_getElem?_getD]; rfl
    simp only [Result.andThen, firstIdx, findB_from, hg, Nat.zero_add]
    rfl
  · simp at h
end
end Go.Ev
set_option linter.unusedVariables false
set_option linter.unusedSimpArgs false
namespace Go.Ev
/-! ### An operation, whatever it is -/
def RepCh (φ : Phi) : List AV → List PanicEntry → Prop
  | [], ps => ps = []
  | x :: xs, ps => ∃ p r, ps = p :: r ∧ (p.recovered = false ∧ p.goexit = false) ∧ Rep φ x p.v ∧ RepCh φ xs r
def RepD (φ : Phi) (x : AV × List AV) (d : Deferred) : Prop :=
  match x.1 with
  | .func (.func k) a b => ∃ (u v w : Array Value), d = { target := .fn (.func k) v, args := u ++ w } ∧ Reps φ a u.toList ∧ Reps φ b v.toList ∧ Reps φ x.2 w.toList
  | _ => False
def RepE (φ : Phi) : Out → Ending → Prop
  | .ret v, .returned u => Rep φ v u
  | .pan ch, .panicked c => RepCh φ ch c
  | _, _ => False
theorem RepCh.mono {φ ψ : Phi} (h : φ.le ψ) : ∀ {xs : List AV} {ps : List PanicEntry}, RepCh φ xs ps → RepCh ψ xs ps
  | [], ps, hr => hr
  | x :: xs, ps, ⟨p, r, h1, h2, h3, h4⟩ => ⟨p, r, h1, h2, h3.mono h, h4.mono h⟩
theorem RepD.mono {φ ψ : Phi} (h : φ.le ψ) {x : AV × List AV} {d : Deferred} (hr : RepD φ x d) : RepD ψ x d := by
  unfold RepD at hr ⊢
  split at hr
  · rename_i k a b e
    obtain ⟨u, v, w, h1, h2, h3, h4⟩ := hr
    exact ⟨u, v, w, h1, h2.mono h, h3.mono h, h4.mono h⟩
  · exact hr.elim
/-- No function asks how many goroutines there are. -/
def NoNum (P : Program) : Prop := ∀ (f : FuncId) (fn : Func), P.funcs[f]? = some fn → fn.name ≠ "runtime.NumGoroutine"
/-- A call comes to what the evaluator says. -/
def SoundCall (P : Program) (call : CallA) : Prop := NoNum P ∧ ∀ (F : Froz) (φ : Phi) (st : St) (w : World) (f : FuncId) (args : List AV) (vs : Array Value) (o : Out) (st' : St), Rel P F φ st w → Reps φ args vs.toList → call f args st = some (o, st') →
  Calls P f vs w fun e w' => ∃ ψ, φ.le ψ ∧ Rel P F ψ st' w' ∧ Keep F w w' ∧ RepE ψ o e
/-- What stands behind an operation. -/
def Post (P : Program) (F : Froz) (φ : Phi) (w : World) (dst : Option Tmp) (a : Act) (next : Act → World → Prop) (Q : Exit → Act → World → Prop) (r : OpOut) (st' : St) : Prop :=
  ∀ (ψ : Phi) (w' : World), φ.le ψ → Rel P F ψ st' w' → Keep F w w' →
    match r with
    | .val v => ∀ u, Rep ψ v u → next (a.put dst u) w'
    | .skip => next (a.put dst undef) w'
    | .pan ch => ∀ c, RepCh ψ ch c → Q (.panic c) a w'
    | .dfr f as => ∀ d, RepD ψ (f, as) d → next ({ a with defers := d :: a.defers }.put dst undef) w'
section
variable {P : Program} {F : Froz} {φ ψ : Phi} {st st' : St} {w w' : World} {σ : Trie AV} {a : Act} {next : Act → World → Prop} {Q : Exit → Act → World → Prop} {o : Oper} {r : OpOut}
theorem wp_of_value {s : Sem Value} {v : Value} (he : execOp a.eval o = (do pure (Next.value (← s)) : Sem Next)) (h : s.run P w = .ok v w') (hn : next (a.put o.dst v) w') : o.wp P a w next Q := by
  unfold Oper.wp
  rw [he, run_v h]
  exact hn
theorem wp_of_unit {s : Sem Unit} (he : execOp a.eval o = (do s; pure Next.skip : Sem Next)) (h : s.run P w = .ok () w') (hn : next (a.put o.dst undef) w') : o.wp P a w next Q := by
  unfold Oper.wp
  rw [he]
  simp only [Sem.run_bind, h, Result.andThen, Sem.run_pure]
  exact hn
theorem run_callFunc_body {f : FuncId} {fn : Func} (hf : P.funcs[f]? = some fn) (hn : fn.name ≠ "runtime.NumGoroutine") (hb : fn.body.isNone = false) (args : Array Value) : (callFunc f args).run P w = .ok (.enter f args) w := by
  have h1 : (fn.name == "runtime.NumGoroutine") = false := by simpa using hn
  simp only [callFunc, Sem.run_bind, program, Sem.run, Result.andThen, hf, h1, hb, Bool.false_eq_true, if_false]
  rfl
theorem resolve_value {ρ : Operand → Value} {c : Call} {f : Operand} {type : TypeId} {k : FuncId} {x y : Array Value} (hc : c.callee = .value f) (hf : ρ f = .func (.func k) x y) :
    resolve ρ c type = pure { target := .fn (.func k) y, args := x ++ c.args.map ρ } := by
  unfold resolve
  rw [hc]
  simp only [hf, Deferred.ofValue]
set_option maxHeartbeats 1000000 in
theorem chain_rep {E : Env} {call : CallA} (hE : E.P = P) (hcall : SoundCall P call) (hR : Rel P F φ st w) (hO : ∀ y ∈ o.op.operands, Opnd P φ σ a.eval y) (h : chainA E call σ st o.op = some (r, st')) (hpost : Post P F φ w o.dst a next Q r st') :
    o.wp P a w next Q := by
  subst hE
  obtain ⟨dst, op, type, pos, after, guard⟩ := o
  cases op <;> simp only [chainA, reduceCtorEq] at h <;> simp only [Op.operands] at hO
  case store t x y =>
    simp only [Option.bind_eq_some_iff, Option.some.injEq, Prod.mk.injEq] at h
    obtain ⟨va, ha, vx, hx, st1, hs, rfl, rfl⟩ := h
    obtain ⟨w', h1, h2, h3⟩ := store_rep hR (hO x (by simp) _ ha) (hO y (by simp) _ hx) hs
    exact wp_of_unit rfl h1 (hpost φ w' (Phi.le.refl _) h2 h3)
  case mapUpdate t m k x =>
    simp only [Option.bind_eq_some_iff, Option.some.injEq, Prod.mk.injEq] at h
    obtain ⟨va, ha, vk, hk, vx, hx, st1, hs, rfl, rfl⟩ := h
    obtain ⟨w', h1, h2, h3⟩ := mapSet_rep hR (hO m (by simp) _ ha) (hO k (by simp) _ hk) (hO x (by simp) _ hx) hs
    exact wp_of_unit rfl h1 (hpost φ w' (Phi.le.refl _) h2 h3)
  case insert t m k x =>
    simp only [Option.bind_eq_some_iff, Option.some.injEq, Prod.mk.injEq] at h
    obtain ⟨va, ha, vk, hk, vx, hx, st1, hs, rfl, rfl⟩ := h
    obtain ⟨w', h1, h2, h3⟩ := mapSet_rep hR (hO m (by simp) _ ha) (hO k (by simp) _ hk) (hO x (by simp) _ hx) hs
    exact wp_of_unit rfl h1 (hpost φ w' (Phi.le.refl _) h2 h3)
  case range t x =>
    simp only [Option.bind_eq_some_iff] at h
    obtain ⟨v, hv, h⟩ := h
    split at h
    case h_2 => simp at h
    rename_i s hu
    simp only [Option.some.injEq, Prod.mk.injEq] at h
    obtain ⟨rfl, rfl⟩ := h
    have hx := hO x (by simp) _ hv
    simp only [Rep] at hx
    have hA := hR.alloc (l := ⟨w.heap.size, 0, 0, 0⟩) (b := .iter s 0) (Grew.alloc w (.stringIter ⟨s.toArray⟩ 0)) rfl ⟨rfl, rfl⟩
    refine wp_of_value (v := .pointer (some ⟨w.heap.size, 0, none⟩)) (s := Instr.range t (a.eval x)) rfl ?_ (hpost _ _ (Phi.le_add (hR.fresh _ (Nat.le_refl _))) hA.1 hA.2 _ ?_)
    · rw [hx]
      simp [Instr.range, run_underlying hu]
    · simp only [Rep]
      exact ⟨_, Phi.add_self, rfl⟩
  case next x isS =>
    cases isS with
    | false => simp at h
    | true =>
      simp only [Option.bind_eq_some_iff] at h
      obtain ⟨v, hv, h⟩ := h
      have hx := hO x (by simp) _ hv
      split at h
      case h_2 => simp at h
      rename_i id
      split at h
      case h_2 => simp at h
      rename_i s p hid
      simp only [Rep] at hx
      obtain ⟨l, hl, hx⟩ := hx
      obtain ⟨l', hl', hF, hh, hbase⟩ := hR.blk id _ hid
      rw [hl] at hl'; simp at hl'; subst hl'
      have hlt : l.blk < w.heap.size := (Array.getElem?_eq_some_iff.1 hh).1
      have hsz : (⟨s.toArray⟩ : ByteArray).size = s.length := by simp [ByteArray.size]
      split at h
      · rename_i hp
        simp only [Option.some.injEq, Prod.mk.injEq] at h
        obtain ⟨rfl, rfl⟩ := h
        have hoth : ∀ k, k ≠ l.blk → (w.heap.setIfInBounds l.blk (.stringIter ⟨s.toArray⟩ (p + (Utf8.decode ⟨s.toArray⟩ p).2)))[k]? = w.heap[k]? := fun k hk => by rw [Array.getElem?_setIfInBounds]; simp [Ne.symm hk]
        have hK : Keep F w { w with heap := w.heap.setIfInBounds l.blk (.stringIter ⟨s.toArray⟩ (p + (Utf8.decode ⟨s.toArray⟩ p).2)) } := ⟨rfl, rfl, rfl, by simp, fun k hk => hoth k (by rintro rfl; exact hF hk)⟩
        have hS := hR.setRow (b' := .iter s (p + (Utf8.decode ⟨s.toArray⟩ p).2)) hid (.inr ⟨_, _, _, _, rfl, rfl⟩) hl hK hoth ⟨l, hl, hF, by simp [hlt], hbase⟩
        refine wp_of_value (v := .tuple #[.bool true, goInt p, .int .i32 (Utf8.decode ⟨s.toArray⟩ p).1]) (s := Instr.next (a.eval x) true type) rfl ?_ (hpost _ _ (Phi.le.refl _) hS hK _ ?_)
        · rw [hx]
          have hp' : p < (⟨s.toArray⟩ : ByteArray).size := by omega
          simp only [Instr.next, hbase, Nat.add_zero, Sem.run_bind, getObj, Sem.run, hh, Result.andThen, hp', if_true, setObj, Sem.run_pure]
        · simp only [Rep]
          exact ⟨_, rfl, Reps.cons' (Rep.bool' _) (Reps.cons' (Rep.int' _ _) (Reps.cons' (Rep.int' _ _) Reps.nil'))⟩
      · rename_i hp
        simp only [Option.some.injEq, Prod.mk.injEq] at h
        obtain ⟨rfl, rfl⟩ := h
        refine wp_of_value (v := .tuple #[.bool false]) (s := Instr.next (a.eval x) true type) rfl ?_ (hpost _ _ (Phi.le.refl _) hR (Keep.refl w) _ ?_)
        · rw [hx]
          have hp' : ¬ p < (⟨s.toArray⟩ : ByteArray).size := by omega
          simp only [Instr.next, hbase, Nat.add_zero, Sem.run_bind, getObj, Sem.run, hh, Result.andThen, hp', if_false, Sem.run_pure]
        · simp only [Rep]
          exact ⟨_, rfl, Reps.cons' (Rep.bool' _) Reps.nil'⟩
  case panic x =>
    simp only [Option.bind_eq_some_iff] at h
    obtain ⟨v, hv, h⟩ := h
    have hx := hO x (by simp) _ hv
    split at h
    case h_2 => simp at h
    rename_i t y
    simp only [Option.some.injEq, Prod.mk.injEq] at h
    obtain ⟨rfl, rfl⟩ := h
    have hp := hpost φ w (Phi.le.refl _) hR (Keep.refl w) [{ v := a.eval x, recovered := false }] ⟨_, _, rfl, ⟨rfl, rfl⟩, hx, rfl⟩
    simp only [Rep] at hx
    obtain ⟨u, hu, _⟩ := hx
    have hrun : (execOp a.eval { dst := dst, op := .panic x, type := type, pos := pos, after := after, guard := guard }).run E.P w = .halt (.panic (a.eval x)) w := by
      simp only [execOp, Instr.panic, hu, Sem.run_bind, goPanic, Sem.run, Result.andThen]
    unfold Oper.wp
    rw [hrun]
    exact hp
  case defer c =>
    split at h
    case h_2 => simp at h
    rename_i f hcal
    simp only [Option.bind_eq_some_iff] at h
    obtain ⟨fv, hf, h⟩ := h
    split at h
    case h_2 => simp at h
    rename_i k x y
    simp only [Option.bind_eq_some_iff, Option.some.injEq, Prod.mk.injEq] at h
    obtain ⟨as, has, rfl, rfl⟩ := h
    have hf' := hO f (by simp [Call.operands, hcal]) _ hf
    simp only [Rep] at hf'
    obtain ⟨u, v, hfv, h1, h2⟩ := hf'
    have hargs : Reps φ as (c.args.map a.eval).toList := by
      simpa using evalL_rep (ρ := a.eval) (fun y hy => hO y (by simp [Call.operands]; exact .inr (by simpa using hy))) has
    have hp := hpost φ w (Phi.le.refl _) hR (Keep.refl w) _ ⟨u, v, c.args.map a.eval, rfl, h1, h2, hargs⟩
    unfold Oper.wp execOp
    simp only [resolve_value hcal hfv]
    exact hp
  case call c =>
    simp only [Option.bind_eq_some_iff] at h
    obtain ⟨args, ha, h⟩ := h
    have hargs : Reps φ args (c.args.map a.eval).toList := by
      simpa using evalL_rep (ρ := a.eval) (fun y hy => hO y (by simp [Call.operands]; exact .inr (by simpa using hy))) ha
    split at h
    · -- append
      rename_i hcal
      split at h
      case h_2 => simp at h
      rename_i t u s x htys
      split at h
      case isFalse => simp at h
      rename_i hsrc
      simp only [Option.bind_eq_some_iff, Option.some.injEq, Prod.mk.injEq] at h
      obtain ⟨q, hq, rfl, rfl⟩ := h
      obtain ⟨v1, r1, e1, q1, hargs⟩ := hargs.cons
      obtain ⟨v2, r2, rfl, q2, hargs⟩ := hargs.cons
      rw [hargs.nil] at e1
      obtain ⟨v, w', ψ, h1, h2, h3, h4, h5⟩ := append_rep (ty := type) hR hsrc q1 q2 hq
      refine wp_of_value (s := Builtin.append_ #[t, u] type #[v1, v2]) ?_ h1 (hpost ψ w' h2 h4 h5 _ h3)
      have ht : c.argTypes = #[t, u] := Array.ext' (by simpa using htys)
      have hv : c.args.map a.eval = #[v1, v2] := Array.ext' (by simpa using e1)
      simp only [execOp, resolve, hcal, ht, hv]
      rfl
    · -- copy
      rename_i hcal
      split at h
      case h_2 => simp at h
      rename_i t u s x htys
      simp only [Option.bind_eq_some_iff, Option.some.injEq, Prod.mk.injEq] at h
      obtain ⟨q, hq, rfl, rfl⟩ := h
      obtain ⟨v1, r1, e1, q1, hargs⟩ := hargs.cons
      obtain ⟨v2, r2, rfl, q2, hargs⟩ := hargs.cons
      rw [hargs.nil] at e1
      obtain ⟨v, w', h1, h3, h4, h5⟩ := copy_rep (ty := type) (u := u) hR q1 q2 hq
      refine wp_of_value (s := Builtin.copy_ #[t, u] type #[v1, v2]) ?_ h1 (hpost φ w' (Phi.le.refl _) h4 h5 _ h3)
      have ht : c.argTypes = #[t, u] := Array.ext' (by simpa using htys)
      have hv : c.args.map a.eval = #[v1, v2] := Array.ext' (by simpa using e1)
      simp only [execOp, resolve, hcal, ht, hv]
      rfl
    · rename_i f hcal
      simp only [Option.bind_eq_some_iff] at h
      obtain ⟨fv, hf, h⟩ := h
      split at h
      case h_2 => simp at h
      rename_i k x y
      simp only [Option.bind_eq_some_iff] at h
      obtain ⟨fn, hfn, h⟩ := h
      have hf' := hO f (by simp [Call.operands, hcal]) _ hf
      simp only [Rep] at hf'
      obtain ⟨u, v, hfv, h1, h2⟩ := hf'
      have hall : Reps φ (x ++ args ++ y) (u ++ c.args.map a.eval ++ v).toList := by
        rw [Array.toList_append, Array.toList_append]
        exact (h1.append hargs).append h2
      have hexec : execOp a.eval { dst := dst, op := .call c, type := type, pos := pos, after := after, guard := guard } = callFunc k (u ++ c.args.map a.eval ++ v) := by
        simp only [execOp, resolve_value hcal hfv]
        rfl
      unfold Oper.wp
      rw [hexec]
      split at h
      · rename_i hb
        split at h
        case isFalse => simp at h
        rename_i ho
        simp only [Option.bind_eq_some_iff, Option.some.injEq, Prod.mk.injEq] at h
        obtain ⟨rv, hrv, rfl, rfl⟩ := h
        obtain ⟨q, h3, h4⟩ := ext_rep (w := w) hfn hb ho hall hrv
        rw [h3]
        exact hpost φ w (Phi.le.refl _) hR (Keep.refl w) _ h4
      · rename_i hb
        have hname := hcall.1 k fn hfn
        simp only [Option.bind_eq_some_iff] at h
        obtain ⟨q, hq, h⟩ := h
        rw [run_callFunc_body hfn hname (by cases hq9 : fn.body.isNone with | true => exact absurd hq9 hb | false => rfl)]
        have hC := hcall.2 F φ st w k _ _ q.1 q.2 hR hall hq
        refine hC.mono ?_
        rintro e w' ⟨ψ, h3, h4, h5, h6⟩
        cases hq1 : q.1 with
        | ret rv =>
          rw [hq1] at h h6
          simp only [Option.some.injEq, Prod.mk.injEq] at h
          obtain ⟨rfl, rfl⟩ := h
          cases e with
          | returned uv => exact hpost ψ w' h3 h4 h5 _ h6
          | panicked c => exact h6.elim
          | outgrown => exact h6.elim
        | pan ch =>
          rw [hq1] at h h6
          simp only [Option.some.injEq, Prod.mk.injEq] at h
          obtain ⟨rfl, rfl⟩ := h
          cases e with
          | returned uv => exact h6.elim
          | panicked c => exact hpost ψ w' h3 h4 h5 _ h6
          | outgrown => exact h6.elim
    · simp at h
theorem op_rep {E : Env} {call : CallA} (hE : E.P = P) (hcall : SoundCall P call) (hR : Rel P F φ st w) (hO : ∀ y ∈ o.op.operands, Opnd P φ σ a.eval y) (h : opA E call σ st o.op = some (r, st')) (hpost : Post P F φ w o.dst a next Q r st') :
    o.wp P a w next Q := by
  subst hE
  unfold opA at h
  split at h
  · rename_i hq
    simp only [Option.bind_eq_some_iff, Option.some.injEq, Prod.mk.injEq] at h
    obtain ⟨v, hv, rfl, rfl⟩ := h
    obtain ⟨u, h1, h2⟩ := quiet_rep hR.toRelQ hO hq hv
    unfold Oper.wp
    rw [h1]
    exact hpost φ w (Phi.le.refl _) hR (Keep.refl w) _ h2
  · split at h
    · rename_i hf
      simp only [Option.bind_eq_some_iff, Option.some.injEq, Prod.mk.injEq] at h
      obtain ⟨⟨b, x⟩, hb, rfl, rfl⟩ := h
      obtain ⟨l, obj, cv, w', h1, h2, h3, h4, h5⟩ := float_rep hR.toRelQ hO hf hb
      have hA := hR.alloc h3 h1 h4
      have hle : φ.le (φ.add st.next l) := Phi.le_add (hR.fresh _ (Nat.le_refl _))
      unfold Oper.wp
      rw [h2]
      exact hpost _ w' hle hA.1 hA.2 _ (h5 _ hle Phi.add_self)
    · exact chain_rep rfl hcall hR hO h hpost
end
end Go.Ev
set_option linter.unusedVariables false
set_option linter.unusedSimpArgs false
namespace Go.Ev
/-! ### Frames; a region in the order of its text -/
def RepDs (φ : Phi) : List (AV × List AV) → List Deferred → Prop
  | [], ds => ds = []
  | x :: xs, ds => ∃ d r, ds = d :: r ∧ RepD φ x d ∧ RepDs φ xs r
theorem RepDs.mono {φ ψ : Phi} (h : φ.le ψ) : ∀ {xs : List (AV × List AV)} {ds : List Deferred}, RepDs φ xs ds → RepDs ψ xs ds
  | [], ds, hr => hr
  | x :: xs, ds, ⟨d, r, h1, h2, h3⟩ => ⟨d, r, h1, h2.mono h, h3.mono h⟩
structure FrRel (φ : Phi) (fr : Fr) (a : Act) : Prop where
  size : fr.n = a.tmps.size
  tmps : ∀ t v, fr.tmps.get t = some v → ∃ u, a.tmps[t]? = some u ∧ Rep φ v u
  defers : RepDs φ fr.defers a.defers
theorem FrRel.mono {φ ψ : Phi} (h : φ.le ψ) {fr : Fr} {a : Act} (hr : FrRel φ fr a) : FrRel ψ fr a :=
  ⟨hr.size, fun t v e => by obtain ⟨u, h1, h2⟩ := hr.tmps t v e; exact ⟨u, h1, h2.mono h⟩, hr.defers.mono h⟩
theorem FrRel.put {φ : Phi} {fr fr' : Fr} {a : Act} (hr : FrRel φ fr a) {dst : Option Tmp} {v : AV} {u : Value} (h : fr.put dst v = some fr') (hv : Rep φ v u) : FrRel φ fr' (a.put dst u) := by
  unfold Fr.put at h
  split at h
  · simp only [Option.some.injEq] at h; subst h; exact hr
  · rename_i d
    split at h <;> simp only [Option.some.injEq, reduceCtorEq] at h
    rename_i hd
    subst h
    refine ⟨by simp [Act.put, hr.size], fun t x hx => ?_, hr.defers⟩
    simp only [Act.put]
    rw [Trie.get_put] at hx
    split at hx
    · rename_i ht; subst ht
      simp only [Option.some.injEq] at hx; subst hx
      have hlt : t < a.tmps.size := hr.size ▸ hd
      exact ⟨u, by rw [Array.getElem?_setIfInBounds, if_pos rfl, if_pos hlt], hv⟩
    · rename_i ht
      obtain ⟨u', h1, h2⟩ := hr.tmps t x hx
      exact ⟨u', by rw [Array.getElem?_setIfInBounds_ne (Ne.symm ht)]; exact h1, h2⟩
theorem Rep.undef (φ : Phi) : Rep φ undefA Go.undef := by
  unfold undefA Go.undef
  simp only [Rep]
  exact ⟨#[], rfl, Reps.nil'⟩
theorem FrRel.opnd {P : Program} {F : Froz} {φ : Phi} {st : St} {w : World} {fr : Fr} {a : Act} (hr : FrRel φ fr a) (hR : RelQ P F φ st w) (x : Operand) : Opnd P φ fr.tmps a.eval x :=
  opnd_of (Act.good a) hR x fun t v hx ht => by
    subst hx
    obtain ⟨u, h1, h2⟩ := hr.tmps t v ht
    simpa [Act.eval, h1] using h2
theorem wantedA_spec {φ : Phi} {fr : Fr} {a : Act} (hr : FrRel φ fr a) {ops : Array Oper} {o : Oper} {b : Bool} (h : wantedA fr.tmps ops o = some b) : Region.wanted o (yielded ops a.tmps) = b := by
  unfold wantedA at h
  unfold Region.wanted
  split at h
  · rename_i hg
    simp only [Option.some.injEq] at h; subst h
    simp [hg]
  · rename_i j want hg
    simp only [Option.bind_eq_some_iff] at h
    obtain ⟨d, ⟨p, hp, hd⟩, v, hv, h⟩ := h
    obtain ⟨u, h1, h2⟩ := hr.tmps d v hv
    simp only [hg, yielded, hp, hd, Option.bind_some, h1]
    split at h
    · rename_i c
      simp only [Option.some.injEq] at h; subst h
      simp only [Rep] at h2; subst h2
      simp
    · simp only [Option.some.injEq] at h; subst h
      simp only [Rep] at h2
      obtain ⟨x, rfl, _⟩ := h2
      simp
    · simp at h
def RepEx (φ : Phi) : Ex → Exit → Prop
  | .normal, e => e = .normal
  | .exit i, e => e = .exit i
  | .goto l, e => e = .goto l
  | .ret, e => e = .ret
  | .pan ch, e => ∃ c, e = .panic c ∧ RepCh φ ch c
/-- What is asked of all that the evaluator's answer stands for. -/
def Lands (P : Program) (F : Froz) (φ : Phi) (w : World) (Q : Exit → Act → World → Prop) (e : Ex) (fr : Fr) (st : St) : Prop :=
  ∀ ψ a' w', φ.le ψ → Rel P F ψ st w' → Keep F w w' → FrRel ψ fr a' → ∀ e', RepEx ψ e e' → Q e' a' w'
theorem Lands.from {P : Program} {F : Froz} {φ ψ : Phi} {w w' : World} {Q : Exit → Act → World → Prop} {e : Ex} {fr : Fr} {st : St} (h : Lands P F φ w Q e fr st) (hψ : φ.le ψ) (hK : Keep F w w') : Lands P F ψ w' Q e fr st :=
  fun χ a' w'' h1 h2 h3 h4 => h χ a' w'' (hψ.trans h1) h2 (hK.trans h3) h4
section
variable {P : Program} {F : Froz} {Q : Exit → Act → World → Prop}
theorem ops_rep {E : Env} {call : CallA} (hE : E.P = P) (hcall : SoundCall P call) (ops : Array Oper) : ∀ (m k : Nat) (rest : List Oper), k + m = ops.size → rest = ops.toList.drop k → ∀ (φ : Phi) (fr : Fr) (st : St) (a : Act) (w : World) (e : Ex) (fr' : Fr) (st' : St),
    opsA E call ops rest fr st = some (e, fr', st') → Rel P F φ st w → FrRel φ fr a → Lands P F φ w Q e fr' st' → wpOps P ops Q (List.range' k m) a w
  | 0, k, rest, hk, hrest, φ, fr, st, a, w, e, fr', st', h, hR, hF, hL => by
    have hr0 : rest = [] := by rw [hrest]; apply List.drop_eq_nil_of_le; simp; omega
    subst hr0
    simp only [opsA, Option.some.injEq, Prod.mk.injEq] at h
    obtain ⟨rfl, rfl, rfl⟩ := h
    simp only [List.range', wpOps]
    exact hL φ a w (Phi.le.refl _) hR (Keep.refl w) hF _ rfl
  | m + 1, k, rest, hk, hrest, φ, fr, st, a, w, e, fr', st', h, hR, hF, hL => by
    have hlt : k < ops.size := by omega
    have hr1 : rest = ops[k] :: ops.toList.drop (k + 1) := by rw [hrest, List.drop_eq_getElem_cons (by simpa using hlt)]; simp
    subst hr1
    simp only [opsA, Option.bind_eq_some_iff] at h
    obtain ⟨b, hb, h⟩ := h
    have hw := wantedA_spec hF hb
    simp only [List.range', wpOps, Array.getElem?_eq_getElem hlt]
    rw [hw]
    cases b with
    | false =>
      simp only [Bool.false_eq_true, if_false, Option.bind_eq_some_iff] at h ⊢
      obtain ⟨fr1, hp, h⟩ := h
      exact ops_rep hE hcall ops m (k + 1) _ (by omega) rfl φ fr1 st _ w e fr' st' h hR (hF.put hp (Rep.undef φ)) hL
    | true =>
      simp only [if_true, Option.bind_eq_some_iff] at h ⊢
      obtain ⟨⟨r, st1⟩, hop, h⟩ := h
      refine .inl (op_rep hE hcall hR (fun y _ => hF.opnd hR.toRelQ y) hop fun ψ w1 hψ hR1 hK1 => ?_)
      cases r with
      | val v =>
        intro u hu
        simp only [Option.bind_eq_some_iff] at h
        obtain ⟨fr1, hp, h⟩ := h
        exact ops_rep hE hcall ops m (k + 1) _ (by omega) rfl ψ fr1 st1 _ w1 e fr' st' h hR1 ((hF.mono hψ).put hp hu) (hL.from hψ hK1)
      | skip =>
        simp only [Option.bind_eq_some_iff] at h
        obtain ⟨fr1, hp, h⟩ := h
        exact ops_rep hE hcall ops m (k + 1) _ (by omega) rfl ψ fr1 st1 _ w1 e fr' st' h hR1 ((hF.mono hψ).put hp (Rep.undef ψ)) (hL.from hψ hK1)
      | pan ch =>
        intro c hc
        simp only [Option.some.injEq, Prod.mk.injEq] at h
        obtain ⟨rfl, rfl, rfl⟩ := h
        exact hL ψ a w1 hψ hR1 hK1 (hF.mono hψ) _ ⟨c, rfl, hc⟩
      | dfr f as =>
        intro d hd
        simp only [Option.bind_eq_some_iff] at h
        obtain ⟨fr1, hp, h⟩ := h
        have hF1 : FrRel ψ { tmps := fr1.tmps, n := fr1.n, defers := (f, as) :: fr1.defers } ({ a with defers := d :: a.defers }.put ops[k].dst undef) := by
          have h1 := (hF.mono hψ).put hp (Rep.undef ψ)
          have hdf : fr1.defers = fr.defers := by
            unfold Fr.put at hp
            split at hp
            · simp only [Option.some.injEq] at hp; subst hp; rfl
            · split at hp <;> simp only [Option.some.injEq, reduceCtorEq] at hp
              subst hp; rfl
          have ht : ({ a with defers := d :: a.defers }.put ops[k].dst undef : Act).tmps = (a.put ops[k].dst undef).tmps := by
            cases ops[k].dst <;> rfl
          have hdd : ({ a with defers := d :: a.defers }.put ops[k].dst undef : Act).defers = d :: a.defers := by
            cases ops[k].dst <;> rfl
          exact ⟨by rw [ht]; exact h1.size, fun t v e => by rw [ht]; exact h1.tmps t v e, by
            rw [hdd, hdf]
            exact ⟨d, _, rfl, hd, hF.defers.mono hψ⟩⟩
        exact ops_rep hE hcall ops m (k + 1) _ (by omega) rfl ψ _ st1 _ w1 e fr' st' h hR1 hF1 (hL.from hψ hK1)
theorem region_rep {E : Env} {call : CallA} (hE : E.P = P) (hcall : SoundCall P call) {id : Nat} {ops : Array Oper} {φ : Phi} {fr : Fr} {st : St} {a : Act} {w : World} {e : Ex} {fr' : Fr} {st' : St}
    (h : opsA E call ops ops.toList fr st = some (e, fr', st')) (hR : Rel P F φ st w) (hF : FrRel φ fr a) (hL : Lands P F φ w Q e fr' st') : (Code.region id ops false).wp P Q a w := by
  apply wp_region
  have := ops_rep hE hcall ops ops.size 0 ops.toList (by omega) (by simp) φ fr st a w e fr' st' h hR hF hL
  rwa [← List.range_eq_range'] at this
/-! ### Loops and labels, step by step -/
def LoopWp (P : Program) (c : Code) (Q : Exit → Act → World → Prop) (a : Act) (w : World) : Prop :=
  ∀ (b : Frame) (k : List Item) (cs : List Frame), ∃ e a' w', Q e a' w' ∧ Arrives P (lone (b.at a (.code c :: .inLoop c :: k)) cs w) b k cs e a' w'
theorem LoopWp.wp {c : Code} {a : Act} {w : World} (h : LoopWp P c Q a w) : (Code.loop c).wp P Q a w := fun b k cs => by
  obtain ⟨e, a', w', hq, harr⟩ := h b k cs
  exact ⟨e, a', w', hq, .of_steps (.one step_loop) harr⟩
theorem LoopWp.unroll {c : Code} {a : Act} {w : World} (h : c.wp P (Exit.then (LoopWp P c Q) Q) a w) : LoopWp P c Q a w := fun b k cs => by
  obtain ⟨e, a₁, w₁, hq, harr⟩ := h b (.inLoop c :: k) cs
  cases e with
  | normal =>
    obtain ⟨e₂, a₂, w₂, hq₂, harr₂⟩ := hq b k cs
    exact ⟨e₂, a₂, w₂, hq₂, .of_steps (Steps.trans harr (.one step_inLoop)) harr₂⟩
  | exit id => exact ⟨_, a₁, w₁, hq, .pass (x := .inLoop c) rfl (fun _ _ => .inl (by simp)) harr⟩
  | goto l => exact ⟨_, a₁, w₁, hq, .pass (x := .inLoop c) rfl (fun _ _ => .inl (by simp)) harr⟩
  | ret => exact ⟨_, a₁, w₁, hq, .pass (x := .inLoop c) rfl (fun _ _ => .inl (by simp)) harr⟩
  | panic ch => exact ⟨_, a₁, w₁, hq, .pass (x := .inLoop c) rfl (fun _ _ => .inl (by simp)) harr⟩
  | outgrown => exact ⟨_, a₁, w₁, hq, .pass (x := .inLoop c) rfl (fun _ _ => .inl (by simp)) harr⟩
/-- The rest c of a scope b. -/
def ScopeWp (P : Program) (c b : Code) (Q : Exit → Act → World → Prop) (a : Act) (w : World) : Prop :=
  ∀ (f : Frame) (k : List Item) (cs : List Frame), ∃ e a' w', Q e a' w' ∧ Arrives P (lone (f.at a (.code c :: .inScope b :: k)) cs w) f k cs e a' w'
theorem ScopeWp.wp {b : Code} {a : Act} {w : World} (h : ScopeWp P b b Q a w) : (Code.scope b).wp P Q a w := fun f k cs => by
  obtain ⟨e, a', w', hq, harr⟩ := h f k cs
  exact ⟨e, a', w', hq, .of_steps (.one step_scope) harr⟩
def Exit.inScopeOf (P : Program) (b : Code) (Q : Exit → Act → World → Prop) : Exit → Act → World → Prop
  | .goto l, a, w => match findLabel b l with
    | some rest => ScopeWp P rest b Q a w
    | none => Q (.goto l) a w
  | e, a, w => Q e a w
theorem ScopeWp.of_wp {c b : Code} {a : Act} {w : World} (h : c.wp P (Exit.inScopeOf P b Q) a w) : ScopeWp P c b Q a w := fun f k cs => by
  obtain ⟨e, a₁, w₁, hq, harr⟩ := h f (.inScope b :: k) cs
  cases e with
  | normal => exact ⟨.normal, a₁, w₁, hq, Steps.trans harr (.one step_inScope)⟩
  | exit id => exact ⟨_, a₁, w₁, hq, fun k' hk => harr k' (by simp [exitTo, hk])⟩
  | goto l =>
    simp only [Exit.inScopeOf] at hq
    split at hq
    · rename_i rest hf
      obtain ⟨e₂, a₂, w₂, hq₂, harr₂⟩ := hq f k cs
      exact ⟨e₂, a₂, w₂, hq₂, .of_steps (harr _ (by simp [gotoIn, hf])) harr₂⟩
    · rename_i hf
      exact ⟨_, a₁, w₁, hq, fun k' hk => harr k' (by simp [gotoIn, hf, hk])⟩
  | ret => exact ⟨_, a₁, w₁, hq, harr⟩
  | panic ch => exact ⟨_, a₁, w₁, hq, harr⟩
  | outgrown => exact ⟨_, a₁, w₁, hq, harr⟩
end
end Go.Ev
set_option linter.unusedVariables false
set_option linter.unusedSimpArgs false
namespace Go.Ev
/-! ### Regions whose order is open: groundwork -/
mutual
theorem eqAV_sound : ∀ (a b : AV), eqAV a b = true → a = b
  | .bool a, b, h => by cases b <;> simp [eqAV] at h; subst h; rfl
  | .int k a, b, h => by cases b <;> simp [eqAV] at h; obtain ⟨rfl, rfl⟩ := h; rfl
  | .str a, b, h => by cases b <;> simp [eqAV] at h; subst h; rfl
  | .ptr a, b, h => by cases b <;> simp [eqAV] at h; subst h; rfl
  | .slice a n c, b, h => by cases b <;> simp [eqAV] at h; obtain ⟨⟨rfl, rfl⟩, rfl⟩ := h; rfl
  | .map a, b, h => by cases b <;> simp [eqAV] at h; subst h; rfl
  | .func f x y, b, h => by
    cases b <;> simp [eqAV] at h
    obtain ⟨⟨rfl, h1⟩, h2⟩ := h
    rw [eqAVs_sound _ _ h1, eqAVs_sound _ _ h2]
  | .nilFunc, b, h => by cases b <;> simp [eqAV] at h; rfl
  | .iface t v, b, h => by
    cases b <;> simp [eqAV] at h
    obtain ⟨rfl, h1⟩ := h
    rw [eqAV_sound _ _ h1]
  | .nilIface, b, h => by cases b <;> simp [eqAV] at h; rfl
  | .agg a, b, h => by cases b <;> simp [eqAV] at h; rw [eqAVs_sound _ _ h]
  | .tuple a, b, h => by cases b <;> simp [eqAV] at h; rw [eqAVs_sound _ _ h]
  | .junk, b, h => by cases b <;> simp [eqAV] at h; rfl
theorem eqAVs_sound : ∀ (a b : List AV), eqAVs a b = true → a = b
  | [], b, h => by cases b <;> simp [eqAVs] at h; rfl
  | x :: a, b, h => by
    cases b <;> simp [eqAVs] at h
    rw [eqAV_sound _ _ h.1, eqAVs_sound _ _ h.2]
end
theorem eqOpt_sound {a : Option AV} {v : AV} (h : eqOpt a v = true) : a = some v := by
  unfold eqOpt at h
  split at h
  · rw [eqAV_sound _ _ h]
  · simp at h
def Phi.cut (φ : Phi) (n : Nat) : Phi := fun i => if i < n then φ i else none
theorem Phi.cut_le (φ : Phi) (n : Nat) : (φ.cut n).le φ := fun i l h => by
  unfold Phi.cut at h
  split at h
  · exact h
  · simp at h
theorem Phi.cut_lt {φ : Phi} {n i : Nat} (h : i < n) : φ.cut n i = φ i := by simp [Phi.cut, h]
theorem Phi.cut_ge {φ : Phi} {n i : Nat} (h : n ≤ i) : φ.cut n i = none := by simp [Phi.cut, Nat.not_lt.2 h]
theorem Phi.cut_succ {φ : Phi} {n : Nat} {l : Loc} (h : φ n = some l) : (φ.cut n).add n l = φ.cut (n + 1) := by
  funext i
  unfold Phi.add Phi.cut
  by_cases h1 : i = n
  · subst h1; simp [h]
  · rw [if_neg h1]
    by_cases h2 : i < n
    · rw [if_pos h2, if_pos (Nat.lt_succ_of_lt h2)]
    · rw [if_neg h2, if_neg (fun h => by rcases Nat.lt_succ_iff_lt_or_eq.1 h with h | h; exact h2 h; exact h1 h)]
mutual
theorem Rep.cut {φ : Phi} {n : Nat} : ∀ (x : AV) (v : Value), Rep φ x v → below n x = true → Rep (φ.cut n) x v
  | .bool b, v, hr, _ => by simpa only [Rep] using hr
  | .int k m, v, hr, _ => by simpa only [Rep] using hr
  | .str s, v, hr, _ => by simpa only [Rep] using hr
  | .ptr none, v, hr, _ => by simpa only [Rep] using hr
  | .ptr (some a), v, hr, hb => by
    simp only [below, decide_eq_true_eq] at hb
    simp only [Rep, Phi.cut_lt hb] at hr ⊢
    exact hr
  | .slice none m c, v, hr, _ => by simpa only [Rep] using hr
  | .slice (some a) m (some c), v, hr, hb => by
    simp only [below, decide_eq_true_eq] at hb
    simp only [Rep, Phi.cut_lt hb] at hr ⊢
    exact hr
  | .slice (some a) m none, v, hr, hb => by
    simp only [below, decide_eq_true_eq] at hb
    simp only [Rep, Phi.cut_lt hb] at hr ⊢
    exact hr
  | .map none, v, hr, _ => by simpa only [Rep] using hr
  | .map (some r), v, hr, hb => by
    simp only [below, decide_eq_true_eq] at hb
    simp only [Rep, Phi.cut_lt hb] at hr ⊢
    exact hr
  | .func f a b, v, hr, hb => by
    simp only [below, Bool.and_eq_true] at hb
    simp only [Rep] at hr ⊢
    obtain ⟨x, y, e, p, q⟩ := hr
    exact ⟨x, y, e, Reps.cut a _ p hb.1, Reps.cut b _ q hb.2⟩
  | .nilFunc, v, hr, _ => by simpa only [Rep] using hr
  | .iface t x, v, hr, hb => by
    simp only [below] at hb
    simp only [Rep] at hr ⊢
    obtain ⟨y, e, p⟩ := hr
    exact ⟨y, e, Rep.cut x _ p hb⟩
  | .nilIface, v, hr, _ => by simpa only [Rep] using hr
  | .agg cs, v, hr, hb => by
    simp only [below] at hb
    simp only [Rep] at hr ⊢
    obtain ⟨x, e, p⟩ := hr
    exact ⟨x, e, Reps.cut cs _ p hb⟩
  | .tuple cs, v, hr, hb => by
    simp only [below] at hb
    simp only [Rep] at hr ⊢
    obtain ⟨x, e, p⟩ := hr
    exact ⟨x, e, Reps.cut cs _ p hb⟩
  | .junk, v, hr, _ => by simpa only [Rep] using hr
theorem Reps.cut {φ : Phi} {n : Nat} : ∀ (xs : List AV) (vs : List Value), Reps φ xs vs → belows n xs = true → Reps (φ.cut n) xs vs
  | [], vs, hr, _ => by simpa only [Reps] using hr
  | x :: xs, vs, hr, hb => by
    simp only [belows, Bool.and_eq_true] at hb
    simp only [Reps] at hr ⊢
    obtain ⟨v, r, e, p, q⟩ := hr
    exact ⟨v, r, e, Rep.cut x v p hb.1, Reps.cut xs r q hb.2⟩
end
theorem belows_get {n : Nat} : ∀ {cs : List AV}, belows n cs = true → ∀ {i : Nat} {x : AV}, cs[i]? = some x → below n x = true
  | [], _, i, x, h => by simp at h
  | c :: cs, hb, i, x, h => by
    simp only [belows, Bool.and_eq_true] at hb
    cases i with
    | zero => simp at h; subst h; exact hb.1
    | succ i => simp at h; exact belows_get hb.2 h
theorem NewOk.mono {P : Program} {φ ψ : Phi} (h : φ.le ψ) {l : Loc} {o : Obj} {b : ABlk} (hn : NewOk P φ l o b) : NewOk P ψ l o b := by
  cases b with
  | cells cs e g =>
    obtain ⟨C, fz, h0, h1, h2, h3, h4, h5, h6, h7⟩ := hn
    exact ⟨C, fz, h0, h1, h2, h3, h4, fun i x hx => by obtain ⟨v, hv, hr⟩ := h5 i x hx; exact ⟨v, hv, hr.mono h⟩, h6, h7⟩
  | ro cs => exact hn
  | map es => exact hn
  | iter s p => exact hn
theorem NewOk.cut {P : Program} {φ : Phi} {n : Nat} {l : Loc} {o : Obj} {b : ABlk} (hn : NewOk P φ l o b) (hb : belowB n b = true) : NewOk P (φ.cut n) l o b := by
  cases b with
  | cells cs e g =>
    obtain ⟨C, fz, h0, h1, h2, h3, h4, h5, h6, h7⟩ := hn
    exact ⟨C, fz, h0, h1, h2, h3, h4, fun i x hx => by obtain ⟨v, hv, hr⟩ := h5 i x hx; exact ⟨v, hv, hr.cut _ _ (belows_get hb hx)⟩, h6, h7⟩
  | ro cs => exact hn
  | map es => exact hn
  | iter s p => exact hn
/-- Blocks that have been made ahead of their turn. -/
def Pend (φ : Phi) (n : Nat) : Nat → Prop := fun k => ∃ i l, n ≤ i ∧ φ i = some l ∧ l.blk = k
def Froz.with (F : Froz) (p : Nat → Prop) : Froz := ⟨fun k => F.all k ∨ p k, F.ro, fun k h => .inl (F.le k h)⟩
section
variable {P : Program} {F : Froz} {φ ψ : Phi} {st : St} {w w' : World}
theorem BRel.less {p q : Nat → Prop} (h : ∀ k, q k → p k) {id : Id} {b : ABlk} (hb : BRel P (F.with p) φ w id b) : BRel P (F.with q) φ w id b := by
  have hn : ∀ {k}, ¬ (F.with p) k → ¬ (F.with q) k := fun hk hq => hk (hq.imp (fun a => a) (h _))
  cases b with
  | cells cs e g =>
    obtain ⟨l, C, fz, h1, h2, h3⟩ := hb
    exact ⟨l, C, fz, h1, hn h2, h3⟩
  | ro cs => exact hb
  | map es =>
    obtain ⟨l, M, c, h1, h2, h3⟩ := hb
    exact ⟨l, M, c, h1, hn h2, h3⟩
  | iter s p =>
    obtain ⟨l, h1, h2, h3⟩ := hb
    exact ⟨l, h1, hn h2, h3⟩
theorem BRel.base {p : Nat → Prop} {id : Id} {b : ABlk} (hb : BRel P (F.with p) φ w id b) : BRel P F φ w id b := by
  have hn : ∀ {k}, ¬ (F.with p) k → ¬ F k := fun hk hq => hk (.inl hq)
  cases b with
  | cells cs e g =>
    obtain ⟨l, C, fz, h1, h2, h3⟩ := hb
    exact ⟨l, C, fz, h1, hn h2, h3⟩
  | ro cs => exact hb
  | map es =>
    obtain ⟨l, M, c, h1, h2, h3⟩ := hb
    exact ⟨l, M, c, h1, hn h2, h3⟩
  | iter s p =>
    obtain ⟨l, h1, h2, h3⟩ := hb
    exact ⟨l, h1, hn h2, h3⟩
theorem Rel.less {p q : Nat → Prop} (h : ∀ k, q k → p k) (hR : Rel P (F.with p) φ st w) : Rel P (F.with q) φ st w :=
  ⟨⟨fun id b hb => (hR.blk id b hb).less h, hR.glob, hR.inj⟩, hR.fresh, fun k hk => hR.low k (hk.imp (fun a => a) (h k)), hR.maps, hR.iters, hR.ord, hR.born⟩
/-- No block that the evaluator knows is one of those. -/
theorem Rel.notPend {p : Nat → Prop} (hR : Rel P (F.with p) φ st w) (hp : ∀ k, p k → ¬ F k) {i : Id} {b : ABlk} {l : Loc} (hb : st.heap.get i = some b) (hl : φ i = some l) : ¬ p l.blk := by
  intro hk
  have hB := hR.blk i b hb
  cases b with
  | cells cs e g =>
    obtain ⟨l', C, fz, h1, h2, h3⟩ := hB
    rw [hl] at h1; simp at h1; subst h1
    exact h2 (.inr hk)
  | ro cs =>
    obtain ⟨l', C, e, fz, h1, h2, h3⟩ := hB
    rw [hl] at h1; simp at h1; subst h1
    exact hp _ hk (F.le _ h2)
  | map es =>
    obtain ⟨l', M, c, h1, h2, h3⟩ := hB
    rw [hl] at h1; simp at h1; subst h1
    exact h2 (.inr hk)
  | iter s p =>
    obtain ⟨l', h1, h2, h3⟩ := hB
    rw [hl] at h1; simp at h1; subst h1
    exact h2 (.inr hk)
/-- The turn of a block has come. -/
theorem Rel.move (hR : Rel P (F.with (Pend φ st.next)) (φ.cut st.next) st w) {l : Loc} {o : Obj} {b : ABlk} (hl : φ st.next = some l) (ho : w.heap[l.blk]? = some o) (hn : NewOk P φ l o b) (hb : belowB st.next b = true)
    (hp : ∀ k, Pend φ st.next k → ¬ F k) (hd : ∀ i l', st.next < i → φ i = some l' → l'.blk ≠ l.blk) : Rel P (F.with (Pend φ (st.next + 1))) (φ.cut (st.next + 1)) (st.alloc b) w := by
  have hsub : ∀ k, Pend φ (st.next + 1) k → Pend φ st.next k := fun k ⟨i, l', h1, h2⟩ => ⟨i, l', Nat.le_of_succ_le h1, h2⟩
  have hmine : Pend φ st.next l.blk := ⟨st.next, l, Nat.le_refl _, hl, rfl⟩
  rw [← Phi.cut_succ hl]
  refine (hR.less hsub).add ho (hn.cut hb) ?_ ?_ (fun _ _ _ _ _ => rfl) fun k hk => hR.low k (hk.imp (fun a => a) (hsub k))
  · rintro (h | ⟨i, l', h1, h2, h3⟩)
    · exact hp _ hmine h
    · exact hd i l' h1 h2 h3
  · intro i c li h1 h2 h3
    exact hR.notPend hp h1 h2 (h3 ▸ hmine)
theorem RelQ.void (hR : RelQ P F φ st w) (hψ : φ.le ψ) : RelQ P F ψ { heap := .leaf, grps := .leaf, next := 0 } w :=
  ⟨fun id b h => by simp [Trie.get] at h, fun g hg => by obtain ⟨l, h1, h2⟩ := hR.glob g hg; exact ⟨l, hψ _ _ h1, h2⟩, fun i j ci ei gi cj ej gj li lj _ h => by simp [Trie.get] at h⟩
end
/-! what the checks say -/
theorem mem_zipIdx_toList {ops : Array Oper} {i : Nat} {o : Oper} (h : ops[i]? = some o) : (o, i) ∈ ops.toList.zipIdx := by
  rw [List.mk_mem_zipIdx_iff_getElem?]
  simpa using h
theorem distinct_spec : ∀ {l : List Nat}, distinct l = true → l.Nodup
  | [], _ => List.nodup_nil
  | d :: ds, h => by
    simp only [distinct, Bool.and_eq_true, Bool.not_eq_true', List.contains_eq_mem, decide_eq_false_iff_not] at h
    exact List.nodup_cons.2 ⟨h.1, distinct_spec h.2⟩
theorem dsts_spec : ∀ {l : List Oper}, (dsts l).Nodup → ∀ {i j : Nat} {o p : Oper} {t : Tmp}, l[i]? = some o → l[j]? = some p → o.dst = some t → p.dst = some t → i = j
  | [], _, i, j, o, p, t, h, _, _, _ => by simp at h
  | x :: l, hn, i, j, o, p, t, hi, hj, ho, hp => by
    have hrest : (dsts l).Nodup := by
      unfold dsts at hn ⊢
      rw [List.filterMap_cons] at hn
      split at hn
      · exact hn
      · exact (List.nodup_cons.1 hn).2
    have hne : ∀ {k : Nat} {q : Oper}, x.dst = some t → l[k]? = some q → q.dst = some t → False := fun {k q} hx hk hq => by
      unfold dsts at hn
      rw [List.filterMap_cons, hx] at hn
      have := (List.nodup_cons.1 hn).1
      exact this (List.mem_filterMap.2 ⟨q, List.mem_of_getElem? hk, hq⟩)
    cases i with
    | zero =>
      simp at hi; subst hi
      cases j with
      | zero => rfl
      | succ j => simp at hj; exact (hne ho hj hp).elim
    | succ i =>
      simp at hi
      cases j with
      | zero => simp at hj; subst hj; exact (hne hp hi ho).elim
      | succ j => simp at hj; rw [dsts_spec hrest hi hj ho hp]
theorem ahead_testBit (b : Array Nat) (j : Nat) : ∀ (es : List Edge) (s : Nat), (es.foldl (fun s e => if Region.binds .any e then s ||| 2 ^ e.on ||| b.getD e.on 0 else s) s).testBit j = true →
    s.testBit j = true ∨ ∃ e ∈ es, Region.binds .any e = true ∧ (j = e.on ∨ (b.getD e.on 0).testBit j = true)
  | [], s, h => .inl h
  | e :: es, s, h => by
    rw [List.foldl_cons] at h
    rcases ahead_testBit b j es _ h with h | ⟨e', h1, h2⟩
    · split at h
      · rename_i hb
        simp only [Nat.testBit_or, Bool.or_eq_true, Nat.testBit_two_pow, decide_eq_true_eq] at h
        rcases h with (h | h) | h
        · exact .inl h
        · exact .inr ⟨e, by simp, hb, .inl h.symm⟩
        · exact .inr ⟨e, by simp, hb, .inr h⟩
      · exact .inl h
    · exact .inr ⟨e', by simp [h1], h2⟩
/-- What is known of a region in which all is well. -/
structure Well (P : Program) (ops : Array Oper) (b : Array Nat) : Prop where
  dst : ∀ {i j : Nat} {o p : Oper} {t : Tmp}, ops[i]? = some o → ops[j]? = some p → o.dst = some t → p.dst = some t → i = j
  less : ∀ {i : Nat} {o : Oper} {e : Edge}, ops[i]? = some o → e ∈ o.after → Region.binds .any e = true → e.on < i
  ahead : ∀ {i j : Nat} {o : Oper}, ops[i]? = some o → (b.getD i 0).testBit j = true → ∃ e ∈ o.after, Region.binds .any e = true ∧ (j = e.on ∨ (b.getD e.on 0).testBit j = true)
  guard : ∀ {i j : Nat} {o : Oper} {want : Bool}, ops[i]? = some o → o.guard = some (j, want) → (b.getD i 0).testBit j = true
  temps : ∀ {i j : Nat} {o p : Oper} {t : Tmp}, ops[i]? = some o → t ∈ tmpsOf ops o → ops[j]? = some p → p.dst = some t → (b.getD i 0).testBit j = true ∨ (b.getD j 0).testBit i = true
theorem okRegion_well {P : Program} {ops : Array Oper} (h : okRegion P ops = true) : Well P ops (Region.before ops) := by
  simp only [okRegion, Bool.and_eq_true] at h
  obtain ⟨⟨hd, ha⟩, _⟩ := h
  have hat : ∀ {i : Nat} {o : Oper}, ops[i]? = some o → okAt ops (Region.before ops) i o = true := fun {i o} hi => by
    rw [List.all_eq_true] at ha
    exact ha _ (mem_zipIdx_toList hi)
  refine ⟨fun hi hj ho hp => dsts_spec (distinct_spec hd) (by simpa using hi) (by simpa using hj) ho hp, fun {i o e} hi he hb => ?_, fun {i j o} hi hj => ?_, fun {i j o want} hi hg => ?_, fun {i j o p t} hi ht hj hp => ?_⟩
  · have := hat hi
    simp only [okAt, Bool.and_eq_true, List.all_eq_true] at this
    have h1 := this.1.1.1 e (by simpa using he)
    simpa [hb] using h1
  · have := hat hi
    simp only [okAt, Bool.and_eq_true, beq_iff_eq] at this
    rw [this.1.1.2] at hj
    rcases ahead_testBit _ j _ _ hj with h | ⟨e, h1, h2⟩
    · simp at h
    · exact ⟨e, by simpa using h1, h2⟩
  · have := hat hi
    simp only [okAt, Bool.and_eq_true] at this
    have h1 := this.1.2
    rw [hg] at h1
    exact h1
  · have := hat hi
    simp only [okAt, Bool.and_eq_true, List.all_eq_true] at this
    have h1 := this.2 t ht _ (mem_zipIdx_toList hj)
    simp only [hp, Bool.or_eq_true, bne_self_eq_false, Bool.false_eq_true, false_or] at h1
    exact h1
theorem okOrder_spec {P : Program} {ops : Array Oper} {b : Array Nat} : ∀ {is : List Nat} {done : Nat}, okOrder P ops b is done = true →
    (∀ A i C, is = A ++ i :: C → ∃ o, ops[i]? = some o ∧ (done.testBit i = false ∧ i ∉ A) ∧ (∀ j, (b.getD i 0).testBit j = true → done.testBit j = true ∨ j ∈ A) ∧ (isChain P o.op = true → ∀ j, (done.testBit j = true ∨ j ∈ A) → (b.getD i 0).testBit j = true)) ∧
    ∀ j, j < ops.size ↔ (done.testBit j = true ∨ j ∈ is)
  | [], done, h => by
    simp only [okOrder, beq_iff_eq] at h
    refine ⟨fun A i C e => by simp at e, fun j => ?_⟩
    rw [h]
    simp [Nat.testBit_two_pow_sub_one]
  | k :: is, done, h => by
    unfold okOrder at h
    split at h
    case h_2 => simp at h
    rename_i o ho
    simp only [Bool.and_eq_true, Bool.not_eq_true'] at h
    obtain ⟨⟨h1, h2⟩, h3⟩ := h
    obtain ⟨r1, r2⟩ := okOrder_spec h3
    have hbit : ∀ j, (done ||| 2 ^ k).testBit j = true ↔ done.testBit j = true ∨ j = k := fun j => by
      simp only [Nat.testBit_or, Bool.or_eq_true, Nat.testBit_two_pow, decide_eq_true_eq]
      exact or_congr Iff.rfl eq_comm
    refine ⟨fun A i C e => ?_, fun j => ?_⟩
    · cases A with
      | nil =>
        simp at e
        obtain ⟨rfl, rfl⟩ := e
        refine ⟨o, ho, ⟨h1, by simp⟩, fun j hj => ?_, fun hc j hj => ?_⟩
        · split at h2
          · simp only [beq_iff_eq] at h2; rw [h2] at hj; exact .inl hj
          · simp only [beq_iff_eq] at h2
            left
            rw [← h2, Nat.testBit_or, hj, Bool.true_or]
        · rw [if_pos hc] at h2
          simp only [beq_iff_eq] at h2
          rw [h2]
          simpa using hj
      | cons a A =>
        simp at e
        obtain ⟨rfl, rfl⟩ := e
        obtain ⟨o', q1, ⟨q2, q3⟩, q4, q5⟩ := r1 A i C rfl
        refine ⟨o', q1, ⟨?_, ?_⟩, fun j hj => ?_, fun hc j hj => ?_⟩
        · cases hd : done.testBit i with
          | false => rfl
          | true => have := (hbit i).2 (.inl hd); rw [q2] at this; simp at this
        · simp only [List.mem_cons, not_or]
          refine ⟨fun hik => ?_, q3⟩
          have := (hbit i).2 (.inr hik); rw [q2] at this; simp at this
        · rcases q4 j hj with h | h
          · rcases (hbit j).1 h with h | h
            · exact .inl h
            · exact .inr (by simp [h])
          · exact .inr (by simp [h])
        · refine q5 hc j ?_
          rcases hj with h | h
          · exact .inl ((hbit j).2 (.inl h))
          · simp only [List.mem_cons] at h
            rcases h with h | h
            · exact .inl ((hbit j).2 (.inr h))
            · exact .inr h
    · rw [r2 j, hbit]
      simp only [List.mem_cons, or_assoc]
end Go.Ev
