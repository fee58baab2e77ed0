/- A way to run calls of the program on told values is shown to be sound; it holds for programs that follow mixed orders. -/
import Derived.Test.YtkbielcbkpglhaaGreatDoorE6
import Derived.ChangeStays
import Derived.ChangeSame
import Derived.DataReads
set_option linter.unusedVariables false
set_option linter.unusedSimpArgs false
namespace Go.Ev
/-! ### What is read of arguments -/
section
variable {H : Type} {enc : TypeId × Value → H} {P : Program} {w : World} {base : Nat} {sp : Nat → Bool} {held : Bool} {t : TypeId} {cs : List Value} {x : DataW H × List MemPlace} {n : Nat}
theorem trod_bool (hu : P.underlying t = some .bool) (h : DataW.trod enc P w base sp held n t cs = some x) : ∃ b, cs = [.bool b] := by
  cases n with
  | zero => simp [DataW.trod] at h
  | succ n =>
    unfold DataW.trod at h
    rw [hu] at h
    split at h <;> simp_all
theorem trod_int {k : IntKind} (hu : P.underlying t = some (.int k)) (h : DataW.trod enc P w base sp held n t cs = some x) : ∃ m, cs = [.int k m] ∧ (Lit.int k m).wf = true := by
  cases n with
  | zero => simp [DataW.trod] at h
  | succ n =>
    unfold DataW.trod at h
    rw [hu] at h
    split at h <;> simp_all
theorem trod_string (hu : P.underlying t = some .string) (h : DataW.trod enc P w base sp held n t cs = some x) : ∃ s, cs = [.string s] ∧ x.1 = .lit (.string s.data.toList) := by
  cases n with
  | zero => simp [DataW.trod] at h
  | succ n =>
    unfold DataW.trod at h
    rw [hu] at h
    split at h <;> simp_all
    obtain ⟨h1, h2⟩ := h
    simp [← h2]
theorem trod_slice {e : TypeId} (hu : P.underlying t = some (.slice e)) (h : DataW.trod enc P w base (fun _ => true) held n t cs = some x) :
    (cs = [.slice none 0 0] ∧ x.1 = .nil) ∨ ∃ (a : Addr) (len cap m : Nat) (elems rest : List (DataW H × List MemPlace)), n = m + 1 ∧ cs = [.slice (some a) len cap] ∧ len ≤ cap ∧ x.1 = .slice (elems.map (·.1)) (rest.map (·.1)) ∧ elems.length = len ∧ rest.length = cap - len ∧
      (∀ i, i < len → ∃ c y, w.cells? base (a.add (i * P.cellsOf e)) (P.cellsOf e) = some c ∧ DataW.trod enc P w base (fun _ => true) held m e c = some y ∧ elems[i]? = some y) ∧
      (∀ i, i < cap → ∃ c y, w.cells? base (a.add (i * P.cellsOf e)) (P.cellsOf e) = some c ∧ DataW.trod enc P w base (fun _ => true) held m e c = some y) := by
  cases n with
  | zero => simp [DataW.trod] at h
  | succ m =>
    unfold DataW.trod at h
    rw [hu] at h
    split at h
    all_goals first | (exfalso; simp_all; done) | skip
    · rename_i hd1 hd2
      left
      simp at h
      exact ⟨rfl, by rw [← h]⟩
    · rename_i e' a len cap hd1
      simp only [Option.some.injEq, TypeDesc.slice.injEq] at hd1
      subst hd1
      right
      simp only at h
      split at h
      case isFalse => simp at h
      rename_i hc
      simp only [if_true, Option.bind_eq_some_iff, Option.map_eq_some_iff] at h
      obtain ⟨elems, he, rest, hr, rfl⟩ := h
      have hl := mapM_some_length he
      have hl2 := mapM_some_length hr
      simp only [List.length_range] at hl hl2
      have k1 : ∀ i, i < len → ∃ c y, w.cells? base (a.add (i * P.cellsOf e)) (P.cellsOf e) = some c ∧ DataW.trod enc P w base (fun _ => true) held m e c = some y ∧ elems[i]? = some y := fun i hi => by
        have := mapM_some_get he i i (by simp [hi])
        obtain ⟨y, hy⟩ : ∃ y, elems[i]? = some y := ⟨_, List.getElem?_eq_getElem (by omega)⟩
        rw [hy, Option.bind_eq_some_iff] at this
        obtain ⟨c, h1, h2⟩ := this
        exact ⟨c, y, h1, h2, hy⟩
      refine ⟨a, len, cap, m, elems, rest, rfl, rfl, hc.2.1, rfl, hl, hl2, k1, fun i hi => ?_⟩
      by_cases hlt : i < len
      · obtain ⟨c, y, h1, h2, _⟩ := k1 i hlt; exact ⟨c, y, h1, h2⟩
      · have := mapM_some_get hr (i - len) (i - len) (by rw [List.getElem?_range (by omega)])
        obtain ⟨y, hy⟩ : ∃ y, rest[i - len]? = some y := ⟨_, List.getElem?_eq_getElem (by omega)⟩
        rw [hy, Option.bind_eq_some_iff] at this
        obtain ⟨c, h1, h2⟩ := this
        rw [show len + (i - len) = i by omega] at h1
        exact ⟨c, y, h1, h2⟩
theorem trod_struct {fs : Array Field} (hu : P.underlying t = some (.struct fs)) (h : DataW.trod enc P w base sp held n t cs = some x) :
    cs.length = P.cellsOf t ∧ ∃ m xs, n = m + 1 ∧ (fs.toList.mapM fun f => DataW.trod enc P w base sp held m f.type ((cs.drop f.offset).take (P.cellsOf f.type))) = some xs ∧ x.1 = .agg (xs.map (·.1)) := by
  cases n with
  | zero => simp [DataW.trod] at h
  | succ m =>
    unfold DataW.trod at h
    rw [hu] at h
    split at h
    all_goals first | (exfalso; simp_all; done) | skip
    rename_i hd
    simp only [Option.some.injEq, TypeDesc.struct.injEq] at hd
    subst hd
    split at h
    case isFalse => simp at h
    rename_i hc
    simp only [Option.map_eq_some_iff] at h
    obtain ⟨xs, hx, rfl⟩ := h
    exact ⟨hc, m, xs, rfl, hx, rfl⟩
end
end Go.Ev
namespace Go.Ev
/-! ### What a law's call leaves behind -/
section
variable {H : Type} {enc : TypeId × Value → H} {P : Program}
theorem Keep.sameAt {W W' : World} (h : Keep (Froz.world W) W W') {p : MemPlace} (hp : p.block < W.heap.size) : W.sameAt W' p := by
  have hs := h.same p.block hp
  cases p with
  | cell b o => simp only [MemPlace.block] at hs; simp only [World.sameAt, World.cell?, hs]
  | map b => simp only [MemPlace.block] at hs; simp only [World.sameAt, hs]
theorem trodAll_stays {W W' : World} {sp : Nat → Bool} (hl : laidOutB P = true) (hm : mapsRowed P = true) (hsz : ∀ t e, t < P.types.size → P.underlying t = some (.slice e) → 0 < P.cellsOf e) (hK : Keep (Froz.world W) W W') :
    ∀ {ts : List TypeId} {vs : List Value} {ds : List (DataW H)} {ps : List MemPlace}, (∀ t ∈ ts, t < P.types.size) → DataW.TrodAll enc P W 0 (fun _ => true) true ts vs ds ps → (∀ p ∈ ps, p.block < W.heap.size ∧ sp p.block = true) → DataW.TrodAll enc P W' 0 sp true ts vs ds ps
  | [], [], [], ps, _, h, _ => h
  | t :: ts, v :: vs, d :: ds, ps, ht, h, hp => by
    obtain ⟨p, q, ⟨n, h1⟩, h2, rfl⟩ := h
    refine ⟨p, q, ⟨n, ?_⟩, trodAll_stays hl hm hsz hK (fun t h => ht t (List.mem_cons_of_mem _ h)) h2 fun x hx => hp x (List.mem_append_right _ hx), rfl⟩
    exact DataW.trod_stays (kids_rows hl hm) (fun ht h => hsz _ _ ht h) (fun h => by cases h) (ht t (List.mem_cons_self ..)) h1 (fun x hx => hK.sameAt (hp x (List.mem_append_left _ hx)).1) (fun x hx => (hp x (List.mem_append_left _ hx)).2)
/-- A law that answers true and leaves all as it was. -/
theorem law_post {s : ChangeSpec} {f : Func} {apart fresh handsOn : Bool} {W W' : World} {args : Array Value} {ds gs : List (DataW H)} {before : List MemPlace} {tb : TypeId} (hl : laidOutB P = true) (hm : mapsRowed P = true) (hsz : ∀ t e, t < P.types.size → P.underlying t = some (.slice e) → 0 < P.cellsOf e)
    (hts : ∀ t ∈ f.params.toList, t < P.types.size) (hvars : s.vars = []) (hres : f.resultTypes = #[tb]) (htb : P.underlying tb = some .bool) (hfn : s.fn H (ds ++ gs) = { results := [.lit (.bool true)], args := ds })
    (hW : DataW.Whole enc P f.params.toList s.vars apart W args.toList ds gs before) (hK : Keep (Froz.world W) W W') : s.post enc P f apart fresh handsOn false W args (.bool true) W' := by
  have hlt := hW.lt
  have hW' := hW
  obtain ⟨p, q, hA, hV, rfl, _, _⟩ := hW
  have hq : q = [] := by
    rw [hvars] at hV
    cases gs with
    | nil => exact hV
    | cons g r => exact hV.elim
  subst hq
  refine ⟨ds, gs, _, [], p, [], hW', ?_, ?_, ?_, ?_, fun h => by cases h⟩
  · rw [hfn, hres]
    refine ⟨[], [], ⟨1, ?_⟩, rfl, rfl⟩
    simp [DataW.trod, htb, Value.cells]
  · rw [hfn]
    exact trodAll_stays hl hm hsz hK hts hA fun x hx => ⟨hlt x (by simpa using hx), by simpa using hlt x (by simpa using hx)⟩
  · rw [hfn, hvars]; rfl
  · refine ⟨hK.os, hK.output, fun i hi => ?_⟩
    have := hK.same i hi
    rw [this]
    cases h : W.heap[i]? with
    | none => trivial
    | some o => cases o <;> simp
end
end Go.Ev
set_option linter.unusedVariables false
set_option linter.unusedSimpArgs false
namespace Go.Ev
/-! ### Rows that are taken up, written over, cut -/
theorem Row.first {st : St} {sz n : Nat} {v : AV} {cs : List AV} (h : Row st sz v n cs) (hsz : 0 < sz) : firstA st sz n v = some cs := by
  obtain ⟨h1, h2⟩ := h
  rcases h2 with ⟨rfl, a, c, rfl⟩ | ⟨id, off, c, all, rfl, hlt, hc, hj⟩
  · obtain rfl : cs = [] := List.eq_nil_of_length_eq_zero (by simpa using h1)
    cases a with
    | none => rfl
    | some a => simp [firstA]
  · unfold firstA
    by_cases hn : n = 0
    · subst hn
      obtain rfl : cs = [] := List.eq_nil_of_length_eq_zero (by simpa using h1)
      rfl
    · simp only [hn, if_false, hc, Option.bind_some]
      exact readN_get (fun j hj' => hj j (by omega)) h1 (Nat.mul_pos (Nat.pos_of_ne_zero hn) hsz)
theorem OwnAt.front {B : Nat} {st : St} {e : TypeId} {g id sz n : Nat} {cs ds : List AV} (h : OwnAt B st e g id (cs ++ ds)) (hl : cs.length = n * sz) : Row st sz (.slice (some (id, 0)) n none) n cs :=
  ⟨hl, .inr ⟨id, 0, none, cs ++ ds, rfl, h.lt, cellsAt_of h.at_, fun j hj => by rw [Nat.zero_add, List.getElem?_append_left hj]⟩⟩
theorem overN_at : ∀ {old new c : List AV}, old.length = new.length → overN (old ++ c) new = some (new ++ c)
  | [], [], c, _ => by cases c <;> rfl
  | o :: old, n :: new, c, h => by
    simp only [List.cons_append, overN, overN_at (old := old) (new := new) (c := c) (by simpa using h), Option.bind_some]
theorem writeN_at : ∀ {a old new c : List AV}, old.length = new.length → writeN (a ++ old ++ c) a.length new = some (a ++ new ++ c)
  | [], old, new, c, h => by
    cases hh : old ++ c with
    | nil =>
      have : old = [] := by cases old <;> simp_all
      subst this
      have : new = [] := List.eq_nil_of_length_eq_zero h.symm
      subst this
      simp only [List.nil_append] at hh ⊢
      subst hh
      rfl
    | cons x l =>
      have := overN_at (c := c) h
      rw [hh] at this
      simp only [List.nil_append, List.length_nil, hh]
      simpa [writeN] using this
  | x :: a, old, new, c, h => by
    simp only [List.cons_append, List.length_cons, writeN, Option.bind_some, writeN_at (a := a) h]
theorem writeN_flat {α : Type} {enc : α → List AV} {sz : Nat} (he : ∀ x, (enc x).length = sz) {l : List α} {k : Nat} (hk : k < l.length) (x : α) (c : List AV) : writeN (l.flatMap enc ++ c) (k * sz) (enc x) = some ((l.set k x).flatMap enc ++ c) := by
  have h1 : l = l.take k ++ l[k] :: l.drop (k + 1) := by rw [← List.drop_eq_getElem_cons hk, List.take_append_drop]
  have h2 : l.set k x = l.take k ++ x :: l.drop (k + 1) := by
    refine List.ext_getElem? fun i => ?_
    rw [List.getElem?_set, List.getElem?_append]
    simp only [List.length_take, Nat.min_eq_left (Nat.le_of_lt hk)]
    by_cases hi : i < k
    · rw [if_neg (by omega), if_pos hi, List.getElem?_take_of_lt hi]
    · rw [if_neg hi]
      by_cases hi2 : k = i
      · subst hi2; rw [if_pos rfl, if_pos hk]; simp
      · rw [if_neg hi2]
        obtain ⟨j, rfl⟩ : ∃ j, i = k + 1 + j := ⟨i - k - 1, by omega⟩
        rw [show k + 1 + j - k = j + 1 by omega, List.getElem?_cons_succ, List.getElem?_drop]
  have h3 : ((l.take k).flatMap enc).length = k * sz := by rw [flat_length he, List.length_take, Nat.min_eq_left (Nat.le_of_lt hk)]
  rw [h2]
  conv => lhs; rw [h1]
  simp only [List.flatMap_append, List.flatMap_cons]
  rw [← h3]
  have := writeN_at (a := (l.take k).flatMap enc) (old := enc l[k]) (new := enc x) (c := (l.drop (k + 1)).flatMap enc ++ c) (by rw [he, he])
  simpa only [List.append_assoc] using this
section
variable {B : Nat} {st st' : St} {e g id : Nat} {cs : List AV}
/-- Another block is put. -/
theorem OwnAt.put (h : OwnAt B st e g id cs) {j : Nat} {b0 b : ABlk} (hj : st.heap.get j = some b0) (hb0 : ∀ c, b0 ≠ .cells c e g) : OwnAt B { heap := st.heap.put j (some b), grps := st.grps, next := st.next } e g id cs := by
  have hne : id ≠ j := fun hh => by have := h.at_; rw [hh, hj] at this; cases this; exact hb0 _ rfl
  refine ⟨h.low, h.lt, h.glow, h.glt, h.odd, ?_, ?_⟩
  · simp only [Trie.get_put]; rw [if_neg hne]; exact h.at_
  · obtain ⟨r, hr, hm⟩ := h.hd
    refine ⟨r, hr, fun i hi => ⟨(hm i hi).1, (hm i hi).2.1, ?_⟩⟩
    have hij : i ≠ j := fun hh => by
      rcases (hm i hi).2.2 with h0 | ⟨c, h0⟩
      · rw [hh, hj] at h0; cases h0
      · rw [hh, hj] at h0; cases h0; exact hb0 _ rfl
    simp only [Trie.get_put]; rw [if_neg hij]; exact (hm i hi).2.2
theorem Own.put {v : AV} {n : Nat} (h : Own B st e v n cs) {j i : Nat} {b : ABlk} {c : List AV} {e2 : Nat} (hj : st.heap.get j = some (.cells c e2 (2 * i))) : Own B { heap := st.heap.put j (some b), grps := st.grps, next := st.next } e v n cs := by
  rcases h with h | ⟨id, g, h1, h2⟩
  · exact .inl h
  · exact .inr ⟨id, g, h1, h2.put hj fun c' hc => by cases hc; have := h2.odd; omega⟩
theorem Own.below {v : AV} {n : Nat} (h : Own B st e v n cs) : Ev.below st.next v = true := by
  rcases h with ⟨_, _, rfl⟩ | ⟨id, g, rfl, h2⟩
  · rfl
  · exact decide_eq_true h2.lt
/-- What is behind all there was changes nothing. -/
theorem OwnAt.frame (h : OwnAt B st e g id cs) (hle : st.next ≤ st'.next) (hh : ∀ i, i < st.next → st'.heap.get i = st.heap.get i) (hg : st'.grps.get g = st.grps.get g) : OwnAt B st' e g id cs := by
  refine ⟨h.low, Nat.lt_of_lt_of_le h.lt hle, h.glow, by have := h.glt; omega, h.odd, by rw [hh _ h.lt]; exact h.at_, ?_⟩
  obtain ⟨r, hr, hm⟩ := h.hd
  exact ⟨r, by rw [hg]; exact hr, fun i hi => ⟨(hm i hi).1, Nat.lt_of_lt_of_le (hm i hi).2.1 hle, by rw [hh _ (hm i hi).2.1]; exact (hm i hi).2.2⟩⟩
theorem write_gone {off : Nat} {vs : List AV} (h : st.write id off vs = some st') : ∀ j, j ≠ id → st'.heap.get j = none ∨ st'.heap.get j = st.heap.get j := by
  intro j hj
  unfold St.write at h
  split at h
  · split at h
    · simp only [Option.bind_eq_some_iff] at h
      obtain ⟨cs', _, h⟩ := h
      split at h
      · cases h
        simp only [Trie.get_put]; rw [if_neg hj]; exact .inr rfl
      · cases h
        simp only [Trie.get_put]; rw [if_neg hj, kill_get']
        split
        · exact .inl rfl
        · exact .inr rfl
    · cases h
  · cases h
/-- A row beside one that is written over. -/
theorem Own.beside {C : Nat} {v : AV} {n id2 g2 off : Nat} {vs : List AV} (h : Own C st e v n cs) (hg2 : g2 < 2 * C) (hid2 : id2 < C) (hw : st.write id2 off vs = some st') (hn : st'.next = st.next)
    (hk : ∀ j b, j ≠ id2 → st.heap.get j = some b → (∀ c, b ≠ .cells c e g2) → st'.heap.get j = some b) (hgr : ∀ k, k ≠ g2 → st'.grps.get k = st.grps.get k) : Own C st' e v n cs := by
  rcases h with h | ⟨id, g, h1, h2⟩
  · exact .inl h
  · refine .inr ⟨id, g, h1, ⟨h2.low, by rw [hn]; exact h2.lt, h2.glow, by rw [hn]; exact h2.glt, h2.odd, ?_, ?_⟩⟩
    · exact hk _ _ (by have := h2.low; omega) h2.at_ fun c hc => by cases hc; have := h2.glow; omega
    · obtain ⟨r, hr, hm⟩ := h2.hd
      refine ⟨r, by rw [hgr _ (by have := h2.glow; omega)]; exact hr, fun i hi => ⟨(hm i hi).1, by rw [hn]; exact (hm i hi).2.1, ?_⟩⟩
      have hi2 : i ≠ id2 := by have := (hm i hi).1; omega
      rcases (hm i hi).2.2 with h0 | ⟨c, h0⟩
      · rcases write_gone hw i hi2 with h3 | h3
        · exact .inl h3
        · exact .inl (h3.trans h0)
      · exact .inr ⟨c, hk _ _ hi2 h0 fun c' hc => by cases hc; have := h2.glow; omega⟩
end
theorem OW.fresh {E : Env} {ops : Array Oper} {l : List Oper} {fr : Fr} {st : St} {K : Ex → Fr → St → Prop} (h : ∀ s, s = st → OW E ops l fr s K) : OW E ops l fr st K := h st rfl
theorem XW.fresh {E : Env} {c : Code} {fr : Fr} {st : St} {K : Ex → Fr → St → Prop} (h : ∀ s, s = st → XW E c fr s K) : XW E c fr st K := h st rfl
section
variable {E : Env} {ops : Array Oper} {o : Oper} {l : List Oper} {σ : Trie AV} {n d : Nat} {ds : List (AV × List AV)} {st st' : St} {K : Ex → Fr → St → Prop} {v : AV}
/-- A row is copied behind nothing. -/
theorem OW.copyNil {e : TypeId} {sz : Nat} {a b : Operand} {t u : TypeId} {x : AV} {m : Nat} {new : List AV} (ho : o.dst = some d) (hd : Nat.blt d n = true) (hw : wantedA σ ops o = some true)
    (hop : o.op = .call { callee := .builtin .append, args := #[a, b], argTypes := #[t, u] }) (ha : evalA E.P σ a = some (.slice none 0 (some 0))) (hb : evalA E.P σ b = some x) (hu : isSrc E.P u = true) (he : elemA E.P t = some e) (hrow : rowA E.P e = some sz)
    (h : Row st sz x m new) (hwf : WF st) (h1 : new.all AV.one = true) (hbd : m ≤ 2 ^ 24) (hsz : 0 < sz)
    (hk : ∀ v' st', Own st.next st' e v' m new → Ext st.next st st' → OW E ops l { tmps := σ.put d (some v'), n := n, defers := ds } st' K) : OW E ops (o :: l) { tmps := σ, n := n, defers := ds } st K := by
  have hf := h.first hsz
  have hlen : lenA x = some m := by obtain ⟨a, c, rfl⟩ := h.len; rfl
  by_cases hm : m = 0
  · subst hm
    obtain rfl : new = [] := List.eq_nil_of_length_eq_zero (by simpa using h.1)
    refine OW.chain (st' := st) ho hd hw (by rw [hop]; rfl) (by rw [hop]; rfl) ?_ (hk _ st Own.nil (Ext.refl hwf))
    intro call
    rw [hop]
    simp only [chainA, evalL, ha, hb, hu, appendA, he, hrow, hlen, hf, appendTo, Option.bind_some, if_true]
    rw [if_pos ⟨h1, by omega⟩]
    rfl
  · refine OW.append (B := st.next) ho hd hw hop ha hb hu he hrow hlen hf (Own.nil) hwf (Nat.le_refl _) h1 (by omega) (by simp) (Nat.pos_of_ne_zero hm) h.1 hsz ?_
    intro st' id g h3 h4 _ _ _ _ _
    simp only [List.nil_append, Nat.zero_add] at h3 ⊢
    exact hk _ st' h3.own h4
end
section
variable {E : Env} {ops : Array Oper} {b : Array Nat} {st0 st st' : St} {A : List Rc} {i n d : Nat} {is : List Nat} {o : Oper} {σ : Trie AV} {ds : List (AV × List AV)} {K : Ex → Fr → St → Prop} {v : AV}
/-- A row of a call's own is appended to, in a region whose order is open. -/
theorem DW.append {B : Nat} {e : TypeId} {sz : Nat} {a c : Operand} {t u : TypeId} {x : AV} {k m : Nat} {cs new : List AV} (hi : ops[i]? = some o) (ho : o.dst = some d) (hd : Nat.blt d n = true) (hw : wantedA σ ops o = some true)
    (hop : o.op = .call { callee := .builtin .append, args := #[a, c], argTypes := #[t, u] }) (ha : evalA E.P σ a = some v) (hb : evalA E.P σ c = some x) (hu : isSrc E.P u = true) (he : elemA E.P t = some e) (hrow : rowA E.P e = some sz) (hlen : lenA x = some m) (hf : firstA st sz m x = some new)
    (h : Own B st e v k cs) (hwf : WF st) (hB : B ≤ st.next) (h1 : new.all AV.one = true) (hbd : k + m ≤ 2 ^ 24) (hcs : cs.length = k * sz) (hm : 0 < m) (hnew : new.length = m * sz) (hsz : 0 < sz) (hbv : below st.next v = true) (hbx : below st.next x = true)
    (hk : ∀ st' id g, OwnAt B st' e g id (cs ++ new) → Ext B st st' → st'.next = st.next + 1 → id = st.next → (∀ i, i ≠ st.next → st'.heap.get i = st.heap.get i) → ∀ r, DW E ops b st0 is (r :: A) { tmps := σ.put d (some (.slice (some (id, 0)) (k + m) none)), n := n, defers := ds } st' K) : DW E ops b st0 (i :: is) A { tmps := σ, n := n, defers := ds } st K := by
  obtain ⟨st', id, g, h2, h3, h4, h5, h6, h7, h8, h9⟩ := append_own h he hrow hlen hf h1 hbd hcs hm hnew hsz hwf hB
  have hag : Agree st st' := ⟨by omega, fun i hi => h7 i (by omega)⟩
  have hk' := hk st' id g h3 h4 h5 h6 h7
  unfold DW at hk' ⊢
  intro hA hs
  have hs' := hs.trans hag
  obtain ⟨m', fr', s, h10, h11⟩ := hk' ⟨i, o, true, .slice (some (id, 0)) (k + m) none, st, .ro [], st'⟩ (by simp; exact ⟨hs', hA⟩) hs'
  refine ⟨m', fr', s, ?_, h11⟩
  have hq : isQuiet E.P o.op = false := by rw [hop]; rfl
  have hf : isFloat E.P o.op = false := by rw [hop]; rfl
  have hbel : o.op.operands.toList.all (fun x => match evalA E.P σ x with | some v => below st.next v | none => true) = true := by
    rw [hop]
    simp [-evalA, Op.operands, Call.operands, ha, hb, hbv, hbx]
  have hch : chainA E (callOf (ev E m')) σ st o.op = some (.val (.slice (some (id, 0)) (k + m) none), st') := by
    rw [hop]
    simp only [chainA, evalL, ha, hb, hu, h2, Option.bind_some, if_true]
  simp only [drawA, hi, stepA, hw, hq, hf, hch, show st.next ≤ st'.next by omega, if_true, Option.bind_some, Bool.true_eq_false, Bool.false_eq_true, if_false]
  split
  · simp only [Option.bind_some, Fr.put_lt ho hd, h10]
  · rename_i hn; exact absurd hbel hn
/-- A store that ends a region. -/
theorem DW.storeLast {a x : Operand} {t : TypeId} {id off : Nat} (hi : ops[i]? = some o) (ho : o.dst = none) (hw : wantedA σ ops o = some true) (hop : o.op = .store t a x) (ha : evalA E.P σ a = some (.ptr (some (id, off)))) (hx : evalA E.P σ x = some v)
    (hsz : sizeA E.P t = some v.cells.length) (hid : id < st.next) (hbl : below st.next v = true) (hwr : st.write id off v.cells = some st') (hle : st.next ≤ st'.next) (h : K .normal { tmps := σ, n := n, defers := ds } st') : DW E ops b st0 [i] A { tmps := σ, n := n, defers := ds } st K := by
  unfold DW
  intro hA hs
  refine ⟨0, { tmps := σ, n := n, defers := ds }, st', ?_, h⟩
  have hq : isQuiet E.P o.op = false := by rw [hop]; rfl
  have hf : isFloat E.P o.op = false := by rw [hop]; rfl
  have hbel : o.op.operands.toList.all (fun x => match evalA E.P σ x with | some v => below st.next v | none => true) = true := by
    rw [hop]
    simp [-evalA, Op.operands, ha, hx, hbl, hid]
  have hch : chainA E (callOf (ev E 0)) σ st o.op = some (.skip, st') := by
    rw [hop]
    simp only [chainA, ha, hx, storeA, hsz, if_true, hwr, Option.bind_some]
  simp only [drawA, hi, stepA, hw, hq, hf, hch, hle, if_true, Option.bind_some, Bool.true_eq_false, Bool.false_eq_true, if_false]
  split
  · simp only [Option.bind_some, ho, Fr.put, drawA]
  · rename_i hn; exact absurd hbel hn
end
end Go.Ev
set_option linter.unusedVariables false
set_option linter.unusedSimpArgs false
namespace Go.Ev
/-! ### Rows and structs of a world, told -/
theorem exList {α : Type} {Q : Nat → α → Prop} : ∀ n : Nat, (∀ i, i < n → ∃ x, Q i x) → ∃ l : List α, l.length = n ∧ ∀ i (h : i < l.length), Q i l[i]
  | 0, _ => ⟨[], rfl, fun i h => by simp at h⟩
  | n + 1, h => by
    obtain ⟨l, hl, hq⟩ := exList n fun i hi => h i (by omega)
    obtain ⟨x, hx⟩ := h n (by omega)
    refine ⟨l ++ [x], by simp [hl], fun i hi => ?_⟩
    rw [List.length_append, List.length_singleton] at hi
    by_cases h2 : i < l.length
    · rw [List.getElem_append_left h2]; exact hq i h2
    · obtain rfl : i = l.length := by omega
      rw [List.getElem_append_right (Nat.le_refl _)]
      simp only [Nat.sub_self, List.getElem_cons_zero]
      rw [hl]; exact hx
theorem add_block (a : Addr) (n : Nat) : (a.add n).block = a.block := by unfold Addr.add; split <;> rfl
theorem add_off (a : Addr) (n : Nat) : (a.add n).off = a.off + n := by
  unfold Addr.add; split
  · rename_i h; subst h; rfl
  · rfl
theorem add_spot {a : Addr} (n : Nat) (h : a.spot = none) : (a.add n).spot = none := by unfold Addr.add; split <;> simp [h]
theorem cells_get {W : World} {a : Addr} {n : Nat} {c : List Value} (h : W.cells? 0 a n = some c) (hn : 0 < n) : ∃ (C : Array Value) (t : TypeId) (fz : Nat × Nat), W.heap[a.block]? = some (.cells C t fz) ∧ a.spot = none ∧ c.length = n ∧ ∀ j, j < n → C[a.off + j]? = c[j]? := by
  unfold World.cells? at h
  rw [if_pos (Nat.zero_le _)] at h
  have hl := mapM_some_length h
  rw [List.length_range] at hl
  have key : ∀ j, j < n → W.cell? (a.add j) = c[j]? := fun j hj => mapM_some_get h j j (by simp [hj])
  have h0 := key 0 hn
  rw [List.getElem?_eq_getElem (by omega)] at h0
  unfold World.cell? at h0
  split at h0
  case h_2 => cases h0
  rename_i C t fz hh
  split at h0
  · cases h0
  rename_i hs
  have hs' : a.spot = none := by cases ha : a.spot <;> simp_all [Addr.add]
  have hh' : W.heap[a.block]? = some (.cells C t fz) := by rw [add_block] at hh; exact hh
  refine ⟨C, t, fz, hh', hs', hl, fun j hj => ?_⟩
  have := key j hj
  unfold World.cell? at this
  rw [add_block, hh'] at this
  simp only [add_spot j hs', Option.isSome_none, Bool.false_eq_true, if_false, add_off] at this
  exact this
section
variable {H : Type} {enc : TypeId × Value → H} {P : Program} {W : World} {t : TypeId} {n N : Nat} {v : Value} {x : DataW H × List MemPlace}
/-- A row that is read. -/
theorem slice_row {α : Type} {encA : α → List AV} {Q : α → DataW H → Prop} {e : TypeId} {sz : Nat} (hu : P.underlying t = some (.slice e)) (hsz : P.cellsOf e = sz) (h0 : 0 < sz) (he : ∀ y, (encA y).length = sz) (hN : W.heap.size ≤ N) (hN0 : 0 < N)
    (hel : ∀ m c y, DataW.trod enc P W 0 (fun _ => true) true m e c = some y → ∃ z : α, c.map (toAV1 N) = encA z ∧ Q z y.1) (h : DataW.trod enc P W 0 (fun _ => true) true n t [v] = some x) :
    ∃ (a : Option (Nat × Nat)) (l : List α) (c : Option Nat), toAV1 N v = .slice a l.length c ∧ Row (ofWorld N W) sz (.slice a l.length c) l.length (l.flatMap encA) ∧ below N (.slice a l.length c) = true ∧
      ((x.1 = .nil ∧ l = []) ∨ ∃ elems rest, x.1 = .slice elems rest ∧ l.length = elems.length ∧ ∀ z ∈ l, ∃ d ∈ elems, Q z d) := by
  rcases trod_slice hu h with ⟨h1, h2⟩ | ⟨a, len, cap, m, elems, rest, rfl, h1, hle, h2, hl1, hl2, k1, k2⟩
  · obtain rfl : v = .slice none 0 0 := by simpa using h1
    exact ⟨none, [], some 0, rfl, ⟨by simp, .inl ⟨rfl, _, _, rfl⟩⟩, rfl, .inl ⟨h2, rfl⟩⟩
  · obtain rfl : v = .slice (some a) len cap := by simpa using h1
    rw [hsz] at k1 k2
    by_cases hc0 : cap = 0
    · have hlen : len = 0 := by omega
      subst hc0 hlen
      refine ⟨some (0, 0), [], some 0, ?_, ⟨by simp, .inl ⟨rfl, _, _, rfl⟩⟩, decide_eq_true hN0, .inr ⟨_, _, h2, by simp [hl1], fun z hz => by cases hz⟩⟩
      simp [toAV1, hN0]
    · obtain ⟨c0, y0, hc, _⟩ := k2 0 (by omega)
      obtain ⟨C, ty, fz, hh, hs, _, _⟩ := cells_get hc h0
      rw [add_block] at hh
      have hs' : a.spot = none := by rw [Nat.zero_mul] at hs; unfold Addr.add at hs; simpa using hs
      have hb : a.block < W.heap.size := (Array.getElem?_eq_some_iff.1 hh).1
      obtain ⟨l, hl, hq⟩ := exList (Q := fun i (z : α) => ∃ c y, W.cells? 0 (a.add (i * sz)) sz = some c ∧ c.map (toAV1 N) = encA z ∧ elems[i]? = some y ∧ Q z y.1) len fun i hi => by
        obtain ⟨c, y, h3, h4, h5⟩ := k1 i hi
        obtain ⟨z, h6, h7⟩ := hel _ _ _ h4
        exact ⟨z, c, y, h3, h6, h5, h7⟩
      subst hl
      refine ⟨some (a.block, a.off), l, some cap, ?_, ⟨flat_length he l, ?_⟩, decide_eq_true (Nat.lt_of_lt_of_le hb hN), .inr ⟨_, _, h2, by simp [hl1], fun z hz => ?_⟩⟩
      · simp only [toAV1, hc0, false_and, if_false, hs', hle, and_true, true_and]
        rw [if_pos (Nat.lt_of_lt_of_le hb hN)]
      · refine .inr ⟨a.block, a.off, some cap, C.toList.map (toAV1 N), rfl, Nat.lt_of_lt_of_le hb hN, by rw [cellsAt_eq, ofWorld_get hh]; rfl, fun j hj => ?_⟩
        rw [flat_length he] at hj
        have hk : j / sz < l.length := Nat.div_lt_of_lt_mul (by rw [Nat.mul_comm]; exact hj)
        have hr : j % sz < sz := Nat.mod_lt _ h0
        have hjj : j / sz * sz + j % sz = j := by rw [Nat.mul_comm]; exact Nat.div_add_mod j sz
        obtain ⟨c, y, h3, h4, _, _⟩ := hq _ hk
        obtain ⟨C', ty', fz', hh', _, hlc, hg⟩ := cells_get h3 h0
        rw [add_block, hh] at hh'
        cases hh'
        have := hg _ hr
        rw [add_off, Nat.add_assoc, hjj] at this
        conv => rhs; rw [← hjj]
        rw [flat_get he hk hr, ← h4, List.getElem?_map, List.getElem?_map, ← this]
        simp
      · obtain ⟨i, hi, rfl⟩ := List.getElem_of_mem hz
        obtain ⟨c, y, _, _, h5, h6⟩ := hq i hi
        exact ⟨y.1, by rw [List.mem_map]; exact ⟨y, List.mem_of_getElem? h5, rfl⟩, h6⟩
/-- The fields of a struct: their types, first cells, cells. -/
def structA (P : Program) (t : TypeId) : Option (List (TypeId × Nat × Nat)) :=
  match P.underlying t with
  | some (.struct fs) => some (fs.toList.map fun f => (f.type, f.offset, P.cellsOf f.type))
  | _ => none
theorem mapM_map' {α β γ : Type} (f : α → β) (g : β → Option γ) : ∀ l : List α, (l.map f).mapM g = l.mapM fun a => g (f a)
  | [] => rfl
  | a :: l => by simp only [List.map_cons, List.mapM_cons, mapM_map' f g l]
theorem trod_struct' {fs : List (TypeId × Nat × Nat)} {cs : List Value} (hu : structA P t = some fs) (h : DataW.trod enc P W 0 (fun _ => true) true n t cs = some x) :
    cs.length = P.cellsOf t ∧ ∃ m xs, (fs.mapM fun q => DataW.trod enc P W 0 (fun _ => true) true m q.1 ((cs.drop q.2.1).take q.2.2)) = some xs ∧ x.1 = .agg (xs.map (·.1)) := by
  unfold structA at hu
  split at hu
  · rename_i fs' hu'
    cases hu
    obtain ⟨h1, m, xs, rfl, h2, h3⟩ := trod_struct hu' h
    exact ⟨h1, m, xs, by rw [mapM_map']; exact h2, h3⟩
  · cases hu
/-- A struct's value. -/
theorem struct_agg {xs : List Value} (h : v.cells.toList = xs) (h2 : xs.length ≠ 1) (h3 : xs.length ≠ 0) : v = .agg xs.toArray := by
  subst h
  unfold Value.cells at h2 h3 ⊢
  split at h2 <;> simp_all
end
end Go.Ev
