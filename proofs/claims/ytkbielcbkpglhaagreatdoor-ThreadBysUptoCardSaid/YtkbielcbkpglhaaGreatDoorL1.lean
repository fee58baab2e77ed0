/- A law of the program answers true; the conditions are that its texts and lists are short. -/
import Derived.Test.YtkbielcbkpglhaaGreatDoorC4
import Derived.Test.YtkbielcbkpglhaaGreatDoorE7
set_option linter.unusedVariables false
set_option linter.unusedSimpArgs false
set_option maxRecDepth 10000
namespace Go.Proofs.Tryz
open Go.Ev
attribute [local irreducible] Program.underlying Tables.info?
/-! ### ThreadBys -/
def BEHIND : WordV := ⟨0, [98, 101, 104, 105, 110, 100], none, 0, some 0, false⟩
/-- The words of a row, some of them put over its first ones. -/
def overW (ws more : List WordV) : List WordV := more.take ws.length ++ ws.drop more.length
theorem overW_length (ws more : List WordV) : (overW ws more).length = ws.length := by simp [overW]; omega
theorem overW_get {ws more : List WordV} {k : Nat} (h : k < ws.length) : (overW ws more)[k]? = if k < more.length then more[k]? else ws[k]? := by
  unfold overW
  rw [List.getElem?_append, List.length_take]
  by_cases hm : k < more.length
  · rw [if_pos (by omega), if_pos hm, List.getElem?_take_of_lt h]
  · rw [if_neg (by omega), if_neg hm, List.getElem?_drop, show more.length + (k - min ws.length more.length) = k by omega]
theorem overW_mem {ws more : List WordV} {w : WordV} (h : w ∈ overW ws more) : w ∈ ws ∨ w ∈ more := by
  unfold overW at h
  rcases List.mem_append.1 h with h | h
  · exact .inr (List.mem_of_mem_take h)
  · exact .inl (List.mem_of_mem_drop h)
def mixW (ws more : List WordV) (k : Nat) : List WordV := (overW ws more).take k ++ ws.drop k
theorem mixW_length {ws more : List WordV} {k : Nat} (h : k ≤ ws.length) : (mixW ws more k).length = ws.length := by simp [mixW, overW_length]; omega
theorem mixW_get {ws more : List WordV} {k : Nat} (h : k < ws.length) : (mixW ws more k)[k]? = ws[k]? := by
  unfold mixW
  rw [List.getElem?_append, List.length_take, overW_length, if_neg (by omega), List.getElem?_drop, show k + (k - min k ws.length) = k by omega]
theorem mixW_set {ws more : List WordV} {k : Nat} (h : k < ws.length) (hm : k < more.length) : (mixW ws more k).set k more[k] = mixW ws more (k + 1) := by
  refine List.ext_getElem? fun i => ?_
  rw [List.getElem?_set, mixW_length (by omega)]
  have e : ∀ j i, j ≤ ws.length → (mixW ws more j)[i]? = if i < j then (overW ws more)[i]? else ws[i]? := fun j i hj => by
    unfold mixW
    rw [List.getElem?_append, List.length_take, overW_length]
    by_cases hi : i < j
    · rw [if_pos (by omega), if_pos hi, List.getElem?_take_of_lt hi]
    · rw [if_neg (by omega), if_neg hi, List.getElem?_drop, show j + (i - min j ws.length) = i by omega]
  rw [e _ _ (by omega), e _ _ (by omega)]
  by_cases hi : k = i
  · subst hi
    rw [if_pos rfl, if_pos h, if_pos (by omega), overW_get h, if_pos hm, List.getElem?_eq_getElem hm]
  · rw [if_neg hi]
    by_cases hi2 : i < k
    · rw [if_pos hi2, if_pos (by omega)]
    · rw [if_neg hi2, if_neg (by omega)]
theorem mixW_same {ws more : List WordV} {k : Nat} (h : k < ws.length) (hm : ¬ k < more.length) : mixW ws more (k + 1) = mixW ws more k := by
  unfold mixW
  rw [List.take_add_one, List.append_assoc, overW_get h, if_neg hm, List.drop_eq_getElem_cons h, List.getElem?_eq_getElem h]
  rfl
theorem mixW_next {ws more : List WordV} {k : Nat} (h : k < ws.length) : (mixW ws more (k + 1))[k]? = (overW ws more)[k]? := by
  unfold mixW
  rw [List.getElem?_append, List.length_take, overW_length, if_pos (by omega), List.getElem?_take_of_lt (by omega)]
theorem mixW_zero (ws more : List WordV) : mixW ws more 0 = ws := by simp [mixW]
theorem mixW_all (ws more : List WordV) : mixW ws more ws.length = overW ws more := by
  unfold mixW
  rw [List.drop_of_length_le (Nat.le_refl _), List.append_nil, List.take_of_length_le (by rw [overW_length]; exact Nat.le_refl _)]
/-- A word that may be written. -/
structure WOk (st : St) (w : WordV) : Prop where
  text : w.text.length ≤ 2 ^ 20
  low : below st.next (.slice w.ka w.nk w.kc) = true
theorem below_slice {n m : Nat} {a : Option (Nat × Nat)} {k : Nat} {c : Option Nat} (h : below n (.slice a k c) = true) (hm : n ≤ m) : below m (.slice a k c) = true := by
  cases a with
  | none => rfl
  | some a => simp only [below, decide_eq_true_eq] at h ⊢; exact Nat.lt_of_lt_of_le h hm
theorem encW_one (w : WordV) : (encW w).all AV.one = true := rfl
theorem flatW_one (l : List WordV) : (l.flatMap encW).all AV.one = true := by
  rw [List.all_eq_true]
  intro x hx
  rw [List.mem_flatMap] at hx
  obtain ⟨w, _, hx⟩ := hx
  exact List.all_eq_true.1 (encW_one w) x hx
/-- What the second loop keeps. -/
structure LawJ (kind : Int) (text : List UInt8) (glued : Bool) (ws more : List WordV) (v1 : AV) (A B C b5 b12 id g : Nat) (st0 : St) (k : Nat) (v : AV) (own : List WordV) (σ : Trie AV) (st : St) : Prop where
  h13 : σ.get 13 = some (.int .i64 k)
  v1 : σ.get 1 = some v1
  v5 : σ.get 5 = some (.ptr (some (b5, 0)))
  v12 : σ.get 12 = some (.ptr (some (b12, 0)))
  ov : Own C st 35 v k (((overW ws more).take k).flatMap encW)
  on : OwnAt B st 35 g id (own.flatMap encW ++ encW BEHIND)
  b5 : st.heap.get b5 = some (.cells [.int .i64 kind, .str text, .slice (some (id, 0)) ws.length none, .bool glued] 35 (2 * b5))
  b12 : st.heap.get b12 = some (.cells [.int .i64 kind, .str text, v, .bool glued] 35 (2 * b12))
  x : Ext A st0 st
  le : C ≤ st.next
theorem readAll_seven (kind : Int) (ws : List WordV) : (readAll kind ws).1.length ≤ 7 := by
  unfold readAll
  split
  · exact Nat.zero_le _
  split
  · exact Nat.zero_le _
  unfold readEnd
  split
  · exact Nat.zero_le _
  split
  · exact Nat.zero_le _
  split
  · exact Nat.zero_le _
  · simp only; omega
theorem knownRun (st : St) (hg : ∃ m cs, st.heap.get 0 = some (.ro (.int .i64 m :: cs))) : CW E 20 [] st (fun o s' => o = .ret (.bool true) ∧ s' = st) := by
  obtain ⟨m, cs, h⟩ := hg
  exact CW.prim (p := primTrue 0) rfl (by simp only [primTrue, h]) ⟨rfl, rfl⟩
/-- The first loop: nothing is done. -/
structure LawI (n : Nat) (st0 : St) (v1 v6 : AV) (b2 b5 : Nat) (d : Nat) (σ : Trie AV) (st : St) : Prop where
  k : ∃ k : Nat, k + d = n ∧ σ.get 11 = some (.int .i64 k)
  v1 : σ.get 1 = some v1
  v2 : σ.get 2 = some (.ptr (some (b2, 0)))
  v5 : σ.get 5 = some (.ptr (some (b5, 0)))
  v6 : σ.get 6 = some v6
  x : st = st0
set_option maxHeartbeats 8000000 in
theorem threadBysRun (kind : Int) (text : List UInt8) (kv mv : AV) (glued : Bool) (ws more : List WordV) (st : St) (hw : WF st) (hr : Row st 4 kv ws.length (ws.flatMap encW)) (hm : Row st 4 mv more.length (more.flatMap encW))
    (ho : ∀ w ∈ ws, WOk st w) (hom : ∀ w ∈ more, WOk st w) (hn : ws.length ≤ 2 ^ 20) (hnm : more.length ≤ 2 ^ 20) (hg : ∃ m cs, st.heap.get 0 = some (.ro (.int .i64 m :: cs))) (h0 : 0 < st.next) :
    CW E 4 [.agg [.int .i64 kind, .str text, kv, .bool glued], mv] st (fun o s' => o = .ret (.bool true)) := by
  obtain ⟨ka, kc, rfl⟩ := hr.len
  obtain ⟨ma, mc, rfl⟩ := hm.len
  refine CW.enter (n0 := 159) (rs := [.tmp 4]) fn4 rfl rfl rfl rfl rfl ?_
  by_cases h40 : ws.length > 40
  · repeat' (first
    | (refine OW.nil ?_)
    | (apply OW.quiet; (· rfl); (· rfl); (· first | exact wanted_none rfl | (refine wanted_on rfl rfl ?_; simp [*]; done)); (· first | rfl | (simp [isQuiet]; done)); (· simp (disch := omega) [decT, decF, bneT, bneF, beqT, beqF, Go.IntWalk.i64_in, Go.IntWalk.u8_in, *] <;> rfl))
    | (apply OW.off; (· rfl); (· rfl); (· first | (refine wanted_off rfl rfl ?_; simp [*]; done) | (refine wanted_undef rfl rfl ?_; simp [*]; done)))
    | (apply OW.float; (· rfl); (· rfl); (· first | exact wanted_none rfl | (refine wanted_on rfl rfl ?_; simp [*]; done)); (· first | rfl | (simp [isQuiet]; done)); (· first | rfl | (simp [isFloat]; done)); (· simp (disch := omega) [decT, decF, bneT, bneF, beqT, beqF, *] <;> first | rfl | exact ⟨rfl, rfl⟩))
    | (refine XW.skip ?_) | (refine XW.seq ?_) | (refine XW.region ?_) | (refine XW.exit ?_) | (refine XW.ret ?_) | (refine XW.block ?_)
    | (refine XW.condT ?_ ?_; (· simp (disch := omega) [*]; done)) | (refine XW.condF ?_ ?_; (· simp (disch := omega) [*]; done)) | fail)
    exact ⟨rfl, _, by simp; rfl, rfl⟩
  by_cases h40m : more.length > 40
  · repeat' (first
    | (refine OW.nil ?_)
    | (apply OW.quiet; (· rfl); (· rfl); (· first | exact wanted_none rfl | (refine wanted_on rfl rfl ?_; simp [*]; done)); (· first | rfl | (simp [isQuiet]; done)); (· simp (disch := omega) [decT, decF, bneT, bneF, beqT, beqF, Go.IntWalk.i64_in, Go.IntWalk.u8_in, *] <;> rfl))
    | (apply OW.off; (· rfl); (· rfl); (· first | (refine wanted_off rfl rfl ?_; simp [*]; done) | (refine wanted_undef rfl rfl ?_; simp [*]; done)))
    | (apply OW.float; (· rfl); (· rfl); (· first | exact wanted_none rfl | (refine wanted_on rfl rfl ?_; simp [*]; done)); (· first | rfl | (simp [isQuiet]; done)); (· first | rfl | (simp [isFloat]; done)); (· simp (disch := omega) [decT, decF, bneT, bneF, beqT, beqF, *] <;> first | rfl | exact ⟨rfl, rfl⟩))
    | (refine XW.skip ?_) | (refine XW.seq ?_) | (refine XW.region ?_) | (refine XW.exit ?_) | (refine XW.ret ?_) | (refine XW.block ?_)
    | (refine XW.condT ?_ ?_; (· simp (disch := omega) [*]; done)) | (refine XW.condF ?_ ?_; (· simp (disch := omega) [*]; done)) | fail)
    exact ⟨rfl, _, by simp; rfl, rfl⟩
  repeat' (first
    | (refine OW.nil ?_)
    | (apply OW.quiet; (· rfl); (· rfl); (· first | exact wanted_none rfl | (refine wanted_on rfl rfl ?_; simp [*]; done)); (· first | rfl | (simp [isQuiet]; done)); (· simp (disch := omega) [decT, decF, bneT, bneF, beqT, beqF, Go.IntWalk.i64_in, Go.IntWalk.u8_in, *] <;> rfl))
    | (apply OW.off; (· rfl); (· rfl); (· first | (refine wanted_off rfl rfl ?_; simp [*]; done) | (refine wanted_undef rfl rfl ?_; simp [*]; done)))
    | (apply OW.float; (· rfl); (· rfl); (· first | exact wanted_none rfl | (refine wanted_on rfl rfl ?_; simp [*]; done)); (· first | rfl | (simp [isQuiet]; done)); (· first | rfl | (simp [isFloat]; done)); (· simp (disch := omega) [decT, decF, bneT, bneF, beqT, beqF, *] <;> first | rfl | exact ⟨rfl, rfl⟩))
    | (refine XW.skip ?_) | (refine XW.seq ?_) | (refine XW.region ?_) | (refine XW.exit ?_) | (refine XW.ret ?_) | (refine XW.block ?_)
    | (refine XW.condT ?_ ?_; (· simp (disch := omega) [*]; done)) | (refine XW.condF ?_ ?_; (· simp (disch := omega) [*]; done)) | fail)
  (apply OW.store; (· rfl); (· first | exact wanted_none rfl | (refine wanted_on rfl rfl ?_; simp [*]; done)); (· rfl); (· simp [*] <;> first | rfl | exact ⟨rfl, rfl⟩); (· simp [*] <;> rfl); (· simp); (· simp); (· simp [*] <;> first | rfl | exact ⟨rfl, rfl, rfl⟩); (· exact ((hw.alloc _).alloc _).even _); (· first | rfl | (simp <;> rfl)))
  refine OW.fresh ?_
  intro st2 e2
  have hx2 : Ext st.next st st2 := by rw [e2]; exact ((Ext.alloc hw (Nat.le_refl _) _).trans (Ext.alloc (hw.alloc _) (by simp) _)).trans (Ext.set ((hw.alloc _).alloc _) (by simp) _)
  have hn2 : st2.next = st.next + 2 := by rw [e2]; rfl
  have hb2 : st2.heap.get st.next = some (.cells [.int .i64 kind, .str text, .slice ka ws.length kc, .bool glued] 35 (2 * st.next)) := by rw [e2]; simp
  have hb5 : st2.heap.get (st.next + 1) = some (.cells [.int .i64 kind, .str text, .slice ka ws.length kc, .bool glued] 35 (2 * (st.next + 1))) := by rw [e2]; simp
  have hc2 := cellsAt_of hb2
  have hw2 := hx2.wf
  clear e2
  repeat' (first
    | (refine OW.nil ?_)
    | (apply OW.quiet; (· rfl); (· rfl); (· first | exact wanted_none rfl | (refine wanted_on rfl rfl ?_; simp [*]; done)); (· first | rfl | (simp [isQuiet]; done)); (· simp (disch := omega) [decT, decF, bneT, bneF, beqT, beqF, Go.IntWalk.i64_in, Go.IntWalk.u8_in, *] <;> rfl))
    | (apply OW.off; (· rfl); (· rfl); (· first | (refine wanted_off rfl rfl ?_; simp [*]; done) | (refine wanted_undef rfl rfl ?_; simp [*]; done)))
    | (apply OW.float; (· rfl); (· rfl); (· first | exact wanted_none rfl | (refine wanted_on rfl rfl ?_; simp [*]; done)); (· first | rfl | (simp [isQuiet]; done)); (· first | rfl | (simp [isFloat]; done)); (· simp (disch := omega) [decT, decF, bneT, bneF, beqT, beqF, *] <;> first | rfl | exact ⟨rfl, rfl⟩))
    | (refine XW.skip ?_) | (refine XW.seq ?_) | (refine XW.region ?_) | (refine XW.exit ?_) | (refine XW.ret ?_) | (refine XW.block ?_)
    | (refine XW.condT ?_ ?_; (· simp (disch := omega) [*]; done)) | (refine XW.condF ?_ ?_; (· simp (disch := omega) [*]; done)) | fail)
  (apply OW.copyNil; (· rfl); (· rfl); (· first | exact wanted_none rfl | (refine wanted_on rfl rfl ?_; simp [*]; done)); (· rfl); (· simp [*] <;> rfl); (· simp [*] <;> rfl); (· simp); (· simp <;> rfl); (· simp <;> rfl); (· exact hr.ext hx2); (· exact hw2); (· first | exact flatW_one _ | simp); (· omega); (· decide))
  intro v3 st3 ho3 hx3
  have hn3 : st2.next ≤ st3.next := hx3.le
  repeat' (first
    | (refine OW.nil ?_)
    | (apply OW.quiet; (· rfl); (· rfl); (· first | exact wanted_none rfl | (refine wanted_on rfl rfl ?_; simp [*]; done)); (· first | rfl | (simp [isQuiet]; done)); (· simp (disch := omega) [decT, decF, bneT, bneF, beqT, beqF, Go.IntWalk.i64_in, Go.IntWalk.u8_in, *] <;> rfl))
    | (apply OW.off; (· rfl); (· rfl); (· first | (refine wanted_off rfl rfl ?_; simp [*]; done) | (refine wanted_undef rfl rfl ?_; simp [*]; done)))
    | (apply OW.float; (· rfl); (· rfl); (· first | exact wanted_none rfl | (refine wanted_on rfl rfl ?_; simp [*]; done)); (· first | rfl | (simp [isQuiet]; done)); (· first | rfl | (simp [isFloat]; done)); (· simp (disch := omega) [decT, decF, bneT, bneF, beqT, beqF, *] <;> first | rfl | exact ⟨rfl, rfl⟩))
    | (refine XW.skip ?_) | (refine XW.seq ?_) | (refine XW.region ?_) | (refine XW.exit ?_) | (refine XW.ret ?_) | (refine XW.block ?_)
    | (refine XW.condT ?_ ?_; (· simp (disch := omega) [*]; done)) | (refine XW.condF ?_ ?_; (· simp (disch := omega) [*]; done)) | fail)
  (apply OW.append; (· rfl); (· rfl); (· first | exact wanted_none rfl | (refine wanted_on rfl rfl ?_; simp [*]; done)); (· rfl); (· simp [*] <;> rfl); (· simp [*] <;> rfl); (· simp); (· simp <;> rfl); (· simp <;> rfl); (· simp <;> rfl); (· simp [*] <;> rfl); (· exact ho3.ext (Ext.alloc hx3.wf (Nat.le_refl _) _)); (· exact hx3.wf.alloc _); (· (simp; omega)); (· simp); (· omega); (· exact flat_length encW_length ws); (· omega); (· simp); (· decide))
  intro st4 id g hown hx4 hn4 hid hheap hgrps hwas
  have hx4' := (hx3.trans (Ext.alloc hx3.wf hn3 _)).trans hx4
  have hb2' : st4.heap.get st.next = _ := (hx4'.heap _ (by omega)).trans hb2
  have hb5' : st4.heap.get (st.next + 1) = _ := (hx4'.heap _ (by omega)).trans hb5
  have hc2' := cellsAt_of hb2'
  have hat := hown.at_
  have hlow := hown.low
  have hlt := hown.lt
  have hgl := hown.glt
  have hodd := hown.odd
  clear hwas hheap hgrps hid hb2 hb5 hc2
  repeat' (first
    | (refine OW.nil ?_)
    | (apply OW.quiet; (· rfl); (· rfl); (· first | exact wanted_none rfl | (refine wanted_on rfl rfl ?_; simp [*]; done)); (· first | rfl | (simp [isQuiet]; done)); (· simp (disch := omega) [knownA, decT, decF, bneT, bneF, beqT, beqF, Go.IntWalk.i64_in, Go.IntWalk.u8_in, *] <;> rfl))
    | (apply OW.off; (· rfl); (· rfl); (· first | (refine wanted_off rfl rfl ?_; simp [*]; done) | (refine wanted_undef rfl rfl ?_; simp [*]; done)))
    | (apply OW.float; (· rfl); (· rfl); (· first | exact wanted_none rfl | (refine wanted_on rfl rfl ?_; simp [*]; done)); (· first | rfl | (simp [isQuiet]; done)); (· first | rfl | (simp [isFloat]; done)); (· simp (disch := omega) [knownA, decT, decF, bneT, bneF, beqT, beqF, *] <;> first | rfl | exact ⟨rfl, rfl⟩))
    | (refine XW.skip ?_) | (refine XW.seq ?_) | (refine XW.region ?_) | (refine XW.exit ?_) | (refine XW.ret ?_) | (refine XW.block ?_)
    | (refine XW.condT ?_ ?_; (· simp (disch := omega) [*]; done)) | (refine XW.condF ?_ ?_; (· simp (disch := omega) [*]; done)) | fail)
  (apply OW.store; (· rfl); (· first | exact wanted_none rfl | (refine wanted_on rfl rfl ?_; simp [*]; done)); (· rfl); (· simp [*] <;> first | rfl | exact ⟨rfl, rfl⟩); (· simp [*] <;> first | rfl | exact ⟨rfl, rfl⟩); (· simp); (· simp); (· exact hb5'); (· exact hx4.wf.even _); (· rfl))
  refine OW.fresh ?_
  intro st5 e5
  have hb5 : st5.heap.get (st.next + 1) = some (.cells [.int .i64 kind, .str text, .slice (some (id, 0)) ws.length none, .bool glued] 35 (2 * (st.next + 1))) := by rw [e5]; simp
  have hb2 : st5.heap.get st.next = some (.cells [.int .i64 kind, .str text, .slice ka ws.length kc, .bool glued] 35 (2 * st.next)) := by rw [e5]; simp [hb2']
  have hown5 : OwnAt st2.next st5 35 g id (ws.flatMap encW ++ encW BEHIND) := by rw [e5]; exact hown.put hb5' fun c hc => by cases hc; omega
  have hx5 : Ext st.next st st5 := by rw [e5]; exact ((hx2.andThen hx2.le hx4')).trans (Ext.set hx4.wf (Nat.le_succ _) _)
  have hn5 : st5.next = st4.next := by rw [e5]
  clear e5 hat hown hb2' hb5' hc2' hx4 hx4' ho3
  have hlt5 : id < st5.next := by omega
  have hgl5 : g < 2 * st5.next := by omega
  clear hlt hgl hn4
  have hc2 := cellsAt_of hb2
  have hc5 := cellsAt_of hb5
  have hw5 := hx5.wf
  have hrow5 : Row st5 4 (.slice (some (id, 0)) ws.length none) ws.length (ws.flatMap encW) := hown5.front (flat_length encW_length ws)
  have htx : ∀ w ∈ ws, w.text.length ≤ 2 ^ 20 := fun w h => (ho w h).text
  have hseven := readAll_seven kind ws
  repeat' (first
    | (refine OW.nil ?_)
    | (apply OW.quiet; (· rfl); (· rfl); (· first | exact wanted_none rfl | (refine wanted_on rfl rfl ?_; simp [*]; done)); (· first | rfl | (simp [isQuiet]; done)); (· simp (disch := omega) [decT, decF, bneT, bneF, beqT, beqF, Go.IntWalk.i64_in, Go.IntWalk.u8_in, *] <;> rfl))
    | (apply OW.off; (· rfl); (· rfl); (· first | (refine wanted_off rfl rfl ?_; simp [*]; done) | (refine wanted_undef rfl rfl ?_; simp [*]; done)))
    | (apply OW.float; (· rfl); (· rfl); (· first | exact wanted_none rfl | (refine wanted_on rfl rfl ?_; simp [*]; done)); (· first | rfl | (simp [isQuiet]; done)); (· first | rfl | (simp [isFloat]; done)); (· simp (disch := omega) [decT, decF, bneT, bneF, beqT, beqF, *] <;> first | rfl | exact ⟨rfl, rfl⟩))
    | (refine XW.skip ?_) | (refine XW.seq ?_) | (refine XW.region ?_) | (refine XW.exit ?_) | (refine XW.ret ?_) | (refine XW.block ?_)
    | (refine XW.condT ?_ ?_; (· simp (disch := omega) [*]; done)) | (refine XW.condF ?_ ?_; (· simp (disch := omega) [*]; done)) | fail)
  (apply OW.callF; (· rfl); (· first | exact wanted_none rfl | (refine wanted_on rfl rfl ?_; simp [*]; done)); (· simp [*] <;> rfl); (· exact hb22); (refine (readByRun kind text _ glued ws st5 hw5 hrow5 htx hn).mono ?_; rintro _ s6 ⟨v7, rfl, ho7, h6⟩; apply callK_ret; (· rfl); (· rfl)))
  have hc2' : s6.cellsAt st.next = _ := (h6.cells (by omega)).trans hc2
  have hc5' : s6.cellsAt (st.next + 1) = _ := (h6.cells (by omega)).trans hc5
  have hn6 : st5.next ≤ s6.next := h6.le
  clear hc2 hc5
  repeat' (first
    | (refine OW.nil ?_)
    | (apply OW.quiet; (· rfl); (· rfl); (· first | exact wanted_none rfl | (refine wanted_on rfl rfl ?_; simp [*]; done)); (· first | rfl | (simp [isQuiet]; done)); (· simp (disch := omega) [decT, decF, bneT, bneF, beqT, beqF, Go.IntWalk.i64_in, Go.IntWalk.u8_in, *] <;> rfl))
    | (apply OW.off; (· rfl); (· rfl); (· first | (refine wanted_off rfl rfl ?_; simp [*]; done) | (refine wanted_undef rfl rfl ?_; simp [*]; done)))
    | (apply OW.float; (· rfl); (· rfl); (· first | exact wanted_none rfl | (refine wanted_on rfl rfl ?_; simp [*]; done)); (· first | rfl | (simp [isQuiet]; done)); (· first | rfl | (simp [isFloat]; done)); (· simp (disch := omega) [decT, decF, bneT, bneF, beqT, beqF, *] <;> first | rfl | exact ⟨rfl, rfl⟩))
    | (refine XW.skip ?_) | (refine XW.seq ?_) | (refine XW.region ?_) | (refine XW.exit ?_) | (refine XW.ret ?_) | (refine XW.block ?_)
    | (refine XW.condT ?_ ?_; (· simp (disch := omega) [*]; done)) | (refine XW.condF ?_ ?_; (· simp (disch := omega) [*]; done)) | fail)
  (apply OW.callF; (· rfl); (· first | exact wanted_none rfl | (refine wanted_on rfl rfl ?_; simp [*]; done)); (· simp [*] <;> rfl); (· exact hb23); (refine (refReadByRun kind text _ glued ws s6 h6.wf (hr.ext (hx5.andThen hx5.le h6)) htx hn).mono ?_; rintro _ s8 ⟨v9, rfl, ho9, h8⟩; apply callK_ret; (· rfl); (· rfl)))
  have hx8 := h6.andThen hn6 h8
  have hc2 : s8.cellsAt st.next = _ := (h8.cells (by omega)).trans hc2'
  have hc5 : s8.cellsAt (st.next + 1) = _ := (h8.cells (by omega)).trans hc5'
  have hn8 : s6.next ≤ s8.next := h8.le
  clear hc2' hc5'
  have hg8 : ∃ m cs, s8.heap.get 0 = some (.ro (.int .i64 m :: cs)) := by
    obtain ⟨m, cs, hh⟩ := hg
    exact ⟨m, cs, by rw [hx8.heap _ (by omega), hx5.heap _ h0]; exact hh⟩
  repeat' (first
    | (refine OW.nil ?_)
    | (apply OW.quiet; (· rfl); (· rfl); (· first | exact wanted_none rfl | (refine wanted_on rfl rfl ?_; simp [*]; done)); (· first | rfl | (simp [isQuiet]; done)); (· simp (disch := omega) [decT, decF, bneT, bneF, beqT, beqF, Go.IntWalk.i64_in, Go.IntWalk.u8_in, *] <;> rfl))
    | (apply OW.off; (· rfl); (· rfl); (· first | (refine wanted_off rfl rfl ?_; simp [*]; done) | (refine wanted_undef rfl rfl ?_; simp [*]; done)))
    | (apply OW.float; (· rfl); (· rfl); (· first | exact wanted_none rfl | (refine wanted_on rfl rfl ?_; simp [*]; done)); (· first | rfl | (simp [isQuiet]; done)); (· first | rfl | (simp [isFloat]; done)); (· simp (disch := omega) [decT, decF, bneT, bneF, beqT, beqF, *] <;> first | rfl | exact ⟨rfl, rfl⟩))
    | (refine XW.skip ?_) | (refine XW.seq ?_) | (refine XW.region ?_) | (refine XW.exit ?_) | (refine XW.ret ?_) | (refine XW.block ?_)
    | (refine XW.condT ?_ ?_; (· simp (disch := omega) [*]; done)) | (refine XW.condF ?_ ?_; (· simp (disch := omega) [*]; done)) | fail)
  (apply OW.callF; (· rfl); (· first | exact wanted_none rfl | (refine wanted_on rfl rfl ?_; simp [*]; done)); (· simp [*] <;> rfl); (· exact hb20); (refine (knownRun s8 hg8).mono ?_; rintro _ s8 ⟨rfl, rfl⟩; apply callK_ret; (· rfl); (· rfl)))
  repeat' (first
    | (refine OW.nil ?_)
    | (apply OW.quiet; (· rfl); (· rfl); (· first | exact wanted_none rfl | (refine wanted_on rfl rfl ?_; simp [*]; done)); (· first | rfl | (simp [isQuiet]; done)); (· simp (disch := omega) [decT, decF, bneT, bneF, beqT, beqF, Go.IntWalk.i64_in, Go.IntWalk.u8_in, *] <;> rfl))
    | (apply OW.off; (· rfl); (· rfl); (· first | (refine wanted_off rfl rfl ?_; simp [*]; done) | (refine wanted_undef rfl rfl ?_; simp [*]; done)))
    | (apply OW.float; (· rfl); (· rfl); (· first | exact wanted_none rfl | (refine wanted_on rfl rfl ?_; simp [*]; done)); (· first | rfl | (simp [isQuiet]; done)); (· first | rfl | (simp [isFloat]; done)); (· simp (disch := omega) [decT, decF, bneT, bneF, beqT, beqF, *] <;> first | rfl | exact ⟨rfl, rfl⟩))
    | (refine XW.skip ?_) | (refine XW.seq ?_) | (refine XW.region ?_) | (refine XW.exit ?_) | (refine XW.ret ?_) | (refine XW.block ?_)
    | (refine XW.condT ?_ ?_; (· simp (disch := omega) [*]; done)) | (refine XW.condF ?_ ?_; (· simp (disch := omega) [*]; done)) | fail)
  (apply OW.callF; (· rfl); (· first | exact wanted_none rfl | (refine wanted_on rfl rfl ?_; simp [*]; done)); (· simp [*] <;> rfl); (· exact hb24); (refine (bysRun v7 v9 _ _ s8 h8.wf ((ho7.ext h8).row (flat_length encBy_length _)) (ho9.row (flat_length encBy_length _)) (by omega) (by omega)).mono ?_; rintro _ s8 ⟨rfl, rfl⟩; apply callK_ret; (· rfl); (· rfl)))
  repeat' (first
    | (refine OW.nil ?_)
    | (apply OW.quiet; (· rfl); (· rfl); (· first | exact wanted_none rfl | (refine wanted_on rfl rfl ?_; simp [*]; done)); (· first | rfl | (simp [isQuiet]; done)); (· simp (disch := omega) [decT, decF, bneT, bneF, beqT, beqF, Go.IntWalk.i64_in, Go.IntWalk.u8_in, *] <;> rfl))
    | (apply OW.off; (· rfl); (· rfl); (· first | (refine wanted_off rfl rfl ?_; simp [*]; done) | (refine wanted_undef rfl rfl ?_; simp [*]; done)))
    | (apply OW.float; (· rfl); (· rfl); (· first | exact wanted_none rfl | (refine wanted_on rfl rfl ?_; simp [*]; done)); (· first | rfl | (simp [isQuiet]; done)); (· first | rfl | (simp [isFloat]; done)); (· simp (disch := omega) [decT, decF, bneT, bneF, beqT, beqF, *] <;> first | rfl | exact ⟨rfl, rfl⟩))
    | (refine XW.skip ?_) | (refine XW.seq ?_) | (refine XW.region ?_) | (refine XW.exit ?_) | (refine XW.ret ?_) | (refine XW.block ?_)
    | (refine XW.condT ?_ ?_; (· simp (disch := omega) [*]; done)) | (refine XW.condF ?_ ?_; (· simp (disch := omega) [*]; done)) | fail)
  (apply OW.callF; (· rfl); (· first | exact wanted_none rfl | (refine wanted_on rfl rfl ?_; simp [*]; done)); (· simp [*] <;> rfl); (· exact hb25); (refine (numRun _ s8 h8.wf).mono ?_; rintro _ s8 ⟨rfl, rfl⟩; apply callK_ret; (· rfl); (· rfl)))
  have hown8 : OwnAt st2.next s8 35 g id (ws.flatMap encW ++ encW BEHIND) := hown5.ext hx8
  have hat := cellsAt_of hown8.at_
  have hl1 : (ws.flatMap encW ++ encW BEHIND)[ws.length * 4 + 1]? = some (.str [98, 101, 104, 105, 110, 100]) := by
    rw [List.getElem?_append_right (by rw [flat_length encW_length]; omega), flat_length encW_length, show ws.length * 4 + 1 - ws.length * 4 = 1 by omega]
    rfl
  have hlt1 : (ws.length : Int) < (ws.length : Int) + 1 := by omega
  have hlt2 : (ws.length : Int) < ((ws.length + 1 : Nat) : Int) := by omega
  repeat' (first
    | (refine OW.nil ?_)
    | (apply OW.quiet; (· rfl); (· rfl); (· first | exact wanted_none rfl | (refine wanted_on rfl rfl ?_; simp [*]; done)); (· first | rfl | (simp [isQuiet]; done)); (· simp (disch := omega) [decT, decF, bneT, bneF, beqT, beqF, Go.IntWalk.i64_in, Go.IntWalk.u8_in, *] <;> rfl))
    | (apply OW.off; (· rfl); (· rfl); (· first | (refine wanted_off rfl rfl ?_; simp [*]; done) | (refine wanted_undef rfl rfl ?_; simp [*]; done)))
    | (apply OW.float; (· rfl); (· rfl); (· first | exact wanted_none rfl | (refine wanted_on rfl rfl ?_; simp [*]; done)); (· first | rfl | (simp [isQuiet]; done)); (· first | rfl | (simp [isFloat]; done)); (· simp (disch := omega) [decT, decF, bneT, bneF, beqT, beqF, *] <;> first | rfl | exact ⟨rfl, rfl⟩))
    | (refine XW.skip ?_) | (refine XW.seq ?_) | (refine XW.region ?_) | (refine XW.exit ?_) | (refine XW.ret ?_) | (refine XW.block ?_)
    | (refine XW.condT ?_ ?_; (· simp (disch := omega) [*]; done)) | (refine XW.condF ?_ ?_; (· simp (disch := omega) [*]; done)) | fail)
  refine XW.rounds (LawI ws.length s8 (.slice ma more.length mc) (.slice (some (id, 0)) (ws.length + 1) none) st.next (st.next + 1)) ?round ws.length _ _ ?start
  case start => exact ⟨⟨0, by omega, by simp⟩, by simp, by simp, by simp, by simp, rfl⟩
  intro d σ st9 hI
  obtain ⟨⟨k, hk, h11⟩, v1, v2, v5, v6, hst⟩ := hI
  obtain rfl := hst.symm
  by_cases hlt : k < ws.length
  · obtain ⟨id1, off1, c1, all1, hkv, hid1, hca1, hrd1, hjs1⟩ := (hr.ext (hx5.andThen hx5.le hx8)).get encW_length (by omega) hlt
    injection hkv with e1 e2 e3
    subst e1
    have hk0 : (ws.flatMap encW ++ encW BEHIND)[k * 4]? = some (.int .i64 ws[k].kind) := by
      rw [List.getElem?_append_left (by rw [flat_length encW_length]; omega)]; exact flat_get encW_length hlt (j := 0) (by omega)
    have hk1 : (ws.flatMap encW ++ encW BEHIND)[k * 4 + 1]? = some (.str ws[k].text) := by
      rw [List.getElem?_append_left (by rw [flat_length encW_length]; omega)]; exact flat_get encW_length hlt (j := 1) (by omega)
    have hj0 : all1[off1 + k * 4]? = some (.int .i64 ws[k].kind) := hjs1 0 (by omega)
    have hj1 : all1[off1 + k * 4 + 1]? = some (.str ws[k].text) := hjs1 1 (by omega)
    have hlt3 : (k : Int) < (ws.length : Int) + 1 := by omega
    have hlt4 : (k : Int) < ((ws.length + 1 : Nat) : Int) := by omega
    repeat' (first
    | (refine OW.nil ?_)
    | (apply OW.quiet; (· rfl); (· rfl); (· first | exact wanted_none rfl | (refine wanted_on rfl rfl ?_; simp [*]; done)); (· first | rfl | (simp [isQuiet]; done)); (· simp (disch := omega) [decT, decF, bneT, bneF, beqT, beqF, Go.IntWalk.i64_in, Go.IntWalk.u8_in, *] <;> rfl))
    | (apply OW.off; (· rfl); (· rfl); (· first | (refine wanted_off rfl rfl ?_; simp [*]; done) | (refine wanted_undef rfl rfl ?_; simp [*]; done)))
    | (apply OW.float; (· rfl); (· rfl); (· first | exact wanted_none rfl | (refine wanted_on rfl rfl ?_; simp [*]; done)); (· first | rfl | (simp [isQuiet]; done)); (· first | rfl | (simp [isFloat]; done)); (· simp (disch := omega) [decT, decF, bneT, bneF, beqT, beqF, *] <;> first | rfl | exact ⟨rfl, rfl⟩))
    | (refine XW.skip ?_) | (refine XW.seq ?_) | (refine XW.region ?_) | (refine XW.exit ?_) | (refine XW.ret ?_) | (refine XW.block ?_)
    | (refine XW.condT ?_ ?_; (· simp (disch := omega) [*]; done)) | (refine XW.condF ?_ ?_; (· simp (disch := omega) [*]; done)) | fail)
    refine XW.draw (is := [0, 1, 2, 3, 4, 5, 6, 7, 8, 9, 10, 11, 12, 13, 14, 15, 16, 17, 18, 19, 20, 21, 22, 23, 24, 25]) (by kernel_rfl) (by kernel_rfl) ?_
    intro b
    repeat' (first
    | (refine DW.nil ?_)
    | (apply DW.quiet; (· rfl); (· rfl); (· rfl); (· first | exact wanted_none rfl | (refine wanted_on rfl rfl ?_; simp [*]; done)); (· first | rfl | (simp [isQuiet]; done)); (· intro s' hag; simp (disch := omega) [hag.cells, decT, decF, bneT, bneF, beqT, beqF, Go.IntWalk.i64_in, Go.IntWalk.u8_in, *] <;> first | rfl | exact ⟨rfl, rfl⟩); intro _)
    | (apply DW.off; (· rfl); (· rfl); (· rfl); (· first | (refine wanted_off rfl rfl ?_; simp [*]; done) | (refine wanted_undef rfl rfl ?_; simp [*]; done)); intro _)
    | (apply DW.float; (· rfl); (· rfl); (· rfl); (· first | exact wanted_none rfl | (refine wanted_on rfl rfl ?_; simp [*]; done)); (· first | rfl | (simp [isQuiet]; done)); (· first | rfl | (simp [isFloat]; done)); (· simp (disch := omega) [decT, decF, bneT, bneF, beqT, beqF, *] <;> first | rfl | exact ⟨rfl, rfl⟩); (· simp (disch := omega) [*]); intro _) | fail)
    repeat' (first
    | (refine OW.nil ?_)
    | (apply OW.quiet; (· rfl); (· rfl); (· first | exact wanted_none rfl | (refine wanted_on rfl rfl ?_; simp [*]; done)); (· first | rfl | (simp [isQuiet]; done)); (· simp (disch := omega) [decT, decF, bneT, bneF, beqT, beqF, Go.IntWalk.i64_in, Go.IntWalk.u8_in, *] <;> rfl))
    | (apply OW.off; (· rfl); (· rfl); (· first | (refine wanted_off rfl rfl ?_; simp [*]; done) | (refine wanted_undef rfl rfl ?_; simp [*]; done)))
    | (apply OW.float; (· rfl); (· rfl); (· first | exact wanted_none rfl | (refine wanted_on rfl rfl ?_; simp [*]; done)); (· first | rfl | (simp [isQuiet]; done)); (· first | rfl | (simp [isFloat]; done)); (· simp (disch := omega) [decT, decF, bneT, bneF, beqT, beqF, *] <;> first | rfl | exact ⟨rfl, rfl⟩))
    | (refine XW.skip ?_) | (refine XW.seq ?_) | (refine XW.region ?_) | (refine XW.exit ?_) | (refine XW.ret ?_) | (refine XW.block ?_)
    | (refine XW.condT ?_ ?_; (· simp (disch := omega) [*]; done)) | (refine XW.condF ?_ ?_; (· simp (disch := omega) [*]; done)) | fail)
    exact ⟨rfl, rfl, d - 1, by omega, ⟨k + 1, by omega, by simp⟩, by simp [*], by simp [*], by simp [*], by simp [*], rfl⟩
  have hkn : k = ws.length := by omega
  subst hkn
  repeat' (first
    | (refine OW.nil ?_)
    | (apply OW.quiet; (· rfl); (· rfl); (· first | exact wanted_none rfl | (refine wanted_on rfl rfl ?_; simp [*]; done)); (· first | rfl | (simp [isQuiet]; done)); (· simp (disch := omega) [decT, decF, bneT, bneF, beqT, beqF, Go.IntWalk.i64_in, Go.IntWalk.u8_in, *] <;> rfl))
    | (apply OW.off; (· rfl); (· rfl); (· first | (refine wanted_off rfl rfl ?_; simp [*]; done) | (refine wanted_undef rfl rfl ?_; simp [*]; done)))
    | (apply OW.float; (· rfl); (· rfl); (· first | exact wanted_none rfl | (refine wanted_on rfl rfl ?_; simp [*]; done)); (· first | rfl | (simp [isQuiet]; done)); (· first | rfl | (simp [isFloat]; done)); (· simp (disch := omega) [decT, decF, bneT, bneF, beqT, beqF, *] <;> first | rfl | exact ⟨rfl, rfl⟩))
    | (refine XW.skip ?_) | (refine XW.seq ?_) | (refine XW.region ?_) | (refine XW.exit ?_) | (refine XW.ret ?_) | (refine XW.block ?_)
    | (refine XW.condT ?_ ?_; (· simp (disch := omega) [*]; done)) | (refine XW.condF ?_ ?_; (· simp (disch := omega) [*]; done)) | fail)
  (apply OW.store; (· rfl); (· first | exact wanted_none rfl | (refine wanted_on rfl rfl ?_; simp [*]; done)); (· rfl); (· simp [*] <;> first | rfl | exact ⟨rfl, rfl⟩); (· simp [*] <;> rfl); (· simp); (· simp); (· simp [*] <;> first | rfl | exact ⟨rfl, rfl, rfl⟩); (· exact (h8.wf.alloc _).even _); (· first | rfl | (simp <;> rfl)))
  repeat' (first
    | (refine OW.nil ?_)
    | (apply OW.quiet; (· rfl); (· rfl); (· first | exact wanted_none rfl | (refine wanted_on rfl rfl ?_; simp [*]; done)); (· first | rfl | (simp [isQuiet]; done)); (· simp (disch := omega) [decT, decF, bneT, bneF, beqT, beqF, Go.IntWalk.i64_in, Go.IntWalk.u8_in, *] <;> rfl))
    | (apply OW.off; (· rfl); (· rfl); (· first | (refine wanted_off rfl rfl ?_; simp [*]; done) | (refine wanted_undef rfl rfl ?_; simp [*]; done)))
    | (apply OW.float; (· rfl); (· rfl); (· first | exact wanted_none rfl | (refine wanted_on rfl rfl ?_; simp [*]; done)); (· first | rfl | (simp [isQuiet]; done)); (· first | rfl | (simp [isFloat]; done)); (· simp (disch := omega) [decT, decF, bneT, bneF, beqT, beqF, *] <;> first | rfl | exact ⟨rfl, rfl⟩))
    | (refine XW.skip ?_) | (refine XW.seq ?_) | (refine XW.region ?_) | (refine XW.exit ?_) | (refine XW.ret ?_) | (refine XW.block ?_)
    | (refine XW.condT ?_ ?_; (· simp (disch := omega) [*]; done)) | (refine XW.condF ?_ ?_; (· simp (disch := omega) [*]; done)) | fail)
  (apply OW.store; (· rfl); (· first | exact wanted_none rfl | (refine wanted_on rfl rfl ?_; simp [*]; done)); (· rfl); (· simp [*] <;> first | rfl | exact ⟨rfl, rfl⟩); (· simp [*] <;> rfl); (· simp); (· simp); (· simp [*] <;> first | rfl | exact ⟨rfl, rfl, rfl⟩); (· exact ((h8.wf.alloc _).set _ _).even _); (· first | rfl | (simp <;> rfl)))
  repeat' (first
    | (refine OW.nil ?_)
    | (apply OW.quiet; (· rfl); (· rfl); (· first | exact wanted_none rfl | (refine wanted_on rfl rfl ?_; simp [*]; done)); (· first | rfl | (simp [isQuiet]; done)); (· simp (disch := omega) [decT, decF, bneT, bneF, beqT, beqF, Go.IntWalk.i64_in, Go.IntWalk.u8_in, *] <;> rfl))
    | (apply OW.off; (· rfl); (· rfl); (· first | (refine wanted_off rfl rfl ?_; simp [*]; done) | (refine wanted_undef rfl rfl ?_; simp [*]; done)))
    | (apply OW.float; (· rfl); (· rfl); (· first | exact wanted_none rfl | (refine wanted_on rfl rfl ?_; simp [*]; done)); (· first | rfl | (simp [isQuiet]; done)); (· first | rfl | (simp [isFloat]; done)); (· simp (disch := omega) [decT, decF, bneT, bneF, beqT, beqF, *] <;> first | rfl | exact ⟨rfl, rfl⟩))
    | (refine XW.skip ?_) | (refine XW.seq ?_) | (refine XW.region ?_) | (refine XW.exit ?_) | (refine XW.ret ?_) | (refine XW.block ?_)
    | (refine XW.condT ?_ ?_; (· simp (disch := omega) [*]; done)) | (refine XW.condF ?_ ?_; (· simp (disch := omega) [*]; done)) | fail)
  refine XW.fresh ?_
  intro st10 e10
  have hb58 : s8.heap.get (st.next + 1) = _ := (hx8.heap _ (by omega)).trans hb5
  have hne58 : st.next + 1 ≠ s8.next := by omega
  have hb510 : st10.heap.get (st.next + 1) = some (.cells [.int .i64 kind, .str text, .slice (some (id, 0)) ws.length none, .bool glued] 35 (2 * (st.next + 1))) := by rw [e10]; simp [hne58, hb58]
  have hb12 : st10.heap.get s8.next = some (.cells [.int .i64 kind, .str text, .slice none 0 (some 0), .bool glued] 35 (2 * s8.next)) := by rw [e10]; simp
  have hn10 : st10.next = s8.next + 1 := by rw [e10]; rfl
  have hx10' : Ext s8.next s8 st10 := by rw [e10]; exact ((Ext.alloc h8.wf (Nat.le_refl _) _).trans (Ext.set (h8.wf.alloc _) (Nat.le_refl _) _)).trans (Ext.set ((h8.wf.alloc _).set _ _) (Nat.le_refl _) _)
  have hown10 := hown8.ext hx10'
  have hx10 : Ext st.next st st10 := (hx5.andThen hx5.le hx8).andThen (by omega) hx10'
  clear e10
  have hgl10 : g < 2 * st10.next := by omega
  have hlow10 : st.next ≤ id := by omega
  have hid10 : id < st10.next := by omega
  refine XW.rounds (fun d σ s => ∃ k v, k + d = ws.length ∧ LawJ kind text glued ws more (.slice ma more.length mc) st.next st2.next st10.next (st.next + 1) s8.next id g st k v (mixW ws more k) σ s) ?round2 ws.length _ _ ?start2
  case start2 => exact ⟨0, _, by omega, by simp, by simp [v1], by simp [v5], by simp, by simpa using Own.nil, by rw [mixW_zero]; exact hown10, hb510, hb12, hx10, Nat.le_refl _⟩
  intro d2 σ2 st11 hJ
  obtain ⟨k, v, hk, h13, hv1, hv5, hv12, hov, hon, hb5, hb12, hx11, hle⟩ := hJ
  have hc5 := cellsAt_of hb5
  by_cases hlt : k < ws.length
  rotate_right
  · have hkn : k = ws.length := by omega
    subst hkn
    have hlen := overW_length ws more
    rw [mixW_all] at hon
    rw [List.take_of_length_le (by omega)] at hov
    have hc12 := cellsAt_of hb12
    have hrow : Row st11 4 (.slice (some (id, 0)) ws.length none) (overW ws more).length ((overW ws more).flatMap encW) := by rw [hlen]; exact hon.front (by rw [flat_length encW_length, hlen])
    have hrov : Row st11 4 v (overW ws more).length ((overW ws more).flatMap encW) := by rw [hlen]; exact hov.row (by rw [flat_length encW_length, hlen])
    have htx2 : ∀ w ∈ overW ws more, w.text.length ≤ 2 ^ 20 := fun w h => by
      rcases overW_mem h with h | h
      · exact htx w h
      · exact (hom w h).text
    have hseven2 := readAll_seven kind (overW ws more)
    repeat' (first
    | (refine OW.nil ?_)
    | (apply OW.quiet; (· rfl); (· rfl); (· first | exact wanted_none rfl | (refine wanted_on rfl rfl ?_; simp [*]; done)); (· first | rfl | (simp [isQuiet]; done)); (· simp (disch := omega) [decT, decF, bneT, bneF, beqT, beqF, Go.IntWalk.i64_in, Go.IntWalk.u8_in, *] <;> rfl))
    | (apply OW.off; (· rfl); (· rfl); (· first | (refine wanted_off rfl rfl ?_; simp [*]; done) | (refine wanted_undef rfl rfl ?_; simp [*]; done)))
    | (apply OW.float; (· rfl); (· rfl); (· first | exact wanted_none rfl | (refine wanted_on rfl rfl ?_; simp [*]; done)); (· first | rfl | (simp [isQuiet]; done)); (· first | rfl | (simp [isFloat]; done)); (· simp (disch := omega) [decT, decF, bneT, bneF, beqT, beqF, *] <;> first | rfl | exact ⟨rfl, rfl⟩))
    | (refine XW.skip ?_) | (refine XW.seq ?_) | (refine XW.region ?_) | (refine XW.exit ?_) | (refine XW.ret ?_) | (refine XW.block ?_)
    | (refine XW.condT ?_ ?_; (· simp (disch := omega) [*]; done)) | (refine XW.condF ?_ ?_; (· simp (disch := omega) [*]; done)) | fail)
    (apply OW.callF; (· rfl); (· first | exact wanted_none rfl | (refine wanted_on rfl rfl ?_; simp [*]; done)); (· simp [*] <;> rfl); (· exact hb22); (refine (readByRun kind text _ glued (overW ws more) st11 hx11.wf hrow htx2 (by omega)).mono ?_; rintro _ s12 ⟨v13, rfl, ho13, h12⟩; apply callK_ret; (· rfl); (· rfl)))
    have hc12' : s12.cellsAt s8.next = _ := (h12.cells (by omega)).trans hc12
    repeat' (first
    | (refine OW.nil ?_)
    | (apply OW.quiet; (· rfl); (· rfl); (· first | exact wanted_none rfl | (refine wanted_on rfl rfl ?_; simp [*]; done)); (· first | rfl | (simp [isQuiet]; done)); (· simp (disch := omega) [decT, decF, bneT, bneF, beqT, beqF, Go.IntWalk.i64_in, Go.IntWalk.u8_in, *] <;> rfl))
    | (apply OW.off; (· rfl); (· rfl); (· first | (refine wanted_off rfl rfl ?_; simp [*]; done) | (refine wanted_undef rfl rfl ?_; simp [*]; done)))
    | (apply OW.float; (· rfl); (· rfl); (· first | exact wanted_none rfl | (refine wanted_on rfl rfl ?_; simp [*]; done)); (· first | rfl | (simp [isQuiet]; done)); (· first | rfl | (simp [isFloat]; done)); (· simp (disch := omega) [decT, decF, bneT, bneF, beqT, beqF, *] <;> first | rfl | exact ⟨rfl, rfl⟩))
    | (refine XW.skip ?_) | (refine XW.seq ?_) | (refine XW.region ?_) | (refine XW.exit ?_) | (refine XW.ret ?_) | (refine XW.block ?_)
    | (refine XW.condT ?_ ?_; (· simp (disch := omega) [*]; done)) | (refine XW.condF ?_ ?_; (· simp (disch := omega) [*]; done)) | fail)
    (apply OW.callF; (· rfl); (· first | exact wanted_none rfl | (refine wanted_on rfl rfl ?_; simp [*]; done)); (· simp [*] <;> rfl); (· exact hb23); (refine (refReadByRun kind text v glued (overW ws more) s12 h12.wf (hrov.ext h12) htx2 (by omega)).mono ?_; rintro _ s13 ⟨v15, rfl, ho15, h13'⟩; apply callK_ret; (· rfl); (· rfl)))
    repeat' (first
    | (refine OW.nil ?_)
    | (apply OW.quiet; (· rfl); (· rfl); (· first | exact wanted_none rfl | (refine wanted_on rfl rfl ?_; simp [*]; done)); (· first | rfl | (simp [isQuiet]; done)); (· simp (disch := omega) [decT, decF, bneT, bneF, beqT, beqF, Go.IntWalk.i64_in, Go.IntWalk.u8_in, *] <;> rfl))
    | (apply OW.off; (· rfl); (· rfl); (· first | (refine wanted_off rfl rfl ?_; simp [*]; done) | (refine wanted_undef rfl rfl ?_; simp [*]; done)))
    | (apply OW.float; (· rfl); (· rfl); (· first | exact wanted_none rfl | (refine wanted_on rfl rfl ?_; simp [*]; done)); (· first | rfl | (simp [isQuiet]; done)); (· first | rfl | (simp [isFloat]; done)); (· simp (disch := omega) [decT, decF, bneT, bneF, beqT, beqF, *] <;> first | rfl | exact ⟨rfl, rfl⟩))
    | (refine XW.skip ?_) | (refine XW.seq ?_) | (refine XW.region ?_) | (refine XW.exit ?_) | (refine XW.ret ?_) | (refine XW.block ?_)
    | (refine XW.condT ?_ ?_; (· simp (disch := omega) [*]; done)) | (refine XW.condF ?_ ?_; (· simp (disch := omega) [*]; done)) | fail)
    (apply OW.callF; (· rfl); (· first | exact wanted_none rfl | (refine wanted_on rfl rfl ?_; simp [*]; done)); (· simp [*] <;> rfl); (· exact hb24); (refine (bysRun v13 v15 _ _ s13 h13'.wf ((ho13.ext h13').row (flat_length encBy_length _)) (ho15.row (flat_length encBy_length _)) (by omega) (by omega)).mono ?_; rintro _ s13 ⟨rfl, rfl⟩; apply callK_ret; (· rfl); (· rfl)))
    repeat' (first
    | (refine OW.nil ?_)
    | (apply OW.quiet; (· rfl); (· rfl); (· first | exact wanted_none rfl | (refine wanted_on rfl rfl ?_; simp [*]; done)); (· first | rfl | (simp [isQuiet]; done)); (· simp (disch := omega) [decT, decF, bneT, bneF, beqT, beqF, Go.IntWalk.i64_in, Go.IntWalk.u8_in, *] <;> rfl))
    | (apply OW.off; (· rfl); (· rfl); (· first | (refine wanted_off rfl rfl ?_; simp [*]; done) | (refine wanted_undef rfl rfl ?_; simp [*]; done)))
    | (apply OW.float; (· rfl); (· rfl); (· first | exact wanted_none rfl | (refine wanted_on rfl rfl ?_; simp [*]; done)); (· first | rfl | (simp [isQuiet]; done)); (· first | rfl | (simp [isFloat]; done)); (· simp (disch := omega) [decT, decF, bneT, bneF, beqT, beqF, *] <;> first | rfl | exact ⟨rfl, rfl⟩))
    | (refine XW.skip ?_) | (refine XW.seq ?_) | (refine XW.region ?_) | (refine XW.exit ?_) | (refine XW.ret ?_) | (refine XW.block ?_)
    | (refine XW.condT ?_ ?_; (· simp (disch := omega) [*]; done)) | (refine XW.condF ?_ ?_; (· simp (disch := omega) [*]; done)) | fail)
    (apply OW.callF; (· rfl); (· first | exact wanted_none rfl | (refine wanted_on rfl rfl ?_; simp [*]; done)); (· simp [*] <;> rfl); (· exact hb25); (refine (numRun _ s13 h13'.wf).mono ?_; rintro _ s13 ⟨rfl, rfl⟩; apply callK_ret; (· rfl); (· rfl)))
    repeat' (first
    | (refine OW.nil ?_)
    | (apply OW.quiet; (· rfl); (· rfl); (· first | exact wanted_none rfl | (refine wanted_on rfl rfl ?_; simp [*]; done)); (· first | rfl | (simp [isQuiet]; done)); (· simp (disch := omega) [decT, decF, bneT, bneF, beqT, beqF, Go.IntWalk.i64_in, Go.IntWalk.u8_in, *] <;> rfl))
    | (apply OW.off; (· rfl); (· rfl); (· first | (refine wanted_off rfl rfl ?_; simp [*]; done) | (refine wanted_undef rfl rfl ?_; simp [*]; done)))
    | (apply OW.float; (· rfl); (· rfl); (· first | exact wanted_none rfl | (refine wanted_on rfl rfl ?_; simp [*]; done)); (· first | rfl | (simp [isQuiet]; done)); (· first | rfl | (simp [isFloat]; done)); (· simp (disch := omega) [decT, decF, bneT, bneF, beqT, beqF, *] <;> first | rfl | exact ⟨rfl, rfl⟩))
    | (refine XW.skip ?_) | (refine XW.seq ?_) | (refine XW.region ?_) | (refine XW.exit ?_) | (refine XW.ret ?_) | (refine XW.block ?_)
    | (refine XW.condT ?_ ?_; (· simp (disch := omega) [*]; done)) | (refine XW.condF ?_ ?_; (· simp (disch := omega) [*]; done)) | fail)
    exact ⟨rfl, _, by simp; rfl, rfl⟩
  have hle8 : s8.next < st11.next := by omega
  repeat' (first
    | (refine OW.nil ?_)
    | (apply OW.quiet; (· rfl); (· rfl); (· first | exact wanted_none rfl | (refine wanted_on rfl rfl ?_; simp [*]; done)); (· first | rfl | (simp [isQuiet]; done)); (· simp (disch := omega) [decT, decF, bneT, bneF, beqT, beqF, Go.IntWalk.i64_in, Go.IntWalk.u8_in, *] <;> rfl))
    | (apply OW.off; (· rfl); (· rfl); (· first | (refine wanted_off rfl rfl ?_; simp [*]; done) | (refine wanted_undef rfl rfl ?_; simp [*]; done)))
    | (apply OW.float; (· rfl); (· rfl); (· first | exact wanted_none rfl | (refine wanted_on rfl rfl ?_; simp [*]; done)); (· first | rfl | (simp [isQuiet]; done)); (· first | rfl | (simp [isFloat]; done)); (· simp (disch := omega) [decT, decF, bneT, bneF, beqT, beqF, *] <;> first | rfl | exact ⟨rfl, rfl⟩))
    | (refine XW.skip ?_) | (refine XW.seq ?_) | (refine XW.region ?_) | (refine XW.exit ?_) | (refine XW.ret ?_) | (refine XW.block ?_)
    | (refine XW.condT ?_ ?_; (· simp (disch := omega) [*]; done)) | (refine XW.condF ?_ ?_; (· simp (disch := omega) [*]; done)) | fail)
  refine XW.mono (K := fun e fr s => e = .normal ∧ ∃ σ', fr = { tmps := σ', n := 159, defers := [] } ∧ LawJ kind text glued ws more (.slice ma more.length mc) st.next st2.next st10.next (st.next + 1) s8.next id g st k v (mixW ws more (k + 1)) σ' s) ?_ ?_
  · by_cases hm1 : k < more.length
    · obtain ⟨id1, off1, c1, all1, hkv, hid1, hca1, hrd1, hjs1⟩ := (hm.ext hx11).get encW_length (by omega) hm1
      injection hkv with e1 e2 e3
      subst e1
      have hmw : k < (mixW ws more k).length := by rw [mixW_length (by omega)]; exact hlt
      obtain ⟨st', hwr, hon', hext, hnext, hkeep, hgr⟩ := write_own hon hx11.wf (encW_one more[k]) (writeN_flat encW_length hmw more[k] (encW BEHIND))
      rw [mixW_set hlt hm1] at hon'
      have hbl := below_slice (hom _ (List.getElem_mem hm1)).low (show st.next ≤ st11.next by omega)
      repeat' (first
    | (refine OW.nil ?_)
    | (apply OW.quiet; (· rfl); (· rfl); (· first | exact wanted_none rfl | (refine wanted_on rfl rfl ?_; simp [*]; done)); (· first | rfl | (simp [isQuiet]; done)); (· simp (disch := omega) [decT, decF, bneT, bneF, beqT, beqF, Go.IntWalk.i64_in, Go.IntWalk.u8_in, *] <;> rfl))
    | (apply OW.off; (· rfl); (· rfl); (· first | (refine wanted_off rfl rfl ?_; simp [*]; done) | (refine wanted_undef rfl rfl ?_; simp [*]; done)))
    | (apply OW.float; (· rfl); (· rfl); (· first | exact wanted_none rfl | (refine wanted_on rfl rfl ?_; simp [*]; done)); (· first | rfl | (simp [isQuiet]; done)); (· first | rfl | (simp [isFloat]; done)); (· simp (disch := omega) [decT, decF, bneT, bneF, beqT, beqF, *] <;> first | rfl | exact ⟨rfl, rfl⟩))
    | (refine XW.skip ?_) | (refine XW.seq ?_) | (refine XW.region ?_) | (refine XW.exit ?_) | (refine XW.ret ?_) | (refine XW.block ?_)
    | (refine XW.condT ?_ ?_; (· simp (disch := omega) [*]; done)) | (refine XW.condF ?_ ?_; (· simp (disch := omega) [*]; done)) | fail)
      refine XW.draw (is := [0, 1, 2, 3, 4, 5, 6, 7, 8]) (by kernel_rfl) (by kernel_rfl) ?_
      intro b
      repeat' (first
    | (refine DW.nil ?_)
    | (apply DW.quiet; (· rfl); (· rfl); (· rfl); (· first | exact wanted_none rfl | (refine wanted_on rfl rfl ?_; simp [*]; done)); (· first | rfl | (simp [isQuiet]; done)); (· intro s' hag; simp (disch := omega) [hag.cells, decT, decF, bneT, bneF, beqT, beqF, Go.IntWalk.i64_in, Go.IntWalk.u8_in, *] <;> first | rfl | exact ⟨rfl, rfl⟩); intro _)
    | (apply DW.off; (· rfl); (· rfl); (· rfl); (· first | (refine wanted_off rfl rfl ?_; simp [*]; done) | (refine wanted_undef rfl rfl ?_; simp [*]; done)); intro _)
    | (apply DW.float; (· rfl); (· rfl); (· rfl); (· first | exact wanted_none rfl | (refine wanted_on rfl rfl ?_; simp [*]; done)); (· first | rfl | (simp [isQuiet]; done)); (· first | rfl | (simp [isFloat]; done)); (· simp (disch := omega) [decT, decF, bneT, bneF, beqT, beqF, *] <;> first | rfl | exact ⟨rfl, rfl⟩); (· simp (disch := omega) [*]); intro _) | fail)
      (apply DW.storeLast; (· rfl); (· rfl); (· first | exact wanted_none rfl | (refine wanted_on rfl rfl ?_; simp [*]; done)); (· rfl); (· simp [*] <;> first | rfl | exact ⟨rfl, rfl⟩); (· simp [*] <;> first | rfl | exact ⟨rfl, rfl⟩); (· simp [encW]); (· exact hon.lt); (· simp [encW, hbl]); (· exact hwr); (· omega))
      have hb5n := hkeep _ _ (by omega) hb5 fun c hc => by cases hc; omega
      have hb12n := hkeep _ _ (by omega) hb12 fun c hc => by cases hc; omega
      refine ⟨rfl, _, rfl, by simp [*], by simp [*], by simp [*], by simp [*], ?_, hon', hb5n, hb12n, hx11.trans (hext.low (by omega)), by omega⟩
      exact hov.beside hgl10 hid10 hwr hnext hkeep hgr
    · rw [mixW_same hlt hm1]
      repeat' (first
    | (refine OW.nil ?_)
    | (apply OW.quiet; (· rfl); (· rfl); (· first | exact wanted_none rfl | (refine wanted_on rfl rfl ?_; simp [*]; done)); (· first | rfl | (simp [isQuiet]; done)); (· simp (disch := omega) [decT, decF, bneT, bneF, beqT, beqF, Go.IntWalk.i64_in, Go.IntWalk.u8_in, *] <;> rfl))
    | (apply OW.off; (· rfl); (· rfl); (· first | (refine wanted_off rfl rfl ?_; simp [*]; done) | (refine wanted_undef rfl rfl ?_; simp [*]; done)))
    | (apply OW.float; (· rfl); (· rfl); (· first | exact wanted_none rfl | (refine wanted_on rfl rfl ?_; simp [*]; done)); (· first | rfl | (simp [isQuiet]; done)); (· first | rfl | (simp [isFloat]; done)); (· simp (disch := omega) [decT, decF, bneT, bneF, beqT, beqF, *] <;> first | rfl | exact ⟨rfl, rfl⟩))
    | (refine XW.skip ?_) | (refine XW.seq ?_) | (refine XW.region ?_) | (refine XW.exit ?_) | (refine XW.ret ?_) | (refine XW.block ?_)
    | (refine XW.condT ?_ ?_; (· simp (disch := omega) [*]; done)) | (refine XW.condF ?_ ?_; (· simp (disch := omega) [*]; done)) | fail)
      exact ⟨rfl, _, rfl, by simp [*], by simp [*], by simp [*], by simp [*], hov, hon, hb5, hb12, hx11, hle⟩
  rintro e fr s ⟨rfl, σ', rfl, hJ⟩
  obtain ⟨h13, hv1, hv5, hv12, hov, hon, hb5, hb12, hxs, hles⟩ := hJ
  have hlo : k < (overW ws more).length := by rw [overW_length]; exact hlt
  have hlm : k < (mixW ws more (k + 1)).length := by rw [mixW_length (by omega)]; exact hlt
  have hget : (mixW ws more (k + 1))[k] = (overW ws more)[k] := by
    have := mixW_next (more := more) hlt
    rw [List.getElem?_eq_getElem hlm, List.getElem?_eq_getElem hlo] at this
    simpa using this
  have hrd : readN ((mixW ws more (k + 1)).flatMap encW ++ encW BEHIND) (k * 4) 4 = some (encW (overW ws more)[k]) := by
    rw [← hget]
    refine readN_get (fun j hj => ?_) (encW_length _) (by omega)
    rw [List.getElem?_append_left (by rw [flat_length encW_length]; omega)]
    exact flat_get encW_length hlm hj
  have hok : WOk st (overW ws more)[k] := by
    rcases overW_mem (List.getElem_mem hlo) with h | h
    · exact ho _ h
    · exact hom _ h
  have htk : ((overW ws more).take (k + 1)).flatMap encW = ((overW ws more).take k).flatMap encW ++ encW (overW ws more)[k] := by
    rw [List.take_succ_eq_append_getElem hlo]
    simp only [List.flatMap_append, List.flatMap_cons, List.flatMap_nil, List.append_nil]
  generalize (overW ws more)[k] = x at *
  obtain ⟨xk, xt, xa, xn, xc, xg⟩ := x
  replace hrd : readN ((mixW ws more (k + 1)).flatMap encW ++ encW BEHIND) (k * 4) 4 = some [.int .i64 xk, .str xt, .slice xa xn xc, .bool xg] := hrd
  simp only [encW] at htk
  have hbl1 := below_slice hok.low (show st.next ≤ s.next by omega)
  have hbl2 := below_slice hok.low (show st.next ≤ s.next + 1 by omega)
  simp only at hbl1 hbl2
  have hat := cellsAt_of hon.at_
  have hc5 := cellsAt_of hb5
  have hc12 := cellsAt_of hb12
  have hlt3 : (k : Int) < (ws.length : Int) := by omega
  have hne1 : s8.next ≠ s.next := by omega
  have hne2 : st.next + 1 ≠ s.next := by omega
  have hids : id < s.next := hon.lt
  have hne3 : id ≠ s.next := by omega
  obtain ⟨va, vc, rfl⟩ := hov.len
  refine XW.draw (is := [0, 1, 2, 3, 4, 5, 6, 7, 8, 9, 10]) (by kernel_rfl) (by kernel_rfl) ?_
  intro b
  repeat' (first
    | (refine DW.nil ?_)
    | (apply DW.quiet; (· rfl); (· rfl); (· rfl); (· first | exact wanted_none rfl | (refine wanted_on rfl rfl ?_; simp [*]; done)); (· first | rfl | (simp [isQuiet]; done)); (· intro s' hag; simp (disch := omega) [hag.cells, decT, decF, bneT, bneF, beqT, beqF, Go.IntWalk.i64_in, Go.IntWalk.u8_in, *] <;> first | rfl | exact ⟨rfl, rfl⟩); intro _)
    | (apply DW.off; (· rfl); (· rfl); (· rfl); (· first | (refine wanted_off rfl rfl ?_; simp [*]; done) | (refine wanted_undef rfl rfl ?_; simp [*]; done)); intro _)
    | (apply DW.float; (· rfl); (· rfl); (· rfl); (· first | exact wanted_none rfl | (refine wanted_on rfl rfl ?_; simp [*]; done)); (· first | rfl | (simp [isQuiet]; done)); (· first | rfl | (simp [isFloat]; done)); (· simp (disch := omega) [decT, decF, bneT, bneF, beqT, beqF, *] <;> first | rfl | exact ⟨rfl, rfl⟩); (· simp (disch := omega) [*]); intro _) | fail)
  refine DW.float (bl := .cells [.int .i64 xk, .str xt, .slice xa xn xc, .bool xg] 35 (2 * s.next)) (v := .slice (some (s.next, 0)) 1 (some 1)) rfl rfl rfl (wanted_none rfl) (by simp [isQuiet]) (by simp [isFloat]) (by simp (disch := omega) [*]; rfl) (by simp [hbl1]) ?_
  intro _
  (apply DW.append; (· rfl); (· rfl); (· rfl); (· first | exact wanted_none rfl | (refine wanted_on rfl rfl ?_; simp [*]; done)); (· rfl); (· simp [*] <;> rfl); (· simp [*] <;> rfl); (· simp); (· simp <;> rfl); (· simp <;> rfl); (· simp <;> rfl); (· simp [*] <;> rfl); (· exact hov.ext (Ext.alloc hxs.wf (Nat.le_refl _) _)); (· exact hxs.wf.alloc _); (· simp; omega); (· simp); (· omega); (· rw [flat_length encW_length, List.length_take, overW_length]; omega); (· omega); (· simp); (· decide); (· exact (hov.ext (Ext.alloc hxs.wf (Nat.le_refl _) _)).below); (· simp))
  intro st14 id14 g14 hown14 hx14 hn14 hid14 hheap14 _
  have hn14' : st14.next = s.next + 2 := hn14
  have hid14' : id14 = s.next + 1 := hid14
  have hx14' : Ext st10.next s st14 := (Ext.alloc hxs.wf hles _).trans hx14
  have hb5' : st14.heap.get (st.next + 1) = _ := (hx14'.heap _ (by omega)).trans hb5
  have hb12' : st14.heap.get s8.next = _ := (hx14'.heap _ (by omega)).trans hb12
  have hon14 : OwnAt st2.next st14 35 g id _ := hon.frame (by omega) (fun i hi => by rw [hheap14 _ (by simp only [alloc_next]; omega), alloc_get, if_neg (by omega)]) (hx14'.grps _ hgl10)
  have hx15 := hxs.trans (hx14'.low (show st.next ≤ st10.next by omega))
  repeat' (first
    | (refine DW.nil ?_)
    | (apply DW.quiet; (· rfl); (· rfl); (· rfl); (· first | exact wanted_none rfl | (refine wanted_on rfl rfl ?_; simp [*]; done)); (· first | rfl | (simp [isQuiet]; done)); (· intro s' hag; simp (disch := omega) [hag.cells, decT, decF, bneT, bneF, beqT, beqF, Go.IntWalk.i64_in, Go.IntWalk.u8_in, *] <;> first | rfl | exact ⟨rfl, rfl⟩); intro _)
    | (apply DW.off; (· rfl); (· rfl); (· rfl); (· first | (refine wanted_off rfl rfl ?_; simp [*]; done) | (refine wanted_undef rfl rfl ?_; simp [*]; done)); intro _)
    | (apply DW.float; (· rfl); (· rfl); (· rfl); (· first | exact wanted_none rfl | (refine wanted_on rfl rfl ?_; simp [*]; done)); (· first | rfl | (simp [isQuiet]; done)); (· first | rfl | (simp [isFloat]; done)); (· simp (disch := omega) [decT, decF, bneT, bneF, beqT, beqF, *] <;> first | rfl | exact ⟨rfl, rfl⟩); (· simp (disch := omega) [*]); intro _) | fail)
  have hwr := write_box (off := 2) (vs := [.slice (some (id14, 0)) (k + 1) none]) (cs' := [.int .i64 kind, .str text, .slice (some (id14, 0)) (k + 1) none, .bool glued]) hx14.wf hb12' rfl rfl
  refine DW.storeLast (id := s8.next) (off := 2) (v := .slice (some (id14, 0)) (k + 1) none) rfl rfl (wanted_none rfl) rfl (by simp) (by simp) (by simp) (by omega) (decide_eq_true (show id14 < st14.next by omega)) hwr (Nat.le_refl _) ?_
  repeat' (first
    | (refine OW.nil ?_)
    | (apply OW.quiet; (· rfl); (· rfl); (· first | exact wanted_none rfl | (refine wanted_on rfl rfl ?_; simp [*]; done)); (· first | rfl | (simp [isQuiet]; done)); (· simp (disch := omega) [decT, decF, bneT, bneF, beqT, beqF, Go.IntWalk.i64_in, Go.IntWalk.u8_in, *] <;> rfl))
    | (apply OW.off; (· rfl); (· rfl); (· first | (refine wanted_off rfl rfl ?_; simp [*]; done) | (refine wanted_undef rfl rfl ?_; simp [*]; done)))
    | (apply OW.float; (· rfl); (· rfl); (· first | exact wanted_none rfl | (refine wanted_on rfl rfl ?_; simp [*]; done)); (· first | rfl | (simp [isQuiet]; done)); (· first | rfl | (simp [isFloat]; done)); (· simp (disch := omega) [decT, decF, bneT, bneF, beqT, beqF, *] <;> first | rfl | exact ⟨rfl, rfl⟩))
    | (refine XW.skip ?_) | (refine XW.seq ?_) | (refine XW.region ?_) | (refine XW.exit ?_) | (refine XW.ret ?_) | (refine XW.block ?_)
    | (refine XW.condT ?_ ?_; (· simp (disch := omega) [*]; done)) | (refine XW.condF ?_ ?_; (· simp (disch := omega) [*]; done)) | fail)
  have hw14 := hx14.wf
  have hne5 : st.next + 1 ≠ s8.next := by omega
  refine ⟨rfl, rfl, d2 - 1, by omega, k + 1, .slice (some (id14, 0)) (k + 1) none, by omega, by simp, by simp [*], by simp [*], by simp [*], ?_, hon14.put hb12' fun c hc => by cases hc; omega, by simp [hne5, hb5'], by simp, hx15.trans (Ext.set hw14 (by omega) _), by show st10.next ≤ st14.next; omega⟩
  have hov' := (hown14.own (n := k + 1)).put (b := .cells [.int .i64 kind, .str text, .slice (some (id14, 0)) (k + 1) none, .bool glued] 35 (2 * s8.next)) hb12'
  rw [htk]
  exact hov'
end Go.Proofs.Tryz
