/- What functions of the program give is shown by walks; each theorem names its conditions. -/
import Derived.Test.YtkbielcbkpglhaaGreatDoorC2
set_option linter.unusedVariables false
set_option linter.unusedSimpArgs false
set_option maxRecDepth 10000
namespace Go.Proofs.Tryz
open Go.Ev
attribute [local irreducible] Program.underlying Tables.info?
/-! ### Sort keys that are read, by the document -/
structure RefI (B : Nat) (st0 : St) (ws : List WordV) (cs : List AV) (d : Nat) (σ : Trie AV) (st : St) : Prop where
  k : ∃ (k : Nat) (t : Bool) (l : List ByV) (v : AV), k + d = ws.length ∧ l.length ≤ k ∧ σ.get 6 = some (.int .i64 k) ∧ σ.get 5 = some (.bool t) ∧ σ.get 4 = some v ∧ Own (B + 1) st 49 v l.length (l.flatMap encBy) ∧ readGo ws false [] = readGo (ws.drop k) t l ∧ (k = 0 ∨ l.length ≠ 0 ∨ t = true)
  v1 : σ.get 1 = some (.ptr (some (B, 0)))
  box : st.cellsAt B = some cs
  x : Ext (B + 1) (st0.alloc (.cells cs 35 (2 * B))) st
set_option maxHeartbeats 4000000 in
/-- postbagref8.ReadBy -/
theorem refReadByRun (kind : Int) (text : List UInt8) (kv : AV) (glued : Bool) (ws : List WordV) (st : St) (hw : WF st) (hr : Row st 4 kv ws.length (ws.flatMap encW)) (ht : ∀ w ∈ ws, w.text.length ≤ 2 ^ 20) (hn : ws.length ≤ 2 ^ 20) :
    CW E 23 [.agg [.int .i64 kind, .str text, kv, .bool glued]] st (fun o s' => ∃ v, o = .ret (.tuple [v, .int .i64 (readAll kind ws).2]) ∧ Own st.next s' 49 v (readAll kind ws).1.length ((readAll kind ws).1.flatMap encBy) ∧ Ext st.next st s') := by
  obtain ⟨ka, kc, rfl⟩ := hr.len
  refine CW.enter (n0 := 70) (rs := [.tmp 2, .tmp 3]) fn23 rfl rfl rfl rfl rfl ?_
  have hxa : Ext st.next st (st.alloc (.cells [.int .i64 kind, .str text, .slice ka ws.length kc, .bool glued] 35 (2 * st.next))) := Ext.alloc hw (Nat.le_refl _) _
  by_cases h14 : ws.length > 14
  · repeat' (first
    | (refine OW.nil ?_)
    | (apply OW.quiet; (· rfl); (· rfl); (· first | exact wanted_none rfl | (refine wanted_on rfl rfl ?_; simp [*]; done)); (· first | rfl | (simp [isQuiet]; done)); (· simp (disch := omega) [decT, decF, bneT, bneF, beqT, beqF, Go.IntWalk.i64_in, Go.IntWalk.u8_in, *] <;> rfl))
    | (apply OW.off; (· rfl); (· rfl); (· first | (refine wanted_off rfl rfl ?_; simp [*]; done) | (refine wanted_undef rfl rfl ?_; simp [*]; done)))
    | (apply OW.float; (· rfl); (· rfl); (· first | exact wanted_none rfl | (refine wanted_on rfl rfl ?_; simp [*]; done)); (· first | rfl | (simp [isQuiet]; done)); (· first | rfl | (simp [isFloat]; done)); (· simp (disch := omega) [decT, decF, bneT, bneF, beqT, beqF, *] <;> first | rfl | exact ⟨rfl, rfl⟩))
    | (refine XW.skip ?_) | (refine XW.seq ?_) | (refine XW.region ?_) | (refine XW.exit ?_) | (refine XW.ret ?_) | (refine XW.block ?_)
    | (refine XW.condT ?_ ?_; (· simp (disch := omega) [*]; done)) | (refine XW.condF ?_ ?_; (· simp (disch := omega) [*]; done)) | fail)
    have e : readAll kind ws = ([], 2) := by simp [readAll, h14]
    rw [e]
    exact ⟨rfl, _, by simp; rfl, _, rfl, Own.nil, hxa⟩
  by_cases h4 : kind = 4
  rotate_right
  · repeat' (first
    | (refine OW.nil ?_)
    | (apply OW.quiet; (· rfl); (· rfl); (· first | exact wanted_none rfl | (refine wanted_on rfl rfl ?_; simp [*]; done)); (· first | rfl | (simp [isQuiet]; done)); (· simp (disch := omega) [decT, decF, bneT, bneF, beqT, beqF, Go.IntWalk.i64_in, Go.IntWalk.u8_in, *] <;> rfl))
    | (apply OW.off; (· rfl); (· rfl); (· first | (refine wanted_off rfl rfl ?_; simp [*]; done) | (refine wanted_undef rfl rfl ?_; simp [*]; done)))
    | (apply OW.float; (· rfl); (· rfl); (· first | exact wanted_none rfl | (refine wanted_on rfl rfl ?_; simp [*]; done)); (· first | rfl | (simp [isQuiet]; done)); (· first | rfl | (simp [isFloat]; done)); (· simp (disch := omega) [decT, decF, bneT, bneF, beqT, beqF, *] <;> first | rfl | exact ⟨rfl, rfl⟩))
    | (refine XW.skip ?_) | (refine XW.seq ?_) | (refine XW.region ?_) | (refine XW.exit ?_) | (refine XW.ret ?_) | (refine XW.block ?_)
    | (refine XW.condT ?_ ?_; (· simp (disch := omega) [*]; done)) | (refine XW.condF ?_ ?_; (· simp (disch := omega) [*]; done)) | fail)
    have e : readAll kind ws = ([], 80) := by simp [readAll, h14, h4]
    rw [e]
    exact ⟨rfl, _, by simp; rfl, _, rfl, Own.nil, hxa⟩
  subst h4
  have eAll : readAll 4 ws = readEnd (readGo ws false []) := by simp [readAll, h14]
  rw [eAll]
  by_cases h0 : ws.length = 0
  · obtain rfl := List.eq_nil_of_length_eq_zero h0
    repeat' (first
    | (refine OW.nil ?_)
    | (apply OW.quiet; (· rfl); (· rfl); (· first | exact wanted_none rfl | (refine wanted_on rfl rfl ?_; simp [*]; done)); (· first | rfl | (simp [isQuiet]; done)); (· simp (disch := omega) [decT, decF, bneT, bneF, beqT, beqF, Go.IntWalk.i64_in, Go.IntWalk.u8_in, *] <;> rfl))
    | (apply OW.off; (· rfl); (· rfl); (· first | (refine wanted_off rfl rfl ?_; simp [*]; done) | (refine wanted_undef rfl rfl ?_; simp [*]; done)))
    | (apply OW.float; (· rfl); (· rfl); (· first | exact wanted_none rfl | (refine wanted_on rfl rfl ?_; simp [*]; done)); (· first | rfl | (simp [isQuiet]; done)); (· first | rfl | (simp [isFloat]; done)); (· simp (disch := omega) [decT, decF, bneT, bneF, beqT, beqF, *] <;> first | rfl | exact ⟨rfl, rfl⟩))
    | (refine XW.skip ?_) | (refine XW.seq ?_) | (refine XW.region ?_) | (refine XW.exit ?_) | (refine XW.ret ?_) | (refine XW.block ?_)
    | (refine XW.condT ?_ ?_; (· simp (disch := omega) [*]; done)) | (refine XW.condF ?_ ?_; (· simp (disch := omega) [*]; done)) | fail)
    exact ⟨rfl, _, by simp; rfl, _, rfl, Own.nil, hxa⟩
  repeat' (first
    | (refine OW.nil ?_)
    | (apply OW.quiet; (· rfl); (· rfl); (· first | exact wanted_none rfl | (refine wanted_on rfl rfl ?_; simp [*]; done)); (· first | rfl | (simp [isQuiet]; done)); (· simp (disch := omega) [decT, decF, bneT, bneF, beqT, beqF, Go.IntWalk.i64_in, Go.IntWalk.u8_in, *] <;> rfl))
    | (apply OW.off; (· rfl); (· rfl); (· first | (refine wanted_off rfl rfl ?_; simp [*]; done) | (refine wanted_undef rfl rfl ?_; simp [*]; done)))
    | (apply OW.float; (· rfl); (· rfl); (· first | exact wanted_none rfl | (refine wanted_on rfl rfl ?_; simp [*]; done)); (· first | rfl | (simp [isQuiet]; done)); (· first | rfl | (simp [isFloat]; done)); (· simp (disch := omega) [decT, decF, bneT, bneF, beqT, beqF, *] <;> first | rfl | exact ⟨rfl, rfl⟩))
    | (refine XW.skip ?_) | (refine XW.seq ?_) | (refine XW.region ?_) | (refine XW.exit ?_) | (refine XW.ret ?_) | (refine XW.block ?_)
    | (refine XW.condT ?_ ?_; (· simp (disch := omega) [*]; done)) | (refine XW.condF ?_ ?_; (· simp (disch := omega) [*]; done)) | fail)
  refine XW.rounds (RefI st.next st ws [.int .i64 4, .str text, .slice ka ws.length kc, .bool glued]) ?round ws.length _ _ ?start
  case start => exact ⟨⟨0, false, [], _, by omega, Nat.le_refl _, by simp, by simp, by simp, Own.nil, rfl, .inl rfl⟩, by simp, by simp, Ext.refl (hw.alloc _)⟩
  intro d σ st1 hI
  obtain ⟨⟨k, t, l, v, hk, hl, h6, h5, h4, ho, hgo, hne0⟩, h1v, hbox, hx⟩ := hI
  have hw1 := hx.wf
  have hB : st.next + 1 ≤ st1.next := hx.le
  have hxx : Ext st.next st st1 := hxa.trans (hx.low (Nat.le_succ _))
  by_cases hlt : k < ws.length
  rotate_right
  · obtain rfl : k = ws.length := by omega
    rw [List.drop_of_length_le (Nat.le_refl _)] at hgo
    simp only [readGo] at hgo
    rw [hgo]
    obtain ⟨va, vc, rfl⟩ := ho.len
    cases t
    · have hl0 : l.length ≠ 0 := by rcases hne0 with h | h | h; exact absurd h h0; exact h; cases h
      have hl0' : ¬ l = [] := fun h => hl0 (by rw [h]; rfl)
      by_cases hl7 : l.length > 7
      · have e : readEnd (some (l, false)) = ([], 41) := by simp [readEnd, hl0', hl7]
        rw [e]
        repeat' (first
    | (refine OW.nil ?_)
    | (apply OW.quiet; (· rfl); (· rfl); (· first | exact wanted_none rfl | (refine wanted_on rfl rfl ?_; simp [*]; done)); (· first | rfl | (simp [isQuiet]; done)); (· simp (disch := omega) [decT, decF, bneT, bneF, beqT, beqF, Go.IntWalk.i64_in, Go.IntWalk.u8_in, *] <;> rfl))
    | (apply OW.off; (· rfl); (· rfl); (· first | (refine wanted_off rfl rfl ?_; simp [*]; done) | (refine wanted_undef rfl rfl ?_; simp [*]; done)))
    | (apply OW.float; (· rfl); (· rfl); (· first | exact wanted_none rfl | (refine wanted_on rfl rfl ?_; simp [*]; done)); (· first | rfl | (simp [isQuiet]; done)); (· first | rfl | (simp [isFloat]; done)); (· simp (disch := omega) [decT, decF, bneT, bneF, beqT, beqF, *] <;> first | rfl | exact ⟨rfl, rfl⟩))
    | (refine XW.skip ?_) | (refine XW.seq ?_) | (refine XW.region ?_) | (refine XW.exit ?_) | (refine XW.ret ?_) | (refine XW.block ?_)
    | (refine XW.condT ?_ ?_; (· simp (disch := omega) [*]; done)) | (refine XW.condF ?_ ?_; (· simp (disch := omega) [*]; done)) | fail)
        exact ⟨rfl, _, by simp; rfl, _, rfl, Own.nil, hxx⟩
      · have e : readEnd (some (l, false)) = (l, 0) := by simp [readEnd, hl0', hl7]
        rw [e]
        repeat' (first
    | (refine OW.nil ?_)
    | (apply OW.quiet; (· rfl); (· rfl); (· first | exact wanted_none rfl | (refine wanted_on rfl rfl ?_; simp [*]; done)); (· first | rfl | (simp [isQuiet]; done)); (· simp (disch := omega) [decT, decF, bneT, bneF, beqT, beqF, Go.IntWalk.i64_in, Go.IntWalk.u8_in, *] <;> rfl))
    | (apply OW.off; (· rfl); (· rfl); (· first | (refine wanted_off rfl rfl ?_; simp [*]; done) | (refine wanted_undef rfl rfl ?_; simp [*]; done)))
    | (apply OW.float; (· rfl); (· rfl); (· first | exact wanted_none rfl | (refine wanted_on rfl rfl ?_; simp [*]; done)); (· first | rfl | (simp [isQuiet]; done)); (· first | rfl | (simp [isFloat]; done)); (· simp (disch := omega) [decT, decF, bneT, bneF, beqT, beqF, *] <;> first | rfl | exact ⟨rfl, rfl⟩))
    | (refine XW.skip ?_) | (refine XW.seq ?_) | (refine XW.region ?_) | (refine XW.exit ?_) | (refine XW.ret ?_) | (refine XW.block ?_)
    | (refine XW.condT ?_ ?_; (· simp (disch := omega) [*]; done)) | (refine XW.condF ?_ ?_; (· simp (disch := omega) [*]; done)) | fail)
        exact ⟨rfl, _, by simp; rfl, _, rfl, ho.low' (Nat.le_succ _), hxx⟩
    · have e : readEnd (some (l, true)) = ([], 80) := by simp [readEnd]
      rw [e]
      repeat' (first
    | (refine OW.nil ?_)
    | (apply OW.quiet; (· rfl); (· rfl); (· first | exact wanted_none rfl | (refine wanted_on rfl rfl ?_; simp [*]; done)); (· first | rfl | (simp [isQuiet]; done)); (· simp (disch := omega) [decT, decF, bneT, bneF, beqT, beqF, Go.IntWalk.i64_in, Go.IntWalk.u8_in, *] <;> rfl))
    | (apply OW.off; (· rfl); (· rfl); (· first | (refine wanted_off rfl rfl ?_; simp [*]; done) | (refine wanted_undef rfl rfl ?_; simp [*]; done)))
    | (apply OW.float; (· rfl); (· rfl); (· first | exact wanted_none rfl | (refine wanted_on rfl rfl ?_; simp [*]; done)); (· first | rfl | (simp [isQuiet]; done)); (· first | rfl | (simp [isFloat]; done)); (· simp (disch := omega) [decT, decF, bneT, bneF, beqT, beqF, *] <;> first | rfl | exact ⟨rfl, rfl⟩))
    | (refine XW.skip ?_) | (refine XW.seq ?_) | (refine XW.region ?_) | (refine XW.exit ?_) | (refine XW.ret ?_) | (refine XW.block ?_)
    | (refine XW.condT ?_ ?_; (· simp (disch := omega) [*]; done)) | (refine XW.condF ?_ ?_; (· simp (disch := omega) [*]; done)) | fail)
      exact ⟨rfl, _, by simp; rfl, _, rfl, Own.nil, hxx⟩
  obtain ⟨id, off, c, all, hkv, hid, hca, hrd, hjs⟩ := hr.get encW_length (by omega) hlt
  injection hkv with e1 e2 e3
  subst e1
  have hca1 : st1.cellsAt id = some all := by rw [hxx.cells hid]; exact hca
  have hne : id ≠ st1.next := by omega
  have hne2 : st.next ≠ st1.next := by omega
  have htx := ht _ (List.getElem_mem hlt)
  have hx2 : ∀ b b', Ext (st.next + 1) (st.alloc (.cells [.int .i64 4, .str text, .slice (some (id, off)) ws.length kc, .bool glued] 35 (2 * st.next))) { heap := (st1.alloc b).heap.put st1.next b', grps := (st1.alloc b).grps, next := (st1.alloc b).next } := fun b b' => (hx.trans (Ext.alloc hw1 hB _)).trans (Ext.set (hw1.alloc _) hB _)
  have hxx2 : ∀ b b', Ext st.next st { heap := (st1.alloc b).heap.put st1.next b', grps := (st1.alloc b).grps, next := (st1.alloc b).next } := fun b b' => hxa.trans ((hx2 b b').low (Nat.le_succ _))
  rw [List.drop_eq_getElem_cons hlt, readGo] at hgo
  generalize ws[k] = x at *
  obtain ⟨xk, xt, xa, xn, xc, xg⟩ := x
  simp only [encW] at hrd
  simp only at htx
  by_cases hbad : badW ⟨xk, xt, xa, xn, xc, xg⟩ = true
  · rw [if_pos hbad] at hgo
    have e : readEnd none = ([], 80) := rfl
    rw [hgo, e]
    by_cases h1 : xk = 1
    · by_cases hn0 : xn > 0
      · repeat' (first
    | (refine OW.nil ?_)
    | (apply OW.quiet; (· rfl); (· rfl); (· first | exact wanted_none rfl | (refine wanted_on rfl rfl ?_; simp [*]; done)); (· first | rfl | (simp [isQuiet]; done)); (· simp (disch := omega) [decT, decF, bneT, bneF, beqT, beqF, Go.IntWalk.i64_in, Go.IntWalk.u8_in, *] <;> rfl))
    | (apply OW.off; (· rfl); (· rfl); (· first | (refine wanted_off rfl rfl ?_; simp [*]; done) | (refine wanted_undef rfl rfl ?_; simp [*]; done)))
    | (apply OW.float; (· rfl); (· rfl); (· first | exact wanted_none rfl | (refine wanted_on rfl rfl ?_; simp [*]; done)); (· first | rfl | (simp [isQuiet]; done)); (· first | rfl | (simp [isFloat]; done)); (· simp (disch := omega) [decT, decF, bneT, bneF, beqT, beqF, *] <;> first | rfl | exact ⟨rfl, rfl⟩))
    | (refine XW.skip ?_) | (refine XW.seq ?_) | (refine XW.region ?_) | (refine XW.exit ?_) | (refine XW.ret ?_) | (refine XW.block ?_)
    | (refine XW.condT ?_ ?_; (· simp (disch := omega) [*]; done)) | (refine XW.condF ?_ ?_; (· simp (disch := omega) [*]; done)) | fail)
        (apply OW.store; (· rfl); (· first | exact wanted_none rfl | (refine wanted_on rfl rfl ?_; simp [*]; done)); (· rfl); (· simp [*] <;> first | rfl | exact ⟨rfl, rfl⟩); (· simp [*] <;> rfl); (· simp); (· simp); (· simp [*] <;> first | rfl | exact ⟨rfl, rfl, rfl⟩); (· exact (hw1.alloc _).even _); (· first | rfl | (simp <;> rfl)))
        repeat' (first
    | (refine OW.nil ?_)
    | (apply OW.quiet; (· rfl); (· rfl); (· first | exact wanted_none rfl | (refine wanted_on rfl rfl ?_; simp [*]; done)); (· first | rfl | (simp [isQuiet]; done)); (· simp (disch := omega) [decT, decF, bneT, bneF, beqT, beqF, Go.IntWalk.i64_in, Go.IntWalk.u8_in, *] <;> rfl))
    | (apply OW.off; (· rfl); (· rfl); (· first | (refine wanted_off rfl rfl ?_; simp [*]; done) | (refine wanted_undef rfl rfl ?_; simp [*]; done)))
    | (apply OW.float; (· rfl); (· rfl); (· first | exact wanted_none rfl | (refine wanted_on rfl rfl ?_; simp [*]; done)); (· first | rfl | (simp [isQuiet]; done)); (· first | rfl | (simp [isFloat]; done)); (· simp (disch := omega) [decT, decF, bneT, bneF, beqT, beqF, *] <;> first | rfl | exact ⟨rfl, rfl⟩))
    | (refine XW.skip ?_) | (refine XW.seq ?_) | (refine XW.region ?_) | (refine XW.exit ?_) | (refine XW.ret ?_) | (refine XW.block ?_)
    | (refine XW.condT ?_ ?_; (· simp (disch := omega) [*]; done)) | (refine XW.condF ?_ ?_; (· simp (disch := omega) [*]; done)) | fail)
        exact ⟨rfl, _, by simp; rfl, _, rfl, Own.nil, hxx2 _ _⟩
      · obtain rfl : xg = true := by simpa [badW, h1, hn0] using hbad
        repeat' (first
    | (refine OW.nil ?_)
    | (apply OW.quiet; (· rfl); (· rfl); (· first | exact wanted_none rfl | (refine wanted_on rfl rfl ?_; simp [*]; done)); (· first | rfl | (simp [isQuiet]; done)); (· simp (disch := omega) [decT, decF, bneT, bneF, beqT, beqF, Go.IntWalk.i64_in, Go.IntWalk.u8_in, *] <;> rfl))
    | (apply OW.off; (· rfl); (· rfl); (· first | (refine wanted_off rfl rfl ?_; simp [*]; done) | (refine wanted_undef rfl rfl ?_; simp [*]; done)))
    | (apply OW.float; (· rfl); (· rfl); (· first | exact wanted_none rfl | (refine wanted_on rfl rfl ?_; simp [*]; done)); (· first | rfl | (simp [isQuiet]; done)); (· first | rfl | (simp [isFloat]; done)); (· simp (disch := omega) [decT, decF, bneT, bneF, beqT, beqF, *] <;> first | rfl | exact ⟨rfl, rfl⟩))
    | (refine XW.skip ?_) | (refine XW.seq ?_) | (refine XW.region ?_) | (refine XW.exit ?_) | (refine XW.ret ?_) | (refine XW.block ?_)
    | (refine XW.condT ?_ ?_; (· simp (disch := omega) [*]; done)) | (refine XW.condF ?_ ?_; (· simp (disch := omega) [*]; done)) | fail)
        (apply OW.store; (· rfl); (· first | exact wanted_none rfl | (refine wanted_on rfl rfl ?_; simp [*]; done)); (· rfl); (· simp [*] <;> first | rfl | exact ⟨rfl, rfl⟩); (· simp [*] <;> rfl); (· simp); (· simp); (· simp [*] <;> first | rfl | exact ⟨rfl, rfl, rfl⟩); (· exact (hw1.alloc _).even _); (· first | rfl | (simp <;> rfl)))
        repeat' (first
    | (refine OW.nil ?_)
    | (apply OW.quiet; (· rfl); (· rfl); (· first | exact wanted_none rfl | (refine wanted_on rfl rfl ?_; simp [*]; done)); (· first | rfl | (simp [isQuiet]; done)); (· simp (disch := omega) [decT, decF, bneT, bneF, beqT, beqF, Go.IntWalk.i64_in, Go.IntWalk.u8_in, *] <;> rfl))
    | (apply OW.off; (· rfl); (· rfl); (· first | (refine wanted_off rfl rfl ?_; simp [*]; done) | (refine wanted_undef rfl rfl ?_; simp [*]; done)))
    | (apply OW.float; (· rfl); (· rfl); (· first | exact wanted_none rfl | (refine wanted_on rfl rfl ?_; simp [*]; done)); (· first | rfl | (simp [isQuiet]; done)); (· first | rfl | (simp [isFloat]; done)); (· simp (disch := omega) [decT, decF, bneT, bneF, beqT, beqF, *] <;> first | rfl | exact ⟨rfl, rfl⟩))
    | (refine XW.skip ?_) | (refine XW.seq ?_) | (refine XW.region ?_) | (refine XW.exit ?_) | (refine XW.ret ?_) | (refine XW.block ?_)
    | (refine XW.condT ?_ ?_; (· simp (disch := omega) [*]; done)) | (refine XW.condF ?_ ?_; (· simp (disch := omega) [*]; done)) | fail)
        exact ⟨rfl, _, by simp; rfl, _, rfl, Own.nil, hxx2 _ _⟩
    · repeat' (first
    | (refine OW.nil ?_)
    | (apply OW.quiet; (· rfl); (· rfl); (· first | exact wanted_none rfl | (refine wanted_on rfl rfl ?_; simp [*]; done)); (· first | rfl | (simp [isQuiet]; done)); (· simp (disch := omega) [decT, decF, bneT, bneF, beqT, beqF, Go.IntWalk.i64_in, Go.IntWalk.u8_in, *] <;> rfl))
    | (apply OW.off; (· rfl); (· rfl); (· first | (refine wanted_off rfl rfl ?_; simp [*]; done) | (refine wanted_undef rfl rfl ?_; simp [*]; done)))
    | (apply OW.float; (· rfl); (· rfl); (· first | exact wanted_none rfl | (refine wanted_on rfl rfl ?_; simp [*]; done)); (· first | rfl | (simp [isQuiet]; done)); (· first | rfl | (simp [isFloat]; done)); (· simp (disch := omega) [decT, decF, bneT, bneF, beqT, beqF, *] <;> first | rfl | exact ⟨rfl, rfl⟩))
    | (refine XW.skip ?_) | (refine XW.seq ?_) | (refine XW.region ?_) | (refine XW.exit ?_) | (refine XW.ret ?_) | (refine XW.block ?_)
    | (refine XW.condT ?_ ?_; (· simp (disch := omega) [*]; done)) | (refine XW.condF ?_ ?_; (· simp (disch := omega) [*]; done)) | fail)
      (apply OW.store; (· rfl); (· first | exact wanted_none rfl | (refine wanted_on rfl rfl ?_; simp [*]; done)); (· rfl); (· simp [*] <;> first | rfl | exact ⟨rfl, rfl⟩); (· simp [*] <;> rfl); (· simp); (· simp); (· simp [*] <;> first | rfl | exact ⟨rfl, rfl, rfl⟩); (· exact (hw1.alloc _).even _); (· first | rfl | (simp <;> rfl)))
      repeat' (first
    | (refine OW.nil ?_)
    | (apply OW.quiet; (· rfl); (· rfl); (· first | exact wanted_none rfl | (refine wanted_on rfl rfl ?_; simp [*]; done)); (· first | rfl | (simp [isQuiet]; done)); (· simp (disch := omega) [decT, decF, bneT, bneF, beqT, beqF, Go.IntWalk.i64_in, Go.IntWalk.u8_in, *] <;> rfl))
    | (apply OW.off; (· rfl); (· rfl); (· first | (refine wanted_off rfl rfl ?_; simp [*]; done) | (refine wanted_undef rfl rfl ?_; simp [*]; done)))
    | (apply OW.float; (· rfl); (· rfl); (· first | exact wanted_none rfl | (refine wanted_on rfl rfl ?_; simp [*]; done)); (· first | rfl | (simp [isQuiet]; done)); (· first | rfl | (simp [isFloat]; done)); (· simp (disch := omega) [decT, decF, bneT, bneF, beqT, beqF, *] <;> first | rfl | exact ⟨rfl, rfl⟩))
    | (refine XW.skip ?_) | (refine XW.seq ?_) | (refine XW.region ?_) | (refine XW.exit ?_) | (refine XW.ret ?_) | (refine XW.block ?_)
    | (refine XW.condT ?_ ?_; (· simp (disch := omega) [*]; done)) | (refine XW.condF ?_ ?_; (· simp (disch := omega) [*]; done)) | fail)
      exact ⟨rfl, _, by simp; rfl, _, rfl, Own.nil, hxx2 _ _⟩
  rw [if_neg hbad] at hgo
  obtain ⟨⟨h1, rfl⟩, hn0⟩ : (xk = 1 ∧ xg = false) ∧ ¬ xn > 0 := by simpa [badW] using hbad
  subst h1
  have hw2 := fun b b' => (hx2 b b').wf
  repeat' (first
    | (refine OW.nil ?_)
    | (apply OW.quiet; (· rfl); (· rfl); (· first | exact wanted_none rfl | (refine wanted_on rfl rfl ?_; simp [*]; done)); (· first | rfl | (simp [isQuiet]; done)); (· simp (disch := omega) [decT, decF, bneT, bneF, beqT, beqF, Go.IntWalk.i64_in, Go.IntWalk.u8_in, *] <;> rfl))
    | (apply OW.off; (· rfl); (· rfl); (· first | (refine wanted_off rfl rfl ?_; simp [*]; done) | (refine wanted_undef rfl rfl ?_; simp [*]; done)))
    | (apply OW.float; (· rfl); (· rfl); (· first | exact wanted_none rfl | (refine wanted_on rfl rfl ?_; simp [*]; done)); (· first | rfl | (simp [isQuiet]; done)); (· first | rfl | (simp [isFloat]; done)); (· simp (disch := omega) [decT, decF, bneT, bneF, beqT, beqF, *] <;> first | rfl | exact ⟨rfl, rfl⟩))
    | (refine XW.skip ?_) | (refine XW.seq ?_) | (refine XW.region ?_) | (refine XW.exit ?_) | (refine XW.ret ?_) | (refine XW.block ?_)
    | (refine XW.condT ?_ ?_; (· simp (disch := omega) [*]; done)) | (refine XW.condF ?_ ?_; (· simp (disch := omega) [*]; done)) | fail)
  (apply OW.store; (· rfl); (· first | exact wanted_none rfl | (refine wanted_on rfl rfl ?_; simp [*]; done)); (· rfl); (· simp [*] <;> first | rfl | exact ⟨rfl, rfl⟩); (· simp [*] <;> rfl); (· simp); (· simp); (· simp [*] <;> first | rfl | exact ⟨rfl, rfl, rfl⟩); (· exact (hw1.alloc _).even _); (· first | rfl | (simp <;> rfl)))
  repeat' (first
    | (refine OW.nil ?_)
    | (apply OW.quiet; (· rfl); (· rfl); (· first | exact wanted_none rfl | (refine wanted_on rfl rfl ?_; simp [*]; done)); (· first | rfl | (simp [isQuiet]; done)); (· simp (disch := omega) [decT, decF, bneT, bneF, beqT, beqF, Go.IntWalk.i64_in, Go.IntWalk.u8_in, *] <;> rfl))
    | (apply OW.off; (· rfl); (· rfl); (· first | (refine wanted_off rfl rfl ?_; simp [*]; done) | (refine wanted_undef rfl rfl ?_; simp [*]; done)))
    | (apply OW.float; (· rfl); (· rfl); (· first | exact wanted_none rfl | (refine wanted_on rfl rfl ?_; simp [*]; done)); (· first | rfl | (simp [isQuiet]; done)); (· first | rfl | (simp [isFloat]; done)); (· simp (disch := omega) [decT, decF, bneT, bneF, beqT, beqF, *] <;> first | rfl | exact ⟨rfl, rfl⟩))
    | (refine XW.skip ?_) | (refine XW.seq ?_) | (refine XW.region ?_) | (refine XW.exit ?_) | (refine XW.ret ?_) | (refine XW.block ?_)
    | (refine XW.condT ?_ ?_; (· simp (disch := omega) [*]; done)) | (refine XW.condF ?_ ?_; (· simp (disch := omega) [*]; done)) | fail)
  (apply OW.callF; (· rfl); (· first | exact wanted_none rfl | (refine wanted_on rfl rfl ?_; simp [*]; done)); (· simp [*] <;> rfl); (· exact hb80); (refine (refSame xt REV _ (hw2 _ _) htx (by decide)).mono ?_; rintro _ s2 ⟨rfl, h2⟩; apply callK_ret; (· rfl); (· rfl)))
  have hx3' := (hx2 _ _).andThen (by simp; omega) h2
  have hx3 := hxa.trans (hx3'.low (Nat.le_succ _))
  have ho2 := ho.ext (((Ext.alloc hw1 (Nat.le_refl _) _).trans (Ext.set (hw1.alloc _) (Nat.le_refl _) _)).andThen (by simp) h2)
  have hc2 : s2.cellsAt st1.next = some [.int .i64 1, .str xt, .slice xa xn xc, .bool false] := by rw [h2.cells (by simp)]; simp
  have hbox2 : s2.cellsAt st.next = some [.int .i64 4, .str text, .slice (some (id, off)) ws.length kc, .bool glued] := by rw [h2.cells (by simp; omega)]; simp [hne2, hbox]
  have hle2 : st1.next + 1 ≤ s2.next := h2.le
  clear h2 hw2 hx2 hxx2
  generalize hs : sameL xt REV = same at hgo ⊢
  cases same <;> cases t
  rotate_left 2
  · simp only [Bool.not_false, Bool.and_self, if_true] at hgo
    repeat' (first
    | (refine OW.nil ?_)
    | (apply OW.quiet; (· rfl); (· rfl); (· first | exact wanted_none rfl | (refine wanted_on rfl rfl ?_; simp [*]; done)); (· first | rfl | (simp [isQuiet]; done)); (· simp (disch := omega) [decT, decF, bneT, bneF, beqT, beqF, Go.IntWalk.i64_in, Go.IntWalk.u8_in, *] <;> rfl))
    | (apply OW.off; (· rfl); (· rfl); (· first | (refine wanted_off rfl rfl ?_; simp [*]; done) | (refine wanted_undef rfl rfl ?_; simp [*]; done)))
    | (apply OW.float; (· rfl); (· rfl); (· first | exact wanted_none rfl | (refine wanted_on rfl rfl ?_; simp [*]; done)); (· first | rfl | (simp [isQuiet]; done)); (· first | rfl | (simp [isFloat]; done)); (· simp (disch := omega) [decT, decF, bneT, bneF, beqT, beqF, *] <;> first | rfl | exact ⟨rfl, rfl⟩))
    | (refine XW.skip ?_) | (refine XW.seq ?_) | (refine XW.region ?_) | (refine XW.exit ?_) | (refine XW.ret ?_) | (refine XW.block ?_)
    | (refine XW.condT ?_ ?_; (· simp (disch := omega) [*]; done)) | (refine XW.condF ?_ ?_; (· simp (disch := omega) [*]; done)) | fail)
    exact ⟨rfl, rfl, d - 1, by omega, ⟨k + 1, true, l, v, by omega, by omega, by simp, by simp, by simp [*], ho2, hgo, .inr (.inr rfl)⟩, by simp [*], hbox2, hx3'⟩
  · simp only [Bool.not_true, Bool.false_and, Bool.false_eq_true, if_false] at hgo
    repeat' (first
    | (refine OW.nil ?_)
    | (apply OW.quiet; (· rfl); (· rfl); (· first | exact wanted_none rfl | (refine wanted_on rfl rfl ?_; simp [*]; done)); (· first | rfl | (simp [isQuiet]; done)); (· simp (disch := omega) [decT, decF, bneT, bneF, beqT, beqF, Go.IntWalk.i64_in, Go.IntWalk.u8_in, *] <;> rfl))
    | (apply OW.off; (· rfl); (· rfl); (· first | (refine wanted_off rfl rfl ?_; simp [*]; done) | (refine wanted_undef rfl rfl ?_; simp [*]; done)))
    | (apply OW.float; (· rfl); (· rfl); (· first | exact wanted_none rfl | (refine wanted_on rfl rfl ?_; simp [*]; done)); (· first | rfl | (simp [isQuiet]; done)); (· first | rfl | (simp [isFloat]; done)); (· simp (disch := omega) [decT, decF, bneT, bneF, beqT, beqF, *] <;> first | rfl | exact ⟨rfl, rfl⟩))
    | (refine XW.skip ?_) | (refine XW.seq ?_) | (refine XW.region ?_) | (refine XW.exit ?_) | (refine XW.ret ?_) | (refine XW.block ?_)
    | (refine XW.condT ?_ ?_; (· simp (disch := omega) [*]; done)) | (refine XW.condF ?_ ?_; (· simp (disch := omega) [*]; done)) | fail)
    (apply OW.callF; (· rfl); (· first | exact wanted_none rfl | (refine wanted_on rfl rfl ?_; simp [*]; done)); (· simp [*] <;> rfl); (· exact hb81); (refine (byRun xt _ hx3.wf htx).mono ?_; rintro _ s3 ⟨rfl, h3⟩; apply callK_ret; (· rfl); (· rfl)))
    rw [kind_by]
    have ho3 := ho2.ext h3
    have hx5' := hx3'.andThen (by omega) h3
    have hx5 := hx3.andThen (by omega) h3
    have hbox3 : s3.cellsAt st.next = _ := (h3.cells (by omega)).trans hbox2
    clear h3
    by_cases hk0 : kindOf xt = 0
    · rw [if_pos hk0] at hgo
      have e : readEnd none = ([], 80) := rfl
      rw [hgo, e]
      repeat' (first
    | (refine OW.nil ?_)
    | (apply OW.quiet; (· rfl); (· rfl); (· first | exact wanted_none rfl | (refine wanted_on rfl rfl ?_; simp [*]; done)); (· first | rfl | (simp [isQuiet]; done)); (· simp (disch := omega) [decT, decF, bneT, bneF, beqT, beqF, Go.IntWalk.i64_in, Go.IntWalk.u8_in, *] <;> rfl))
    | (apply OW.off; (· rfl); (· rfl); (· first | (refine wanted_off rfl rfl ?_; simp [*]; done) | (refine wanted_undef rfl rfl ?_; simp [*]; done)))
    | (apply OW.float; (· rfl); (· rfl); (· first | exact wanted_none rfl | (refine wanted_on rfl rfl ?_; simp [*]; done)); (· first | rfl | (simp [isQuiet]; done)); (· first | rfl | (simp [isFloat]; done)); (· simp (disch := omega) [decT, decF, bneT, bneF, beqT, beqF, *] <;> first | rfl | exact ⟨rfl, rfl⟩))
    | (refine XW.skip ?_) | (refine XW.seq ?_) | (refine XW.region ?_) | (refine XW.exit ?_) | (refine XW.ret ?_) | (refine XW.block ?_)
    | (refine XW.condT ?_ ?_; (· simp (disch := omega) [*]; done)) | (refine XW.condF ?_ ?_; (· simp (disch := omega) [*]; done)) | fail)
      exact ⟨rfl, _, by simp; rfl, _, rfl, Own.nil, hx5⟩
    · rw [if_neg hk0] at hgo
      have ho4 := ho3.ext (Ext.alloc hx5.wf (Nat.le_refl _) (.cells [.int .i64 (kindOf xt), .bool true] 49 (2 * s3.next)))
      have hle3 : st.next + 1 ≤ s3.next := hx5'.le
      repeat' (first
    | (refine OW.nil ?_)
    | (apply OW.quiet; (· rfl); (· rfl); (· first | exact wanted_none rfl | (refine wanted_on rfl rfl ?_; simp [*]; done)); (· first | rfl | (simp [isQuiet]; done)); (· simp (disch := omega) [decT, decF, bneT, bneF, beqT, beqF, Go.IntWalk.i64_in, Go.IntWalk.u8_in, *] <;> rfl))
    | (apply OW.off; (· rfl); (· rfl); (· first | (refine wanted_off rfl rfl ?_; simp [*]; done) | (refine wanted_undef rfl rfl ?_; simp [*]; done)))
    | (apply OW.float; (· rfl); (· rfl); (· first | exact wanted_none rfl | (refine wanted_on rfl rfl ?_; simp [*]; done)); (· first | rfl | (simp [isQuiet]; done)); (· first | rfl | (simp [isFloat]; done)); (· simp (disch := omega) [decT, decF, bneT, bneF, beqT, beqF, *] <;> first | rfl | exact ⟨rfl, rfl⟩))
    | (refine XW.skip ?_) | (refine XW.seq ?_) | (refine XW.region ?_) | (refine XW.exit ?_) | (refine XW.ret ?_) | (refine XW.block ?_)
    | (refine XW.condT ?_ ?_; (· simp (disch := omega) [*]; done)) | (refine XW.condF ?_ ?_; (· simp (disch := omega) [*]; done)) | fail)
      (apply OW.append; (· rfl); (· rfl); (· first | exact wanted_none rfl | (refine wanted_on rfl rfl ?_; simp [*]; done)); (· rfl); (· simp [*] <;> rfl); (· simp [*] <;> rfl); (· simp); (· simp <;> rfl); (· simp <;> rfl); (· simp <;> rfl); (· simp [*] <;> rfl); (· exact ho4); (· exact hx5.wf.alloc _); (· (simp; omega)); (· simp); (· omega); (· exact flat_length encBy_length l); (· omega); (· simp); (· decide))
      intro s4 id4 g4 hown hext _ hid4 _ _ _
      subst hid4
      repeat' (first
    | (refine OW.nil ?_)
    | (apply OW.quiet; (· rfl); (· rfl); (· first | exact wanted_none rfl | (refine wanted_on rfl rfl ?_; simp [*]; done)); (· first | rfl | (simp [isQuiet]; done)); (· simp (disch := omega) [decT, decF, bneT, bneF, beqT, beqF, Go.IntWalk.i64_in, Go.IntWalk.u8_in, *] <;> rfl))
    | (apply OW.off; (· rfl); (· rfl); (· first | (refine wanted_off rfl rfl ?_; simp [*]; done) | (refine wanted_undef rfl rfl ?_; simp [*]; done)))
    | (apply OW.float; (· rfl); (· rfl); (· first | exact wanted_none rfl | (refine wanted_on rfl rfl ?_; simp [*]; done)); (· first | rfl | (simp [isQuiet]; done)); (· first | rfl | (simp [isFloat]; done)); (· simp (disch := omega) [decT, decF, bneT, bneF, beqT, beqF, *] <;> first | rfl | exact ⟨rfl, rfl⟩))
    | (refine XW.skip ?_) | (refine XW.seq ?_) | (refine XW.region ?_) | (refine XW.exit ?_) | (refine XW.ret ?_) | (refine XW.block ?_)
    | (refine XW.condT ?_ ?_; (· simp (disch := omega) [*]; done)) | (refine XW.condF ?_ ?_; (· simp (disch := omega) [*]; done)) | fail)
      have hx6 := (hx5'.trans (Ext.alloc hx5.wf hle3 _)).trans hext
      refine ⟨rfl, rfl, d - 1, by omega, ⟨k + 1, false, l ++ [⟨kindOf xt, true⟩], _, by omega, by simp; omega, by simp, by simp, by simp; rfl, ?_, hgo, .inr (.inl (by simp))⟩, by simp [*], ?_, hx6⟩
      · simpa [encBy, List.flatMap_append] using hown.own (n := l.length + 1)
      · rw [hext.cells (Nat.lt_succ_self _)]
        simp [hbox3, Nat.ne_of_lt hle3]
  · simp only [Bool.and_false, Bool.false_eq_true, if_false] at hgo
    repeat' (first
    | (refine OW.nil ?_)
    | (apply OW.quiet; (· rfl); (· rfl); (· first | exact wanted_none rfl | (refine wanted_on rfl rfl ?_; simp [*]; done)); (· first | rfl | (simp [isQuiet]; done)); (· simp (disch := omega) [decT, decF, bneT, bneF, beqT, beqF, Go.IntWalk.i64_in, Go.IntWalk.u8_in, *] <;> rfl))
    | (apply OW.off; (· rfl); (· rfl); (· first | (refine wanted_off rfl rfl ?_; simp [*]; done) | (refine wanted_undef rfl rfl ?_; simp [*]; done)))
    | (apply OW.float; (· rfl); (· rfl); (· first | exact wanted_none rfl | (refine wanted_on rfl rfl ?_; simp [*]; done)); (· first | rfl | (simp [isQuiet]; done)); (· first | rfl | (simp [isFloat]; done)); (· simp (disch := omega) [decT, decF, bneT, bneF, beqT, beqF, *] <;> first | rfl | exact ⟨rfl, rfl⟩))
    | (refine XW.skip ?_) | (refine XW.seq ?_) | (refine XW.region ?_) | (refine XW.exit ?_) | (refine XW.ret ?_) | (refine XW.block ?_)
    | (refine XW.condT ?_ ?_; (· simp (disch := omega) [*]; done)) | (refine XW.condF ?_ ?_; (· simp (disch := omega) [*]; done)) | fail)
    (apply OW.callF; (· rfl); (· first | exact wanted_none rfl | (refine wanted_on rfl rfl ?_; simp [*]; done)); (· simp [*] <;> rfl); (· exact hb81); (refine (byRun xt _ hx3.wf htx).mono ?_; rintro _ s3 ⟨rfl, h3⟩; apply callK_ret; (· rfl); (· rfl)))
    rw [kind_by]
    have ho3 := ho2.ext h3
    have hx5' := hx3'.andThen (by omega) h3
    have hx5 := hx3.andThen (by omega) h3
    have hbox3 : s3.cellsAt st.next = _ := (h3.cells (by omega)).trans hbox2
    clear h3
    by_cases hk0 : kindOf xt = 0
    · rw [if_pos hk0] at hgo
      have e : readEnd none = ([], 80) := rfl
      rw [hgo, e]
      repeat' (first
    | (refine OW.nil ?_)
    | (apply OW.quiet; (· rfl); (· rfl); (· first | exact wanted_none rfl | (refine wanted_on rfl rfl ?_; simp [*]; done)); (· first | rfl | (simp [isQuiet]; done)); (· simp (disch := omega) [decT, decF, bneT, bneF, beqT, beqF, Go.IntWalk.i64_in, Go.IntWalk.u8_in, *] <;> rfl))
    | (apply OW.off; (· rfl); (· rfl); (· first | (refine wanted_off rfl rfl ?_; simp [*]; done) | (refine wanted_undef rfl rfl ?_; simp [*]; done)))
    | (apply OW.float; (· rfl); (· rfl); (· first | exact wanted_none rfl | (refine wanted_on rfl rfl ?_; simp [*]; done)); (· first | rfl | (simp [isQuiet]; done)); (· first | rfl | (simp [isFloat]; done)); (· simp (disch := omega) [decT, decF, bneT, bneF, beqT, beqF, *] <;> first | rfl | exact ⟨rfl, rfl⟩))
    | (refine XW.skip ?_) | (refine XW.seq ?_) | (refine XW.region ?_) | (refine XW.exit ?_) | (refine XW.ret ?_) | (refine XW.block ?_)
    | (refine XW.condT ?_ ?_; (· simp (disch := omega) [*]; done)) | (refine XW.condF ?_ ?_; (· simp (disch := omega) [*]; done)) | fail)
      exact ⟨rfl, _, by simp; rfl, _, rfl, Own.nil, hx5⟩
    · rw [if_neg hk0] at hgo
      have ho4 := ho3.ext (Ext.alloc hx5.wf (Nat.le_refl _) (.cells [.int .i64 (kindOf xt), .bool false] 49 (2 * s3.next)))
      have hle3 : st.next + 1 ≤ s3.next := hx5'.le
      repeat' (first
    | (refine OW.nil ?_)
    | (apply OW.quiet; (· rfl); (· rfl); (· first | exact wanted_none rfl | (refine wanted_on rfl rfl ?_; simp [*]; done)); (· first | rfl | (simp [isQuiet]; done)); (· simp (disch := omega) [decT, decF, bneT, bneF, beqT, beqF, Go.IntWalk.i64_in, Go.IntWalk.u8_in, *] <;> rfl))
    | (apply OW.off; (· rfl); (· rfl); (· first | (refine wanted_off rfl rfl ?_; simp [*]; done) | (refine wanted_undef rfl rfl ?_; simp [*]; done)))
    | (apply OW.float; (· rfl); (· rfl); (· first | exact wanted_none rfl | (refine wanted_on rfl rfl ?_; simp [*]; done)); (· first | rfl | (simp [isQuiet]; done)); (· first | rfl | (simp [isFloat]; done)); (· simp (disch := omega) [decT, decF, bneT, bneF, beqT, beqF, *] <;> first | rfl | exact ⟨rfl, rfl⟩))
    | (refine XW.skip ?_) | (refine XW.seq ?_) | (refine XW.region ?_) | (refine XW.exit ?_) | (refine XW.ret ?_) | (refine XW.block ?_)
    | (refine XW.condT ?_ ?_; (· simp (disch := omega) [*]; done)) | (refine XW.condF ?_ ?_; (· simp (disch := omega) [*]; done)) | fail)
      (apply OW.append; (· rfl); (· rfl); (· first | exact wanted_none rfl | (refine wanted_on rfl rfl ?_; simp [*]; done)); (· rfl); (· simp [*] <;> rfl); (· simp [*] <;> rfl); (· simp); (· simp <;> rfl); (· simp <;> rfl); (· simp <;> rfl); (· simp [*] <;> rfl); (· exact ho4); (· exact hx5.wf.alloc _); (· (simp; omega)); (· simp); (· omega); (· exact flat_length encBy_length l); (· omega); (· simp); (· decide))
      intro s4 id4 g4 hown hext _ hid4 _ _ _
      subst hid4
      repeat' (first
    | (refine OW.nil ?_)
    | (apply OW.quiet; (· rfl); (· rfl); (· first | exact wanted_none rfl | (refine wanted_on rfl rfl ?_; simp [*]; done)); (· first | rfl | (simp [isQuiet]; done)); (· simp (disch := omega) [decT, decF, bneT, bneF, beqT, beqF, Go.IntWalk.i64_in, Go.IntWalk.u8_in, *] <;> rfl))
    | (apply OW.off; (· rfl); (· rfl); (· first | (refine wanted_off rfl rfl ?_; simp [*]; done) | (refine wanted_undef rfl rfl ?_; simp [*]; done)))
    | (apply OW.float; (· rfl); (· rfl); (· first | exact wanted_none rfl | (refine wanted_on rfl rfl ?_; simp [*]; done)); (· first | rfl | (simp [isQuiet]; done)); (· first | rfl | (simp [isFloat]; done)); (· simp (disch := omega) [decT, decF, bneT, bneF, beqT, beqF, *] <;> first | rfl | exact ⟨rfl, rfl⟩))
    | (refine XW.skip ?_) | (refine XW.seq ?_) | (refine XW.region ?_) | (refine XW.exit ?_) | (refine XW.ret ?_) | (refine XW.block ?_)
    | (refine XW.condT ?_ ?_; (· simp (disch := omega) [*]; done)) | (refine XW.condF ?_ ?_; (· simp (disch := omega) [*]; done)) | fail)
      have hx6 := (hx5'.trans (Ext.alloc hx5.wf hle3 _)).trans hext
      refine ⟨rfl, rfl, d - 1, by omega, ⟨k + 1, false, l ++ [⟨kindOf xt, false⟩], _, by omega, by simp; omega, by simp, by simp, by simp; rfl, ?_, hgo, .inr (.inl (by simp))⟩, by simp [*], ?_, hx6⟩
      · simpa [encBy, List.flatMap_append] using hown.own (n := l.length + 1)
      · rw [hext.cells (Nat.lt_succ_self _)]
        simp [hbox3, Nat.ne_of_lt hle3]
  · simp only [Bool.and_false, Bool.false_eq_true, if_false] at hgo
    repeat' (first
    | (refine OW.nil ?_)
    | (apply OW.quiet; (· rfl); (· rfl); (· first | exact wanted_none rfl | (refine wanted_on rfl rfl ?_; simp [*]; done)); (· first | rfl | (simp [isQuiet]; done)); (· simp (disch := omega) [decT, decF, bneT, bneF, beqT, beqF, Go.IntWalk.i64_in, Go.IntWalk.u8_in, *] <;> rfl))
    | (apply OW.off; (· rfl); (· rfl); (· first | (refine wanted_off rfl rfl ?_; simp [*]; done) | (refine wanted_undef rfl rfl ?_; simp [*]; done)))
    | (apply OW.float; (· rfl); (· rfl); (· first | exact wanted_none rfl | (refine wanted_on rfl rfl ?_; simp [*]; done)); (· first | rfl | (simp [isQuiet]; done)); (· first | rfl | (simp [isFloat]; done)); (· simp (disch := omega) [decT, decF, bneT, bneF, beqT, beqF, *] <;> first | rfl | exact ⟨rfl, rfl⟩))
    | (refine XW.skip ?_) | (refine XW.seq ?_) | (refine XW.region ?_) | (refine XW.exit ?_) | (refine XW.ret ?_) | (refine XW.block ?_)
    | (refine XW.condT ?_ ?_; (· simp (disch := omega) [*]; done)) | (refine XW.condF ?_ ?_; (· simp (disch := omega) [*]; done)) | fail)
    (apply OW.callF; (· rfl); (· first | exact wanted_none rfl | (refine wanted_on rfl rfl ?_; simp [*]; done)); (· simp [*] <;> rfl); (· exact hb81); (refine (byRun xt _ hx3.wf htx).mono ?_; rintro _ s3 ⟨rfl, h3⟩; apply callK_ret; (· rfl); (· rfl)))
    rw [kind_by]
    have ho3 := ho2.ext h3
    have hx5' := hx3'.andThen (by omega) h3
    have hx5 := hx3.andThen (by omega) h3
    have hbox3 : s3.cellsAt st.next = _ := (h3.cells (by omega)).trans hbox2
    clear h3
    by_cases hk0 : kindOf xt = 0
    · rw [if_pos hk0] at hgo
      have e : readEnd none = ([], 80) := rfl
      rw [hgo, e]
      repeat' (first
    | (refine OW.nil ?_)
    | (apply OW.quiet; (· rfl); (· rfl); (· first | exact wanted_none rfl | (refine wanted_on rfl rfl ?_; simp [*]; done)); (· first | rfl | (simp [isQuiet]; done)); (· simp (disch := omega) [decT, decF, bneT, bneF, beqT, beqF, Go.IntWalk.i64_in, Go.IntWalk.u8_in, *] <;> rfl))
    | (apply OW.off; (· rfl); (· rfl); (· first | (refine wanted_off rfl rfl ?_; simp [*]; done) | (refine wanted_undef rfl rfl ?_; simp [*]; done)))
    | (apply OW.float; (· rfl); (· rfl); (· first | exact wanted_none rfl | (refine wanted_on rfl rfl ?_; simp [*]; done)); (· first | rfl | (simp [isQuiet]; done)); (· first | rfl | (simp [isFloat]; done)); (· simp (disch := omega) [decT, decF, bneT, bneF, beqT, beqF, *] <;> first | rfl | exact ⟨rfl, rfl⟩))
    | (refine XW.skip ?_) | (refine XW.seq ?_) | (refine XW.region ?_) | (refine XW.exit ?_) | (refine XW.ret ?_) | (refine XW.block ?_)
    | (refine XW.condT ?_ ?_; (· simp (disch := omega) [*]; done)) | (refine XW.condF ?_ ?_; (· simp (disch := omega) [*]; done)) | fail)
      exact ⟨rfl, _, by simp; rfl, _, rfl, Own.nil, hx5⟩
    · rw [if_neg hk0] at hgo
      have ho4 := ho3.ext (Ext.alloc hx5.wf (Nat.le_refl _) (.cells [.int .i64 (kindOf xt), .bool true] 49 (2 * s3.next)))
      have hle3 : st.next + 1 ≤ s3.next := hx5'.le
      repeat' (first
    | (refine OW.nil ?_)
    | (apply OW.quiet; (· rfl); (· rfl); (· first | exact wanted_none rfl | (refine wanted_on rfl rfl ?_; simp [*]; done)); (· first | rfl | (simp [isQuiet]; done)); (· simp (disch := omega) [decT, decF, bneT, bneF, beqT, beqF, Go.IntWalk.i64_in, Go.IntWalk.u8_in, *] <;> rfl))
    | (apply OW.off; (· rfl); (· rfl); (· first | (refine wanted_off rfl rfl ?_; simp [*]; done) | (refine wanted_undef rfl rfl ?_; simp [*]; done)))
    | (apply OW.float; (· rfl); (· rfl); (· first | exact wanted_none rfl | (refine wanted_on rfl rfl ?_; simp [*]; done)); (· first | rfl | (simp [isQuiet]; done)); (· first | rfl | (simp [isFloat]; done)); (· simp (disch := omega) [decT, decF, bneT, bneF, beqT, beqF, *] <;> first | rfl | exact ⟨rfl, rfl⟩))
    | (refine XW.skip ?_) | (refine XW.seq ?_) | (refine XW.region ?_) | (refine XW.exit ?_) | (refine XW.ret ?_) | (refine XW.block ?_)
    | (refine XW.condT ?_ ?_; (· simp (disch := omega) [*]; done)) | (refine XW.condF ?_ ?_; (· simp (disch := omega) [*]; done)) | fail)
      (apply OW.append; (· rfl); (· rfl); (· first | exact wanted_none rfl | (refine wanted_on rfl rfl ?_; simp [*]; done)); (· rfl); (· simp [*] <;> rfl); (· simp [*] <;> rfl); (· simp); (· simp <;> rfl); (· simp <;> rfl); (· simp <;> rfl); (· simp [*] <;> rfl); (· exact ho4); (· exact hx5.wf.alloc _); (· (simp; omega)); (· simp); (· omega); (· exact flat_length encBy_length l); (· omega); (· simp); (· decide))
      intro s4 id4 g4 hown hext _ hid4 _ _ _
      subst hid4
      repeat' (first
    | (refine OW.nil ?_)
    | (apply OW.quiet; (· rfl); (· rfl); (· first | exact wanted_none rfl | (refine wanted_on rfl rfl ?_; simp [*]; done)); (· first | rfl | (simp [isQuiet]; done)); (· simp (disch := omega) [decT, decF, bneT, bneF, beqT, beqF, Go.IntWalk.i64_in, Go.IntWalk.u8_in, *] <;> rfl))
    | (apply OW.off; (· rfl); (· rfl); (· first | (refine wanted_off rfl rfl ?_; simp [*]; done) | (refine wanted_undef rfl rfl ?_; simp [*]; done)))
    | (apply OW.float; (· rfl); (· rfl); (· first | exact wanted_none rfl | (refine wanted_on rfl rfl ?_; simp [*]; done)); (· first | rfl | (simp [isQuiet]; done)); (· first | rfl | (simp [isFloat]; done)); (· simp (disch := omega) [decT, decF, bneT, bneF, beqT, beqF, *] <;> first | rfl | exact ⟨rfl, rfl⟩))
    | (refine XW.skip ?_) | (refine XW.seq ?_) | (refine XW.region ?_) | (refine XW.exit ?_) | (refine XW.ret ?_) | (refine XW.block ?_)
    | (refine XW.condT ?_ ?_; (· simp (disch := omega) [*]; done)) | (refine XW.condF ?_ ?_; (· simp (disch := omega) [*]; done)) | fail)
      have hx6 := (hx5'.trans (Ext.alloc hx5.wf hle3 _)).trans hext
      refine ⟨rfl, rfl, d - 1, by omega, ⟨k + 1, false, l ++ [⟨kindOf xt, true⟩], _, by omega, by simp; omega, by simp, by simp, by simp; rfl, ?_, hgo, .inr (.inl (by simp))⟩, by simp [*], ?_, hx6⟩
      · simpa [encBy, List.flatMap_append] using hown.own (n := l.length + 1)
      · rw [hext.cells (Nat.lt_succ_self _)]
        simp [hbox3, Nat.ne_of_lt hle3]
end Go.Proofs.Tryz
set_option linter.unusedVariables false
set_option linter.unusedSimpArgs false
set_option maxRecDepth 10000
namespace Go.Proofs.Tryz
open Go.Ev
attribute [local irreducible] Program.underlying Tables.info?
/-! ### Lists of sort keys, held against one another -/
deriving instance DecidableEq for ByV
theorem eqBy_raw (st : St) (k k' : Int) (r r' : Bool) : sameA E.P st 49 false (.agg [.int .i64 k, .bool r]) (.agg [.int .i64 k', .bool r']) =
    ((some (k == k')).bind fun b => if b then ((some (r == r')).bind fun b => if b then some true else some false) else some false) := by kernel_rfl
theorem eqBy (st : St) (a b : ByV) : sameA E.P st 49 false (.agg (encBy a)) (.agg (encBy b)) = some (decide (a = b)) := by
  obtain ⟨k, r⟩ := a
  obtain ⟨k', r'⟩ := b
  rw [encBy, encBy, eqBy_raw]
  by_cases h1 : k = k' <;> by_cases h2 : r = r' <;> simp [h1, h2]
structure BysI (B : Nat) (st0 : St) (v w : AV) (l m : List ByV) (d : Nat) (σ : Trie AV) (st : St) : Prop where
  k : ∃ k : Nat, k + d = l.length ∧ σ.get 5 = some (.int .i64 k) ∧ l.take k = m.take k
  v0 : σ.get 0 = some v
  v1 : σ.get 1 = some w
  x : st = st0
/-- postbaglaw8.bys -/
theorem bysRun (v w : AV) (l m : List ByV) (st : St) (hw : WF st) (hv : Row st 2 v l.length (l.flatMap encBy)) (hm : Row st 2 w m.length (m.flatMap encBy)) (hl : l.length ≤ 2 ^ 20) (hl2 : m.length ≤ 2 ^ 20) :
    CW E 24 [v, w] st (fun o s' => o = .ret (.bool (decide (l = m))) ∧ s' = st) := by
  obtain ⟨va, vc, rfl⟩ := hv.len
  obtain ⟨wa, wc, rfl⟩ := hm.len
  refine CW.enter (n0 := 26) (rs := [.tmp 4]) fn24 rfl rfl rfl rfl rfl ?_
  by_cases hn : l.length = m.length
  rotate_right
  · have e : decide (l = m) = false := decide_eq_false fun h => hn (by rw [h])
    repeat' (first
    | (refine OW.nil ?_)
    | (apply OW.quiet; (· rfl); (· rfl); (· first | exact wanted_none rfl | (refine wanted_on rfl rfl ?_; simp [*]; done)); (· first | rfl | (simp [isQuiet]; done)); (· simp (disch := omega) [decT, decF, bneT, bneF, beqT, beqF, Go.IntWalk.i64_in, Go.IntWalk.u8_in, *] <;> rfl))
    | (apply OW.off; (· rfl); (· rfl); (· first | (refine wanted_off rfl rfl ?_; simp [*]; done) | (refine wanted_undef rfl rfl ?_; simp [*]; done)))
    | (apply OW.float; (· rfl); (· rfl); (· first | exact wanted_none rfl | (refine wanted_on rfl rfl ?_; simp [*]; done)); (· first | rfl | (simp [isQuiet]; done)); (· first | rfl | (simp [isFloat]; done)); (· simp (disch := omega) [decT, decF, bneT, bneF, beqT, beqF, *] <;> first | rfl | exact ⟨rfl, rfl⟩))
    | (refine XW.skip ?_) | (refine XW.seq ?_) | (refine XW.region ?_) | (refine XW.exit ?_) | (refine XW.ret ?_) | (refine XW.block ?_)
    | (refine XW.condT ?_ ?_; (· simp (disch := omega) [*]; done)) | (refine XW.condF ?_ ?_; (· simp (disch := omega) [*]; done)) | fail)
    exact ⟨rfl, _, by simp; rfl, by rw [e]; rfl, rfl⟩
  repeat' (first
    | (refine OW.nil ?_)
    | (apply OW.quiet; (· rfl); (· rfl); (· first | exact wanted_none rfl | (refine wanted_on rfl rfl ?_; simp [*]; done)); (· first | rfl | (simp [isQuiet]; done)); (· simp (disch := omega) [decT, decF, bneT, bneF, beqT, beqF, Go.IntWalk.i64_in, Go.IntWalk.u8_in, *] <;> rfl))
    | (apply OW.off; (· rfl); (· rfl); (· first | (refine wanted_off rfl rfl ?_; simp [*]; done) | (refine wanted_undef rfl rfl ?_; simp [*]; done)))
    | (apply OW.float; (· rfl); (· rfl); (· first | exact wanted_none rfl | (refine wanted_on rfl rfl ?_; simp [*]; done)); (· first | rfl | (simp [isQuiet]; done)); (· first | rfl | (simp [isFloat]; done)); (· simp (disch := omega) [decT, decF, bneT, bneF, beqT, beqF, *] <;> first | rfl | exact ⟨rfl, rfl⟩))
    | (refine XW.skip ?_) | (refine XW.seq ?_) | (refine XW.region ?_) | (refine XW.exit ?_) | (refine XW.ret ?_) | (refine XW.block ?_)
    | (refine XW.condT ?_ ?_; (· simp (disch := omega) [*]; done)) | (refine XW.condF ?_ ?_; (· simp (disch := omega) [*]; done)) | fail)
  refine XW.rounds (BysI st.next st (.slice va l.length vc) (.slice wa m.length wc) l m) ?round l.length _ _ ?start
  case start => exact ⟨⟨0, by omega, by simp, rfl⟩, by simp, by simp, rfl⟩
  intro d σ st1 hI
  obtain ⟨⟨k, hk, h5, ht⟩, h0, h1, rfl⟩ := hI
  by_cases hlt : k < l.length
  rotate_right
  · obtain rfl : k = l.length := by omega
    have e : l = m := by rw [List.take_of_length_le (Nat.le_refl _), List.take_of_length_le (by omega)] at ht; exact ht
    repeat' (first
    | (refine OW.nil ?_)
    | (apply OW.quiet; (· rfl); (· rfl); (· first | exact wanted_none rfl | (refine wanted_on rfl rfl ?_; simp [*]; done)); (· first | rfl | (simp [isQuiet]; done)); (· simp (disch := omega) [decT, decF, bneT, bneF, beqT, beqF, Go.IntWalk.i64_in, Go.IntWalk.u8_in, *] <;> rfl))
    | (apply OW.off; (· rfl); (· rfl); (· first | (refine wanted_off rfl rfl ?_; simp [*]; done) | (refine wanted_undef rfl rfl ?_; simp [*]; done)))
    | (apply OW.float; (· rfl); (· rfl); (· first | exact wanted_none rfl | (refine wanted_on rfl rfl ?_; simp [*]; done)); (· first | rfl | (simp [isQuiet]; done)); (· first | rfl | (simp [isFloat]; done)); (· simp (disch := omega) [decT, decF, bneT, bneF, beqT, beqF, *] <;> first | rfl | exact ⟨rfl, rfl⟩))
    | (refine XW.skip ?_) | (refine XW.seq ?_) | (refine XW.region ?_) | (refine XW.exit ?_) | (refine XW.ret ?_) | (refine XW.block ?_)
    | (refine XW.condT ?_ ?_; (· simp (disch := omega) [*]; done)) | (refine XW.condF ?_ ?_; (· simp (disch := omega) [*]; done)) | fail)
    exact ⟨rfl, _, by simp; rfl, by rw [decide_eq_true e]; rfl, rfl⟩
  obtain ⟨id, off, c, all, hkv, hid, hca, hrd, hjs⟩ := hv.get encBy_length (by omega) hlt
  injection hkv with e1 e2 e3
  subst e1
  obtain ⟨id2, off2, c2, all2, hkv2, hid2, hca2, hrd2, hjs2⟩ := hm.get encBy_length (by omega) (show k < m.length by omega)
  injection hkv2 with e4 e5 e6
  subst e4
  have hlt2 : k < m.length := by omega
  have hcmp := fun s => eqBy s l[k] (m[k]'(by omega))
  repeat' (first
    | (refine OW.nil ?_)
    | (apply OW.quiet; (· rfl); (· rfl); (· first | exact wanted_none rfl | (refine wanted_on rfl rfl ?_; simp [*]; done)); (· first | rfl | (simp [isQuiet]; done)); (· simp (disch := omega) [decT, decF, bneT, bneF, beqT, beqF, Go.IntWalk.i64_in, Go.IntWalk.u8_in, *] <;> rfl))
    | (apply OW.off; (· rfl); (· rfl); (· first | (refine wanted_off rfl rfl ?_; simp [*]; done) | (refine wanted_undef rfl rfl ?_; simp [*]; done)))
    | (apply OW.float; (· rfl); (· rfl); (· first | exact wanted_none rfl | (refine wanted_on rfl rfl ?_; simp [*]; done)); (· first | rfl | (simp [isQuiet]; done)); (· first | rfl | (simp [isFloat]; done)); (· simp (disch := omega) [decT, decF, bneT, bneF, beqT, beqF, *] <;> first | rfl | exact ⟨rfl, rfl⟩))
    | (refine XW.skip ?_) | (refine XW.seq ?_) | (refine XW.region ?_) | (refine XW.exit ?_) | (refine XW.ret ?_) | (refine XW.block ?_)
    | (refine XW.condT ?_ ?_; (· simp (disch := omega) [*]; done)) | (refine XW.condF ?_ ?_; (· simp (disch := omega) [*]; done)) | fail)
  refine XW.draw (is := [0, 1, 2, 3, 4, 5, 6, 7, 8]) (by kernel_rfl) (by kernel_rfl) ?_
  intro b
  repeat' (first
    | (refine DW.nil ?_)
    | (apply DW.quiet; (· rfl); (· rfl); (· rfl); (· first | exact wanted_none rfl | (refine wanted_on rfl rfl ?_; simp [*]; done)); (· first | rfl | (simp [isQuiet]; done)); (· intro s' hag; simp (disch := omega) [hag.cells, decT, decF, bneT, bneF, beqT, beqF, Go.IntWalk.i64_in, Go.IntWalk.u8_in, *] <;> first | rfl | exact ⟨rfl, rfl⟩); intro _)
    | (apply DW.off; (· rfl); (· rfl); (· rfl); (· first | (refine wanted_off rfl rfl ?_; simp [*]; done) | (refine wanted_undef rfl rfl ?_; simp [*]; done)); intro _)
    | (apply DW.float; (· rfl); (· rfl); (· rfl); (· first | exact wanted_none rfl | (refine wanted_on rfl rfl ?_; simp [*]; done)); (· first | rfl | (simp [isQuiet]; done)); (· first | rfl | (simp [isFloat]; done)); (· simp (disch := omega) [decT, decF, bneT, bneF, beqT, beqF, *] <;> first | rfl | exact ⟨rfl, rfl⟩); (· simp (disch := omega) [*]); intro _) | fail)
  by_cases heq : l[k] = m[k]
  · have e : decide (l[k] = m[k]) = true := decide_eq_true heq
    repeat' (first
    | (refine OW.nil ?_)
    | (apply OW.quiet; (· rfl); (· rfl); (· first | exact wanted_none rfl | (refine wanted_on rfl rfl ?_; simp [*]; done)); (· first | rfl | (simp [isQuiet]; done)); (· simp (disch := omega) [decT, decF, bneT, bneF, beqT, beqF, Go.IntWalk.i64_in, Go.IntWalk.u8_in, *] <;> rfl))
    | (apply OW.off; (· rfl); (· rfl); (· first | (refine wanted_off rfl rfl ?_; simp [*]; done) | (refine wanted_undef rfl rfl ?_; simp [*]; done)))
    | (apply OW.float; (· rfl); (· rfl); (· first | exact wanted_none rfl | (refine wanted_on rfl rfl ?_; simp [*]; done)); (· first | rfl | (simp [isQuiet]; done)); (· first | rfl | (simp [isFloat]; done)); (· simp (disch := omega) [decT, decF, bneT, bneF, beqT, beqF, *] <;> first | rfl | exact ⟨rfl, rfl⟩))
    | (refine XW.skip ?_) | (refine XW.seq ?_) | (refine XW.region ?_) | (refine XW.exit ?_) | (refine XW.ret ?_) | (refine XW.block ?_)
    | (refine XW.condT ?_ ?_; (· simp (disch := omega) [*]; done)) | (refine XW.condF ?_ ?_; (· simp (disch := omega) [*]; done)) | fail)
    refine ⟨rfl, rfl, d - 1, by omega, ⟨k + 1, by omega, by simp, ?_⟩, by simp [*], by simp [*], rfl⟩
    rw [List.take_succ_eq_append_getElem hlt, List.take_succ_eq_append_getElem hlt2, ht, heq]
  · have e : decide (l[k] = m[k]) = false := decide_eq_false heq
    have e' : decide (l = m) = false := decide_eq_false fun h => heq (by subst h; rfl)
    repeat' (first
    | (refine OW.nil ?_)
    | (apply OW.quiet; (· rfl); (· rfl); (· first | exact wanted_none rfl | (refine wanted_on rfl rfl ?_; simp [*]; done)); (· first | rfl | (simp [isQuiet]; done)); (· simp (disch := omega) [decT, decF, bneT, bneF, beqT, beqF, Go.IntWalk.i64_in, Go.IntWalk.u8_in, *] <;> rfl))
    | (apply OW.off; (· rfl); (· rfl); (· first | (refine wanted_off rfl rfl ?_; simp [*]; done) | (refine wanted_undef rfl rfl ?_; simp [*]; done)))
    | (apply OW.float; (· rfl); (· rfl); (· first | exact wanted_none rfl | (refine wanted_on rfl rfl ?_; simp [*]; done)); (· first | rfl | (simp [isQuiet]; done)); (· first | rfl | (simp [isFloat]; done)); (· simp (disch := omega) [decT, decF, bneT, bneF, beqT, beqF, *] <;> first | rfl | exact ⟨rfl, rfl⟩))
    | (refine XW.skip ?_) | (refine XW.seq ?_) | (refine XW.region ?_) | (refine XW.exit ?_) | (refine XW.ret ?_) | (refine XW.block ?_)
    | (refine XW.condT ?_ ?_; (· simp (disch := omega) [*]; done)) | (refine XW.condF ?_ ?_; (· simp (disch := omega) [*]; done)) | fail)
    exact ⟨rfl, _, by simp; rfl, by rw [e']; rfl, rfl⟩
end Go.Proofs.Tryz
