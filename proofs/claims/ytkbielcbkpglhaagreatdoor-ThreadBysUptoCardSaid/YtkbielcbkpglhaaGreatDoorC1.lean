/- What functions of the program give is shown by walks; each theorem names its conditions. -/
import Derived.Test.YtkbielcbkpglhaaGreatDoorSb1
set_option linter.unusedVariables false
set_option linter.unusedSimpArgs false
set_option maxRecDepth 10000
namespace Go.Proofs.Tryz
open Go.Ev
attribute [local irreducible] Program.underlying Tables.info?
/-! ### Large and small letters -/
def lowB (b : UInt8) : UInt8 := if 65 ≤ b.toNat ∧ b.toNat ≤ 90 then b + 32 else b
theorem lowB_val (b : UInt8) : ((lowB b).toNat : Int) = if 65 ≤ b.toNat ∧ b.toNat ≤ 90 then (b.toNat : Int) + 32 else b.toNat := by
  unfold lowB
  split
  · rw [UInt8.toNat_add]; simp; omega
  · rfl
structure LowI (B : Nat) (st0 : St) (s : List UInt8) (d : Nat) (σ : Trie AV) (st : St) : Prop where
  k : ∃ k v, k + d = s.length ∧ σ.get 4 = some (.int .i64 k) ∧ σ.get 3 = some v ∧ Own B st 5 v k (bytesA ((s.take k).map lowB))
  s0 : σ.get 0 = some (.str s)
  x : Ext B st0 st
/-- postbagref1.Lower -/
theorem refLower (s : List UInt8) (st : St) (hw : WF st) (hs : s.length ≤ 2 ^ 20) : CW E 75 [.str s] st (fun o s' => o = .ret (.str (s.map lowB)) ∧ Ext st.next st s') := by
  refine CW.enter (n0 := 29) (rs := [.tmp 2]) fn75 rfl rfl rfl rfl rfl ?_
  repeat' (first
    | (refine OW.nil ?_)
    | (apply OW.quiet; (· rfl); (· rfl); (· first | exact wanted_none rfl | (refine wanted_on rfl rfl ?_; simp [*]; done)); (· first | rfl | (simp [isQuiet]; done)); (· simp (disch := omega) [decT, decF, bneT, bneF, beqT, beqF, Go.IntWalk.i64_in, Go.IntWalk.u8_in, *] <;> rfl))
    | (apply OW.off; (· rfl); (· rfl); (· first | (refine wanted_off rfl rfl ?_; simp [*]; done) | (refine wanted_undef rfl rfl ?_; simp [*]; done)))
    | (apply OW.float; (· rfl); (· rfl); (· first | exact wanted_none rfl | (refine wanted_on rfl rfl ?_; simp [*]; done)); (· first | rfl | (simp [isQuiet]; done)); (· first | rfl | (simp [isFloat]; done)); (· simp (disch := omega) [decT, decF, bneT, bneF, beqT, beqF, *] <;> first | rfl | exact ⟨rfl, rfl⟩))
    | (refine XW.skip ?_) | (refine XW.seq ?_) | (refine XW.region ?_) | (refine XW.exit ?_) | (refine XW.ret ?_) | (refine XW.block ?_)
    | (refine XW.condT ?_ ?_; (· simp (disch := omega) [*]; done)) | (refine XW.condF ?_ ?_; (· simp (disch := omega) [*]; done)) | fail)
  refine XW.rounds (LowI st.next st s) ?round s.length _ _ ?start
  case start => exact ⟨⟨0, _, by omega, by simp, by simp, Own.nil⟩, by simp, Ext.refl hw⟩
  intro d σ st1 hI
  obtain ⟨⟨k, v, hk, h4, h3, ho⟩, h0, hx⟩ := hI
  by_cases hlt : k < s.length
  · have hw1 := hx.wf
    have hB : st.next ≤ st1.next := hx.le
    have ho' : Own st.next (st1.alloc (.cells [.int .u8 (lowB s[k]).toNat] 5 (2 * st1.next))) 5 v k (bytesA ((s.take k).map lowB)) := ho.ext (Ext.alloc hw1 (Nat.le_refl _) _)
    have hlen : (bytesA ((s.take k).map lowB)).length = k * 1 := by simp [bytesA]; omega
    have hb := lowB_val s[k]
    by_cases h1 : 65 ≤ s[k].toNat <;> by_cases h2 : s[k].toNat ≤ 90
    rotate_right
    · exfalso; omega
    all_goals (simp only [h1, h2, and_self, and_true, and_false, if_true, if_false] at hb)
    all_goals
      rw [hb] at ho'
      repeat' (first
    | (refine OW.nil ?_)
    | (apply OW.quiet; (· rfl); (· rfl); (· first | exact wanted_none rfl | (refine wanted_on rfl rfl ?_; simp [*]; done)); (· first | rfl | (simp [isQuiet]; done)); (· simp (disch := omega) [decT, decF, bneT, bneF, beqT, beqF, Go.IntWalk.i64_in, Go.IntWalk.u8_in, *] <;> rfl))
    | (apply OW.off; (· rfl); (· rfl); (· first | (refine wanted_off rfl rfl ?_; simp [*]; done) | (refine wanted_undef rfl rfl ?_; simp [*]; done)))
    | (apply OW.float; (· rfl); (· rfl); (· first | exact wanted_none rfl | (refine wanted_on rfl rfl ?_; simp [*]; done)); (· first | rfl | (simp [isQuiet]; done)); (· first | rfl | (simp [isFloat]; done)); (· simp (disch := omega) [decT, decF, bneT, bneF, beqT, beqF, *] <;> first | rfl | exact ⟨rfl, rfl⟩))
    | (refine XW.skip ?_) | (refine XW.seq ?_) | (refine XW.region ?_) | (refine XW.exit ?_) | (refine XW.ret ?_) | (refine XW.block ?_)
    | (refine XW.condT ?_ ?_; (· simp (disch := omega) [*]; done)) | (refine XW.condF ?_ ?_; (· simp (disch := omega) [*]; done)) | fail)
      (apply OW.append; (· rfl); (· rfl); (· first | exact wanted_none rfl | (refine wanted_on rfl rfl ?_; simp [*]; done)); (· rfl); (· simp [*] <;> rfl); (· simp [*] <;> rfl); (· simp); (· simp <;> rfl); (· simp <;> rfl); (· simp <;> rfl); (· simp [*] <;> rfl); (· exact ho'); (· exact hw1.alloc _); (· simp; omega); (· simp); (· omega); (· exact hlen); (· omega); (· simp); (· decide))
      intro st' id g hown hext hnext hid hheap hgrps hwas
      subst hid
      repeat' (first
    | (refine OW.nil ?_)
    | (apply OW.quiet; (· rfl); (· rfl); (· first | exact wanted_none rfl | (refine wanted_on rfl rfl ?_; simp [*]; done)); (· first | rfl | (simp [isQuiet]; done)); (· simp (disch := omega) [decT, decF, bneT, bneF, beqT, beqF, Go.IntWalk.i64_in, Go.IntWalk.u8_in, *] <;> rfl))
    | (apply OW.off; (· rfl); (· rfl); (· first | (refine wanted_off rfl rfl ?_; simp [*]; done) | (refine wanted_undef rfl rfl ?_; simp [*]; done)))
    | (apply OW.float; (· rfl); (· rfl); (· first | exact wanted_none rfl | (refine wanted_on rfl rfl ?_; simp [*]; done)); (· first | rfl | (simp [isQuiet]; done)); (· first | rfl | (simp [isFloat]; done)); (· simp (disch := omega) [decT, decF, bneT, bneF, beqT, beqF, *] <;> first | rfl | exact ⟨rfl, rfl⟩))
    | (refine XW.skip ?_) | (refine XW.seq ?_) | (refine XW.region ?_) | (refine XW.exit ?_) | (refine XW.ret ?_) | (refine XW.block ?_)
    | (refine XW.condT ?_ ?_; (· simp (disch := omega) [*]; done)) | (refine XW.condF ?_ ?_; (· simp (disch := omega) [*]; done)) | fail)
      refine ⟨rfl, rfl, d - 1, by omega, ⟨k + 1, _, by omega, by simp, by simp; rfl, ?_⟩, by simp [*], ?_⟩
      · rw [List.take_succ_eq_append_getElem hlt, List.map_append, bytesA_append]
        simpa [bytesA, hb] using hown.own (n := k + 1)
      · exact (hx.trans (Ext.alloc hw1 hB _)).trans hext
  · obtain rfl : k = s.length := by omega
    rw [List.take_of_length_le (Nat.le_refl _)] at ho
    have hc : convA Tryz.E.P st1 63 9 v = some (.str (s.map lowB)) := convA_own u63 u9 by5 ho (by simp)
    repeat' (first
    | (refine OW.nil ?_)
    | (apply OW.quiet; (· rfl); (· rfl); (· first | exact wanted_none rfl | (refine wanted_on rfl rfl ?_; simp [*]; done)); (· first | rfl | (simp [isQuiet]; done)); (· simp (disch := omega) [decT, decF, bneT, bneF, beqT, beqF, Go.IntWalk.i64_in, Go.IntWalk.u8_in, *] <;> rfl))
    | (apply OW.off; (· rfl); (· rfl); (· first | (refine wanted_off rfl rfl ?_; simp [*]; done) | (refine wanted_undef rfl rfl ?_; simp [*]; done)))
    | (apply OW.float; (· rfl); (· rfl); (· first | exact wanted_none rfl | (refine wanted_on rfl rfl ?_; simp [*]; done)); (· first | rfl | (simp [isQuiet]; done)); (· first | rfl | (simp [isFloat]; done)); (· simp (disch := omega) [decT, decF, bneT, bneF, beqT, beqF, *] <;> first | rfl | exact ⟨rfl, rfl⟩))
    | (refine XW.skip ?_) | (refine XW.seq ?_) | (refine XW.region ?_) | (refine XW.exit ?_) | (refine XW.ret ?_) | (refine XW.block ?_)
    | (refine XW.condT ?_ ?_; (· simp (disch := omega) [*]; done)) | (refine XW.condF ?_ ?_; (· simp (disch := omega) [*]; done)) | fail)
    exact ⟨rfl, _, by simp; rfl, rfl, hx⟩
/-- What is in the row behind so many rounds. -/
def lowTo (s : List UInt8) (k : Nat) : List UInt8 := (s.take k).map lowB ++ s.drop k
theorem lowTo_length (s : List UInt8) (k : Nat) : (lowTo s k).length = s.length := by simp [lowTo]; omega
theorem lowTo_get {s : List UInt8} {k : Nat} (h : k < s.length) : (lowTo s k)[k]? = some s[k] := by
  simp [lowTo, List.getElem?_append, h, Nat.min_eq_left (Nat.le_of_lt h)]
theorem lowTo_succ {s : List UInt8} {k : Nat} (h : k < s.length) : (lowTo s k).set k (lowB s[k]) = lowTo s (k + 1) := by
  have h1 : (List.map lowB (s.take k)).length = k := by simp; omega
  rw [lowTo, lowTo, List.take_succ_eq_append_getElem h, List.map_append, List.drop_eq_getElem_cons h, List.set_append, if_neg (by omega), h1]
  simp [Nat.sub_self]
  rw [List.drop_eq_getElem_cons h]
  rfl
theorem lowTo_same {s : List UInt8} {k : Nat} (h : k < s.length) (hb : lowB s[k] = s[k]) : lowTo s (k + 1) = lowTo s k := by
  rw [← lowTo_succ h, hb]
  refine List.ext_getElem? fun i => ?_
  rw [List.getElem?_set]
  split
  · rename_i hi; subst hi
    rw [if_pos (by rw [lowTo_length]; exact h), lowTo_get h]
  · rfl
structure LowJ (B : Nat) (st0 : St) (s : List UInt8) (id g : Nat) (d : Nat) (σ : Trie AV) (st : St) : Prop where
  k : ∃ k, k + d = s.length ∧ σ.get 10 = some (.int .i64 k) ∧ st.heap.get id = some (.cells (bytesA (lowTo s k)) 5 g)
  n : σ.get 9 = some (.int .i64 s.length)
  v3 : σ.get 3 = some (.slice (some (id, 0)) s.length none)
  v8 : σ.get 8 = some (.slice (some (id, 0)) s.length none)
  g : st.grps.get g = none
  x : Ext B st0 st
/-- octet.Lower -/
theorem octLower (s : List UInt8) (st : St) (hw : WF st) (hs : s.length ≤ 2 ^ 20) : CW E 63 [.str s] st (fun o s' => o = .ret (.str (s.map lowB)) ∧ Ext st.next st s') := by
  refine CW.enter (n0 := 30) (rs := [.tmp 2]) fn63 rfl rfl rfl rfl rfl ?_
  repeat' (first
    | (refine OW.nil ?_)
    | (apply OW.quiet; (· rfl); (· rfl); (· first | exact wanted_none rfl | (refine wanted_on rfl rfl ?_; simp [*]; done)); (· first | rfl | (simp [isQuiet]; done)); (· simp (disch := omega) [decT, decF, bneT, bneF, beqT, beqF, Go.IntWalk.i64_in, Go.IntWalk.u8_in, *] <;> rfl))
    | (apply OW.off; (· rfl); (· rfl); (· first | (refine wanted_off rfl rfl ?_; simp [*]; done) | (refine wanted_undef rfl rfl ?_; simp [*]; done)))
    | (apply OW.float; (· rfl); (· rfl); (· first | exact wanted_none rfl | (refine wanted_on rfl rfl ?_; simp [*]; done)); (· first | rfl | (simp [isQuiet]; done)); (· first | rfl | (simp [isFloat]; done)); (· simp (disch := omega) [decT, decF, bneT, bneF, beqT, beqF, *] <;> first | rfl | exact ⟨rfl, rfl⟩))
    | (refine XW.skip ?_) | (refine XW.seq ?_) | (refine XW.region ?_) | (refine XW.exit ?_) | (refine XW.ret ?_) | (refine XW.block ?_)
    | (refine XW.condT ?_ ?_; (· simp (disch := omega) [*]; done)) | (refine XW.condF ?_ ?_; (· simp (disch := omega) [*]; done)) | fail)
  refine XW.rounds (LowJ st.next st s st.next (2 * st.next + 1)) ?round s.length _ _ ?start
  case start => exact ⟨⟨0, by omega, by simp, by simp [lowTo]⟩, by simp, by simp, by simp, hw.high _ (by omega), Ext.alloc hw (Nat.le_refl _) _⟩
  intro d σ st1 hI
  obtain ⟨⟨k, hk, h10, hb⟩, h9, h3, h8, hg, hx⟩ := hI
  by_cases hlt : k < s.length
  · have hw1 := hx.wf
    have hget := lowTo_get hlt
    have hcb := cellsAt_of hb
    have hv := lowB_val s[k]
    by_cases h1 : 65 ≤ s[k].toNat <;> by_cases h2 : s[k].toNat ≤ 90
    rotate_right
    · exfalso; omega
    all_goals (simp only [h1, h2, and_self, and_true, and_false, if_true, if_false] at hv)
    · have hwr : writeN (bytesA (lowTo s k)) k [.int .u8 (lowB s[k]).toNat] = some (bytesA (lowTo s (k + 1))) := by
        rw [writeN_one (by rw [bytesA_length, lowTo_length]; exact hlt), ← lowTo_succ hlt]
        simp only [bytesA, List.map_set]
      repeat' (first
    | (refine OW.nil ?_)
    | (apply OW.quiet; (· rfl); (· rfl); (· first | exact wanted_none rfl | (refine wanted_on rfl rfl ?_; simp [*]; done)); (· first | rfl | (simp [isQuiet]; done)); (· simp (disch := omega) [bytesA, decT, decF, bneT, bneF, beqT, beqF, Go.IntWalk.i64_in, Go.IntWalk.u8_in, *] <;> rfl))
    | (apply OW.off; (· rfl); (· rfl); (· first | (refine wanted_off rfl rfl ?_; simp [*]; done) | (refine wanted_undef rfl rfl ?_; simp [*]; done)))
    | (apply OW.float; (· rfl); (· rfl); (· first | exact wanted_none rfl | (refine wanted_on rfl rfl ?_; simp [*]; done)); (· first | rfl | (simp [isQuiet]; done)); (· first | rfl | (simp [isFloat]; done)); (· simp (disch := omega) [bytesA, decT, decF, bneT, bneF, beqT, beqF, *] <;> first | rfl | exact ⟨rfl, rfl⟩))
    | (refine XW.skip ?_) | (refine XW.seq ?_) | (refine XW.region ?_) | (refine XW.exit ?_) | (refine XW.ret ?_) | (refine XW.block ?_)
    | (refine XW.condT ?_ ?_; (· simp (disch := omega) [*]; done)) | (refine XW.condF ?_ ?_; (· simp (disch := omega) [*]; done)) | fail)
      (apply OW.store; (· rfl); (· first | exact wanted_none rfl | (refine wanted_on rfl rfl ?_; simp [*]; done)); (· rfl); (· simp [*] <;> first | rfl | exact ⟨rfl, rfl⟩); (· simp [*] <;> first | rfl | exact ⟨rfl, rfl⟩); (· simp); (· simp); (· exact hb); (· exact hg); (· simp only [AV.cells]; rw [show (s[k].toNat : Int) + 97 - 65 = (lowB s[k]).toNat by omega]; exact hwr))
      repeat' (first
    | (refine OW.nil ?_)
    | (apply OW.quiet; (· rfl); (· rfl); (· first | exact wanted_none rfl | (refine wanted_on rfl rfl ?_; simp [*]; done)); (· first | rfl | (simp [isQuiet]; done)); (· simp (disch := omega) [decT, decF, bneT, bneF, beqT, beqF, Go.IntWalk.i64_in, Go.IntWalk.u8_in, *] <;> rfl))
    | (apply OW.off; (· rfl); (· rfl); (· first | (refine wanted_off rfl rfl ?_; simp [*]; done) | (refine wanted_undef rfl rfl ?_; simp [*]; done)))
    | (apply OW.float; (· rfl); (· rfl); (· first | exact wanted_none rfl | (refine wanted_on rfl rfl ?_; simp [*]; done)); (· first | rfl | (simp [isQuiet]; done)); (· first | rfl | (simp [isFloat]; done)); (· simp (disch := omega) [decT, decF, bneT, bneF, beqT, beqF, *] <;> first | rfl | exact ⟨rfl, rfl⟩))
    | (refine XW.skip ?_) | (refine XW.seq ?_) | (refine XW.region ?_) | (refine XW.exit ?_) | (refine XW.ret ?_) | (refine XW.block ?_)
    | (refine XW.condT ?_ ?_; (· simp (disch := omega) [*]; done)) | (refine XW.condF ?_ ?_; (· simp (disch := omega) [*]; done)) | fail)
      refine ⟨rfl, rfl, d - 1, by omega, ⟨k + 1, by omega, by simp, by simp⟩, by simp [*], by simp [*], by simp [*], hg, hx.trans (Ext.set hw1 (Nat.le_refl _) _)⟩
    all_goals
      have hsame := lowTo_same hlt (UInt8.toNat_inj.1 (by omega))
      repeat' (first
    | (refine OW.nil ?_)
    | (apply OW.quiet; (· rfl); (· rfl); (· first | exact wanted_none rfl | (refine wanted_on rfl rfl ?_; simp [*]; done)); (· first | rfl | (simp [isQuiet]; done)); (· simp (disch := omega) [bytesA, decT, decF, bneT, bneF, beqT, beqF, Go.IntWalk.i64_in, Go.IntWalk.u8_in, *] <;> rfl))
    | (apply OW.off; (· rfl); (· rfl); (· first | (refine wanted_off rfl rfl ?_; simp [*]; done) | (refine wanted_undef rfl rfl ?_; simp [*]; done)))
    | (apply OW.float; (· rfl); (· rfl); (· first | exact wanted_none rfl | (refine wanted_on rfl rfl ?_; simp [*]; done)); (· first | rfl | (simp [isQuiet]; done)); (· first | rfl | (simp [isFloat]; done)); (· simp (disch := omega) [bytesA, decT, decF, bneT, bneF, beqT, beqF, *] <;> first | rfl | exact ⟨rfl, rfl⟩))
    | (refine XW.skip ?_) | (refine XW.seq ?_) | (refine XW.region ?_) | (refine XW.exit ?_) | (refine XW.ret ?_) | (refine XW.block ?_)
    | (refine XW.condT ?_ ?_; (· simp (disch := omega) [*]; done)) | (refine XW.condF ?_ ?_; (· simp (disch := omega) [*]; done)) | fail)
      exact ⟨rfl, rfl, d - 1, by omega, ⟨k + 1, by omega, by simp, by rw [hsame]; exact hb⟩, by simp [*], by simp [*], by simp [*], hg, hx⟩
  · obtain rfl : k = s.length := by omega
    have he : lowTo s s.length = s.map lowB := by simp [lowTo]
    rw [he] at hb
    have hr : readN (bytesA (s.map lowB)) 0 s.length = some (bytesA (s.map lowB)) := readN_all (by simp [bytesA])
    have hc : convA E.P st1 63 9 (.slice (some (st.next, 0)) s.length none) = some (.str (s.map lowB)) := by
      simp only [convA, u63, u9, by5, if_true, St.cellsAt, hb, Option.bind_some, hr, strA_bytesA, reduceCtorEq, if_false]
    repeat' (first
    | (refine OW.nil ?_)
    | (apply OW.quiet; (· rfl); (· rfl); (· first | exact wanted_none rfl | (refine wanted_on rfl rfl ?_; simp [*]; done)); (· first | rfl | (simp [isQuiet]; done)); (· simp (disch := omega) [decT, decF, bneT, bneF, beqT, beqF, Go.IntWalk.i64_in, Go.IntWalk.u8_in, *] <;> rfl))
    | (apply OW.off; (· rfl); (· rfl); (· first | (refine wanted_off rfl rfl ?_; simp [*]; done) | (refine wanted_undef rfl rfl ?_; simp [*]; done)))
    | (apply OW.float; (· rfl); (· rfl); (· first | exact wanted_none rfl | (refine wanted_on rfl rfl ?_; simp [*]; done)); (· first | rfl | (simp [isQuiet]; done)); (· first | rfl | (simp [isFloat]; done)); (· simp (disch := omega) [decT, decF, bneT, bneF, beqT, beqF, *] <;> first | rfl | exact ⟨rfl, rfl⟩))
    | (refine XW.skip ?_) | (refine XW.seq ?_) | (refine XW.region ?_) | (refine XW.exit ?_) | (refine XW.ret ?_) | (refine XW.block ?_)
    | (refine XW.condT ?_ ?_; (· simp (disch := omega) [*]; done)) | (refine XW.condF ?_ ?_; (· simp (disch := omega) [*]; done)) | fail)
    exact ⟨rfl, _, by simp; rfl, rfl, hx⟩
/-- postbagref1.Same, octet.Same -/
def sameL (a b : List UInt8) : Bool := a.map lowB == b.map lowB
theorem refSame (a b : List UInt8) (st : St) (hw : WF st) (ha : a.length ≤ 2 ^ 20) (hb : b.length ≤ 2 ^ 20) : CW E 80 [.str a, .str b] st (fun o s' => o = .ret (.bool (sameL a b)) ∧ Ext st.next st s') := by
  refine CW.enter (n0 := 10) (rs := [.tmp 4]) fn80 rfl rfl rfl rfl rfl ?_
  repeat' (first
    | (refine OW.nil ?_)
    | (apply OW.quiet; (· rfl); (· rfl); (· first | exact wanted_none rfl | (refine wanted_on rfl rfl ?_; simp [*]; done)); (· first | rfl | (simp [isQuiet]; done)); (· simp (disch := omega) [decT, decF, bneT, bneF, beqT, beqF, Go.IntWalk.i64_in, Go.IntWalk.u8_in, *] <;> rfl))
    | (apply OW.off; (· rfl); (· rfl); (· first | (refine wanted_off rfl rfl ?_; simp [*]; done) | (refine wanted_undef rfl rfl ?_; simp [*]; done)))
    | (apply OW.float; (· rfl); (· rfl); (· first | exact wanted_none rfl | (refine wanted_on rfl rfl ?_; simp [*]; done)); (· first | rfl | (simp [isQuiet]; done)); (· first | rfl | (simp [isFloat]; done)); (· simp (disch := omega) [decT, decF, bneT, bneF, beqT, beqF, *] <;> first | rfl | exact ⟨rfl, rfl⟩))
    | (refine XW.skip ?_) | (refine XW.seq ?_) | (refine XW.region ?_) | (refine XW.exit ?_) | (refine XW.ret ?_) | (refine XW.block ?_)
    | (refine XW.condT ?_ ?_; (· simp (disch := omega) [*]; done)) | (refine XW.condF ?_ ?_; (· simp (disch := omega) [*]; done)) | fail)
  (apply OW.callF; (· rfl); (· first | exact wanted_none rfl | (refine wanted_on rfl rfl ?_; simp [*]; done)); (· simp [*] <;> rfl); (· exact hb75); (refine (refLower a st hw ha).mono ?_; rintro _ s1 ⟨rfl, h1⟩; apply callK_ret; (· rfl); (· rfl)))
  repeat' (first
    | (refine OW.nil ?_)
    | (apply OW.quiet; (· rfl); (· rfl); (· first | exact wanted_none rfl | (refine wanted_on rfl rfl ?_; simp [*]; done)); (· first | rfl | (simp [isQuiet]; done)); (· simp (disch := omega) [decT, decF, bneT, bneF, beqT, beqF, Go.IntWalk.i64_in, Go.IntWalk.u8_in, *] <;> rfl))
    | (apply OW.off; (· rfl); (· rfl); (· first | (refine wanted_off rfl rfl ?_; simp [*]; done) | (refine wanted_undef rfl rfl ?_; simp [*]; done)))
    | (apply OW.float; (· rfl); (· rfl); (· first | exact wanted_none rfl | (refine wanted_on rfl rfl ?_; simp [*]; done)); (· first | rfl | (simp [isQuiet]; done)); (· first | rfl | (simp [isFloat]; done)); (· simp (disch := omega) [decT, decF, bneT, bneF, beqT, beqF, *] <;> first | rfl | exact ⟨rfl, rfl⟩))
    | (refine XW.skip ?_) | (refine XW.seq ?_) | (refine XW.region ?_) | (refine XW.exit ?_) | (refine XW.ret ?_) | (refine XW.block ?_)
    | (refine XW.condT ?_ ?_; (· simp (disch := omega) [*]; done)) | (refine XW.condF ?_ ?_; (· simp (disch := omega) [*]; done)) | fail)
  (apply OW.callF; (· rfl); (· first | exact wanted_none rfl | (refine wanted_on rfl rfl ?_; simp [*]; done)); (· simp [*] <;> rfl); (· exact hb75); (refine (refLower b s1 h1.wf hb).mono ?_; rintro _ s2 ⟨rfl, h2⟩; apply callK_ret; (· rfl); (· rfl)))
  repeat' (first
    | (refine OW.nil ?_)
    | (apply OW.quiet; (· rfl); (· rfl); (· first | exact wanted_none rfl | (refine wanted_on rfl rfl ?_; simp [*]; done)); (· first | rfl | (simp [isQuiet]; done)); (· simp (disch := omega) [decT, decF, bneT, bneF, beqT, beqF, Go.IntWalk.i64_in, Go.IntWalk.u8_in, *] <;> rfl))
    | (apply OW.off; (· rfl); (· rfl); (· first | (refine wanted_off rfl rfl ?_; simp [*]; done) | (refine wanted_undef rfl rfl ?_; simp [*]; done)))
    | (apply OW.float; (· rfl); (· rfl); (· first | exact wanted_none rfl | (refine wanted_on rfl rfl ?_; simp [*]; done)); (· first | rfl | (simp [isQuiet]; done)); (· first | rfl | (simp [isFloat]; done)); (· simp (disch := omega) [decT, decF, bneT, bneF, beqT, beqF, *] <;> first | rfl | exact ⟨rfl, rfl⟩))
    | (refine XW.skip ?_) | (refine XW.seq ?_) | (refine XW.region ?_) | (refine XW.exit ?_) | (refine XW.ret ?_) | (refine XW.block ?_)
    | (refine XW.condT ?_ ?_; (· simp (disch := omega) [*]; done)) | (refine XW.condF ?_ ?_; (· simp (disch := omega) [*]; done)) | fail)
  exact ⟨rfl, _, by simp; rfl, by simp [sameL], h1.andThen h1.le h2⟩
theorem octSame (a b : List UInt8) (st : St) (hw : WF st) (ha : a.length ≤ 2 ^ 20) (hb : b.length ≤ 2 ^ 20) : CW E 78 [.str a, .str b] st (fun o s' => o = .ret (.bool (sameL a b)) ∧ Ext st.next st s') := by
  refine CW.enter (n0 := 10) (rs := [.tmp 4]) fn78 rfl rfl rfl rfl rfl ?_
  repeat' (first
    | (refine OW.nil ?_)
    | (apply OW.quiet; (· rfl); (· rfl); (· first | exact wanted_none rfl | (refine wanted_on rfl rfl ?_; simp [*]; done)); (· first | rfl | (simp [isQuiet]; done)); (· simp (disch := omega) [decT, decF, bneT, bneF, beqT, beqF, Go.IntWalk.i64_in, Go.IntWalk.u8_in, *] <;> rfl))
    | (apply OW.off; (· rfl); (· rfl); (· first | (refine wanted_off rfl rfl ?_; simp [*]; done) | (refine wanted_undef rfl rfl ?_; simp [*]; done)))
    | (apply OW.float; (· rfl); (· rfl); (· first | exact wanted_none rfl | (refine wanted_on rfl rfl ?_; simp [*]; done)); (· first | rfl | (simp [isQuiet]; done)); (· first | rfl | (simp [isFloat]; done)); (· simp (disch := omega) [decT, decF, bneT, bneF, beqT, beqF, *] <;> first | rfl | exact ⟨rfl, rfl⟩))
    | (refine XW.skip ?_) | (refine XW.seq ?_) | (refine XW.region ?_) | (refine XW.exit ?_) | (refine XW.ret ?_) | (refine XW.block ?_)
    | (refine XW.condT ?_ ?_; (· simp (disch := omega) [*]; done)) | (refine XW.condF ?_ ?_; (· simp (disch := omega) [*]; done)) | fail)
  (apply OW.callF; (· rfl); (· first | exact wanted_none rfl | (refine wanted_on rfl rfl ?_; simp [*]; done)); (· simp [*] <;> rfl); (· exact hb63); (refine (octLower a st hw ha).mono ?_; rintro _ s1 ⟨rfl, h1⟩; apply callK_ret; (· rfl); (· rfl)))
  repeat' (first
    | (refine OW.nil ?_)
    | (apply OW.quiet; (· rfl); (· rfl); (· first | exact wanted_none rfl | (refine wanted_on rfl rfl ?_; simp [*]; done)); (· first | rfl | (simp [isQuiet]; done)); (· simp (disch := omega) [decT, decF, bneT, bneF, beqT, beqF, Go.IntWalk.i64_in, Go.IntWalk.u8_in, *] <;> rfl))
    | (apply OW.off; (· rfl); (· rfl); (· first | (refine wanted_off rfl rfl ?_; simp [*]; done) | (refine wanted_undef rfl rfl ?_; simp [*]; done)))
    | (apply OW.float; (· rfl); (· rfl); (· first | exact wanted_none rfl | (refine wanted_on rfl rfl ?_; simp [*]; done)); (· first | rfl | (simp [isQuiet]; done)); (· first | rfl | (simp [isFloat]; done)); (· simp (disch := omega) [decT, decF, bneT, bneF, beqT, beqF, *] <;> first | rfl | exact ⟨rfl, rfl⟩))
    | (refine XW.skip ?_) | (refine XW.seq ?_) | (refine XW.region ?_) | (refine XW.exit ?_) | (refine XW.ret ?_) | (refine XW.block ?_)
    | (refine XW.condT ?_ ?_; (· simp (disch := omega) [*]; done)) | (refine XW.condF ?_ ?_; (· simp (disch := omega) [*]; done)) | fail)
  (apply OW.callF; (· rfl); (· first | exact wanted_none rfl | (refine wanted_on rfl rfl ?_; simp [*]; done)); (· simp [*] <;> rfl); (· exact hb63); (refine (octLower b s1 h1.wf hb).mono ?_; rintro _ s2 ⟨rfl, h2⟩; apply callK_ret; (· rfl); (· rfl)))
  repeat' (first
    | (refine OW.nil ?_)
    | (apply OW.quiet; (· rfl); (· rfl); (· first | exact wanted_none rfl | (refine wanted_on rfl rfl ?_; simp [*]; done)); (· first | rfl | (simp [isQuiet]; done)); (· simp (disch := omega) [decT, decF, bneT, bneF, beqT, beqF, Go.IntWalk.i64_in, Go.IntWalk.u8_in, *] <;> rfl))
    | (apply OW.off; (· rfl); (· rfl); (· first | (refine wanted_off rfl rfl ?_; simp [*]; done) | (refine wanted_undef rfl rfl ?_; simp [*]; done)))
    | (apply OW.float; (· rfl); (· rfl); (· first | exact wanted_none rfl | (refine wanted_on rfl rfl ?_; simp [*]; done)); (· first | rfl | (simp [isQuiet]; done)); (· first | rfl | (simp [isFloat]; done)); (· simp (disch := omega) [decT, decF, bneT, bneF, beqT, beqF, *] <;> first | rfl | exact ⟨rfl, rfl⟩))
    | (refine XW.skip ?_) | (refine XW.seq ?_) | (refine XW.region ?_) | (refine XW.exit ?_) | (refine XW.ret ?_) | (refine XW.block ?_)
    | (refine XW.condT ?_ ?_; (· simp (disch := omega) [*]; done)) | (refine XW.condF ?_ ?_; (· simp (disch := omega) [*]; done)) | fail)
  exact ⟨rfl, _, by simp; rfl, by simp [sameL], h1.andThen h1.le h2⟩
/-- postbaglaw8.num -/
theorem numRun (n : Int) (st : St) (hw : WF st) : CW E 25 [.int .i64 n] st (fun o s' => o = .ret (.int .i64 n) ∧ s' = st) := by
  refine CW.enter (n0 := 4) (rs := [.tmp 2]) fn25 rfl rfl rfl rfl rfl ?_
  repeat' (first
    | (refine OW.nil ?_)
    | (apply OW.quiet; (· rfl); (· rfl); (· first | exact wanted_none rfl | (refine wanted_on rfl rfl ?_; simp [*]; done)); (· first | rfl | (simp [isQuiet]; done)); (· simp (disch := omega) [decT, decF, bneT, bneF, beqT, beqF, Go.IntWalk.i64_in, Go.IntWalk.u8_in, *] <;> rfl))
    | (apply OW.off; (· rfl); (· rfl); (· first | (refine wanted_off rfl rfl ?_; simp [*]; done) | (refine wanted_undef rfl rfl ?_; simp [*]; done)))
    | (apply OW.float; (· rfl); (· rfl); (· first | exact wanted_none rfl | (refine wanted_on rfl rfl ?_; simp [*]; done)); (· first | rfl | (simp [isQuiet]; done)); (· first | rfl | (simp [isFloat]; done)); (· simp (disch := omega) [decT, decF, bneT, bneF, beqT, beqF, *] <;> first | rfl | exact ⟨rfl, rfl⟩))
    | (refine XW.skip ?_) | (refine XW.seq ?_) | (refine XW.region ?_) | (refine XW.exit ?_) | (refine XW.ret ?_) | (refine XW.block ?_)
    | (refine XW.condT ?_ ?_; (· simp (disch := omega) [*]; done)) | (refine XW.condF ?_ ?_; (· simp (disch := omega) [*]; done)) | fail)
  exact ⟨rfl, _, by simp; rfl, rfl, rfl⟩
/-! ### The keys' names -/
def keyNames : List (List UInt8) := [[], [65, 82, 82, 73, 86, 65, 76], [67, 67], [68, 65, 84, 69], [70, 82, 79, 77], [83, 73, 90, 69], [83, 85, 66, 74, 69, 67, 84], [84, 79]]
def keyCells : List AV := [.str [], .nilFunc, .str [65, 82, 82, 73, 86, 65, 76], .func (.func 154) [] [], .str [67, 67], .func (.func 155) [] [], .str [68, 65, 84, 69], .func (.func 156) [] [], .str [70, 82, 79, 77], .func (.func 157) [] [], .str [83, 73, 90, 69], .func (.func 158) [] [], .str [83, 85, 66, 74, 69, 67, 84], .func (.func 159) [] [], .str [84, 79], .func (.func 160) [] []]
/-- thread.keys -/
theorem keysRun (st : St) (hw : WF st) : CW E 82 [] st (fun o s' => o = .ret (.agg keyCells) ∧ Ext st.next st s') := by
  refine CW.enter (n0 := 9) (rs := [.cell 0 119]) fn82 rfl rfl rfl rfl rfl ?_
  repeat' (first
    | (refine OW.nil ?_)
    | (apply OW.quiet; (· rfl); (· rfl); (· first | exact wanted_none rfl | (refine wanted_on rfl rfl ?_; simp [*]; done)); (· first | rfl | (simp [isQuiet]; done)); (· simp (disch := omega) [decT, decF, bneT, bneF, beqT, beqF, Go.IntWalk.i64_in, Go.IntWalk.u8_in, *] <;> rfl))
    | (apply OW.off; (· rfl); (· rfl); (· first | (refine wanted_off rfl rfl ?_; simp [*]; done) | (refine wanted_undef rfl rfl ?_; simp [*]; done)))
    | (apply OW.float; (· rfl); (· rfl); (· first | exact wanted_none rfl | (refine wanted_on rfl rfl ?_; simp [*]; done)); (· first | rfl | (simp [isQuiet]; done)); (· first | rfl | (simp [isFloat]; done)); (· simp (disch := omega) [decT, decF, bneT, bneF, beqT, beqF, *] <;> first | rfl | exact ⟨rfl, rfl⟩))
    | (refine XW.skip ?_) | (refine XW.seq ?_) | (refine XW.region ?_) | (refine XW.exit ?_) | (refine XW.ret ?_) | (refine XW.block ?_)
    | (refine XW.condT ?_ ?_; (· simp (disch := omega) [*]; done)) | (refine XW.condF ?_ ?_; (· simp (disch := omega) [*]; done)) | fail)
  (apply OW.store; (· rfl); (· first | exact wanted_none rfl | (refine wanted_on rfl rfl ?_; simp [*]; done)); (· rfl); (· simp [*] <;> first | rfl | exact ⟨rfl, rfl⟩); (· simp [*] <;> rfl); (· simp); (· simp); (· simp [*] <;> first | rfl | exact ⟨rfl, rfl, rfl⟩); (· exact (hw).even _); (· first | rfl | (simp <;> rfl)))
  repeat' (first
    | (refine OW.nil ?_)
    | (apply OW.quiet; (· rfl); (· rfl); (· first | exact wanted_none rfl | (refine wanted_on rfl rfl ?_; simp [*]; done)); (· first | rfl | (simp [isQuiet]; done)); (· simp (disch := omega) [decT, decF, bneT, bneF, beqT, beqF, Go.IntWalk.i64_in, Go.IntWalk.u8_in, *] <;> rfl))
    | (apply OW.off; (· rfl); (· rfl); (· first | (refine wanted_off rfl rfl ?_; simp [*]; done) | (refine wanted_undef rfl rfl ?_; simp [*]; done)))
    | (apply OW.float; (· rfl); (· rfl); (· first | exact wanted_none rfl | (refine wanted_on rfl rfl ?_; simp [*]; done)); (· first | rfl | (simp [isQuiet]; done)); (· first | rfl | (simp [isFloat]; done)); (· simp (disch := omega) [decT, decF, bneT, bneF, beqT, beqF, *] <;> first | rfl | exact ⟨rfl, rfl⟩))
    | (refine XW.skip ?_) | (refine XW.seq ?_) | (refine XW.region ?_) | (refine XW.exit ?_) | (refine XW.ret ?_) | (refine XW.block ?_)
    | (refine XW.condT ?_ ?_; (· simp (disch := omega) [*]; done)) | (refine XW.condF ?_ ?_; (· simp (disch := omega) [*]; done)) | fail)
  refine ⟨rfl, _, by simp; rfl, rfl, (Ext.alloc hw (Nat.le_refl _) _).trans (Ext.set (hw.alloc _) (Nat.le_refl _) _)⟩
/-- The number of a name among others, behind the first. -/
def kindFrom (s : List UInt8) : List (List UInt8) → Nat → Int
  | [], _ => 0
  | n :: ns, i => if sameL n s then i else kindFrom s ns (i + 1)
def kindOf (s : List UInt8) : Int := kindFrom s keyNames.tail 1
structure KindI (B : Nat) (st0 : St) (s : List UInt8) (d : Nat) (σ : Trie AV) (st : St) : Prop where
  k : ∃ k : Nat, k + d = 8 ∧ σ.get 6 = some (.int .i64 k) ∧ (k = 0 ∨ kindOf s = kindFrom s (keyNames.drop k) k)
  v5 : σ.get 5 = some (.agg keyCells)
  v0 : σ.get 0 = some (.str s)
  x : Ext B st0 st
/-- thread.kind -/
theorem kindRun (s : List UInt8) (st : St) (hw : WF st) (hs : s.length ≤ 2 ^ 20) : CW E 79 [.str s] st (fun o s' => o = .ret (.int .i64 (kindOf s)) ∧ Ext st.next st s') := by
  refine CW.enter (n0 := 20) (rs := [.tmp 2]) fn79 rfl rfl rfl rfl rfl ?_
  repeat' (first
    | (refine OW.nil ?_)
    | (apply OW.quiet; (· rfl); (· rfl); (· first | exact wanted_none rfl | (refine wanted_on rfl rfl ?_; simp [*]; done)); (· first | rfl | (simp [isQuiet]; done)); (· simp (disch := omega) [decT, decF, bneT, bneF, beqT, beqF, Go.IntWalk.i64_in, Go.IntWalk.u8_in, *] <;> rfl))
    | (apply OW.off; (· rfl); (· rfl); (· first | (refine wanted_off rfl rfl ?_; simp [*]; done) | (refine wanted_undef rfl rfl ?_; simp [*]; done)))
    | (apply OW.float; (· rfl); (· rfl); (· first | exact wanted_none rfl | (refine wanted_on rfl rfl ?_; simp [*]; done)); (· first | rfl | (simp [isQuiet]; done)); (· first | rfl | (simp [isFloat]; done)); (· simp (disch := omega) [decT, decF, bneT, bneF, beqT, beqF, *] <;> first | rfl | exact ⟨rfl, rfl⟩))
    | (refine XW.skip ?_) | (refine XW.seq ?_) | (refine XW.region ?_) | (refine XW.exit ?_) | (refine XW.ret ?_) | (refine XW.block ?_)
    | (refine XW.condT ?_ ?_; (· simp (disch := omega) [*]; done)) | (refine XW.condF ?_ ?_; (· simp (disch := omega) [*]; done)) | fail)
  (apply OW.callF; (· rfl); (· first | exact wanted_none rfl | (refine wanted_on rfl rfl ?_; simp [*]; done)); (· simp [*] <;> rfl); (· exact hb82); (refine (keysRun st hw).mono ?_; rintro _ s1 ⟨rfl, h1⟩; apply callK_ret; (· rfl); (· rfl)))
  repeat' (first
    | (refine OW.nil ?_)
    | (apply OW.quiet; (· rfl); (· rfl); (· first | exact wanted_none rfl | (refine wanted_on rfl rfl ?_; simp [*]; done)); (· first | rfl | (simp [isQuiet]; done)); (· simp (disch := omega) [decT, decF, bneT, bneF, beqT, beqF, Go.IntWalk.i64_in, Go.IntWalk.u8_in, *] <;> rfl))
    | (apply OW.off; (· rfl); (· rfl); (· first | (refine wanted_off rfl rfl ?_; simp [*]; done) | (refine wanted_undef rfl rfl ?_; simp [*]; done)))
    | (apply OW.float; (· rfl); (· rfl); (· first | exact wanted_none rfl | (refine wanted_on rfl rfl ?_; simp [*]; done)); (· first | rfl | (simp [isQuiet]; done)); (· first | rfl | (simp [isFloat]; done)); (· simp (disch := omega) [decT, decF, bneT, bneF, beqT, beqF, *] <;> first | rfl | exact ⟨rfl, rfl⟩))
    | (refine XW.skip ?_) | (refine XW.seq ?_) | (refine XW.region ?_) | (refine XW.exit ?_) | (refine XW.ret ?_) | (refine XW.block ?_)
    | (refine XW.condT ?_ ?_; (· simp (disch := omega) [*]; done)) | (refine XW.condF ?_ ?_; (· simp (disch := omega) [*]; done)) | fail)
  refine XW.rounds (KindI st.next st s) ?round 8 _ _ ?start
  case start => exact ⟨⟨0, rfl, by simp, .inl rfl⟩, by simp, by simp, h1⟩
  intro d σ st1 hI
  obtain ⟨⟨k, hk, h6, hr⟩, h5, h0, hx⟩ := hI
  have hw1 := hx.wf
  have hB : st.next ≤ st1.next := hx.le
  by_cases h8 : k = 8
  · subst h8
    have hz : kindOf s = 0 := by simpa [keyNames, kindFrom] using hr
    repeat' (first
    | (refine OW.nil ?_)
    | (apply OW.quiet; (· rfl); (· rfl); (· first | exact wanted_none rfl | (refine wanted_on rfl rfl ?_; simp [*]; done)); (· first | rfl | (simp [isQuiet]; done)); (· simp (disch := omega) [decT, decF, bneT, bneF, beqT, beqF, Go.IntWalk.i64_in, Go.IntWalk.u8_in, *] <;> rfl))
    | (apply OW.off; (· rfl); (· rfl); (· first | (refine wanted_off rfl rfl ?_; simp [*]; done) | (refine wanted_undef rfl rfl ?_; simp [*]; done)))
    | (apply OW.float; (· rfl); (· rfl); (· first | exact wanted_none rfl | (refine wanted_on rfl rfl ?_; simp [*]; done)); (· first | rfl | (simp [isQuiet]; done)); (· first | rfl | (simp [isFloat]; done)); (· simp (disch := omega) [decT, decF, bneT, bneF, beqT, beqF, *] <;> first | rfl | exact ⟨rfl, rfl⟩))
    | (refine XW.skip ?_) | (refine XW.seq ?_) | (refine XW.region ?_) | (refine XW.exit ?_) | (refine XW.ret ?_) | (refine XW.block ?_)
    | (refine XW.condT ?_ ?_; (· simp (disch := omega) [*]; done)) | (refine XW.condF ?_ ?_; (· simp (disch := omega) [*]; done)) | fail)
    exact ⟨rfl, _, by simp; rfl, by rw [hz]; rfl, hx⟩
  by_cases hk0 : k = 0
  · subst hk0
    repeat' (first
    | (refine OW.nil ?_)
    | (apply OW.quiet; (· rfl); (· rfl); (· first | exact wanted_none rfl | (refine wanted_on rfl rfl ?_; simp [*]; done)); (· first | rfl | (simp [isQuiet]; done)); (· simp (disch := omega) [keyCells, decT, decF, bneT, bneF, beqT, beqF, Go.IntWalk.i64_in, Go.IntWalk.u8_in, *] <;> rfl))
    | (apply OW.off; (· rfl); (· rfl); (· first | (refine wanted_off rfl rfl ?_; simp [*]; done) | (refine wanted_undef rfl rfl ?_; simp [*]; done)))
    | (apply OW.float; (· rfl); (· rfl); (· first | exact wanted_none rfl | (refine wanted_on rfl rfl ?_; simp [*]; done)); (· first | rfl | (simp [isQuiet]; done)); (· first | rfl | (simp [isFloat]; done)); (· simp (disch := omega) [keyCells, decT, decF, bneT, bneF, beqT, beqF, *] <;> first | rfl | exact ⟨rfl, rfl⟩))
    | (refine XW.skip ?_) | (refine XW.seq ?_) | (refine XW.region ?_) | (refine XW.exit ?_) | (refine XW.ret ?_) | (refine XW.block ?_)
    | (refine XW.condT ?_ ?_; (· simp (disch := omega) [*]; done)) | (refine XW.condF ?_ ?_; (· simp (disch := omega) [*]; done)) | fail)
    (apply OW.store; (· rfl); (· first | exact wanted_none rfl | (refine wanted_on rfl rfl ?_; simp [*]; done)); (· rfl); (· simp [*] <;> first | rfl | exact ⟨rfl, rfl⟩); (· simp [*] <;> rfl); (· simp); (· simp); (· simp [*] <;> first | rfl | exact ⟨rfl, rfl, rfl⟩); (· exact (hw1.alloc _).even _); (· first | rfl | (simp <;> rfl)))
    repeat' (first
    | (refine OW.nil ?_)
    | (apply OW.quiet; (· rfl); (· rfl); (· first | exact wanted_none rfl | (refine wanted_on rfl rfl ?_; simp [*]; done)); (· first | rfl | (simp [isQuiet]; done)); (· simp (disch := omega) [keyCells, decT, decF, bneT, bneF, beqT, beqF, Go.IntWalk.i64_in, Go.IntWalk.u8_in, *] <;> rfl))
    | (apply OW.off; (· rfl); (· rfl); (· first | (refine wanted_off rfl rfl ?_; simp [*]; done) | (refine wanted_undef rfl rfl ?_; simp [*]; done)))
    | (apply OW.float; (· rfl); (· rfl); (· first | exact wanted_none rfl | (refine wanted_on rfl rfl ?_; simp [*]; done)); (· first | rfl | (simp [isQuiet]; done)); (· first | rfl | (simp [isFloat]; done)); (· simp (disch := omega) [keyCells, decT, decF, bneT, bneF, beqT, beqF, *] <;> first | rfl | exact ⟨rfl, rfl⟩))
    | (refine XW.skip ?_) | (refine XW.seq ?_) | (refine XW.region ?_) | (refine XW.exit ?_) | (refine XW.ret ?_) | (refine XW.block ?_)
    | (refine XW.condT ?_ ?_; (· simp (disch := omega) [*]; done)) | (refine XW.condF ?_ ?_; (· simp (disch := omega) [*]; done)) | fail)
    refine ⟨rfl, rfl, 7, by omega, ⟨1, rfl, by simp, .inr rfl⟩, by simp [*], by simp [*], ?_⟩
    exact (hx.trans (Ext.alloc hw1 hB _)).trans (Ext.set (hw1.alloc _) hB _)
  · have hr' : kindOf s = kindFrom s (keyNames.drop k) k := by rcases hr with h | h; exact absurd h hk0; exact h
    have hc : k = 1 ∨ k = 2 ∨ k = 3 ∨ k = 4 ∨ k = 5 ∨ k = 6 ∨ k = 7 := by omega
    rcases hc with rfl | rfl | rfl | rfl | rfl | rfl | rfl
    all_goals
      simp only [keyNames, List.drop, kindFrom] at hr'
      repeat' (first
    | (refine OW.nil ?_)
    | (apply OW.quiet; (· rfl); (· rfl); (· first | exact wanted_none rfl | (refine wanted_on rfl rfl ?_; simp [*]; done)); (· first | rfl | (simp [isQuiet]; done)); (· simp (disch := omega) [keyCells, decT, decF, bneT, bneF, beqT, beqF, Go.IntWalk.i64_in, Go.IntWalk.u8_in, *] <;> rfl))
    | (apply OW.off; (· rfl); (· rfl); (· first | (refine wanted_off rfl rfl ?_; simp [*]; done) | (refine wanted_undef rfl rfl ?_; simp [*]; done)))
    | (apply OW.float; (· rfl); (· rfl); (· first | exact wanted_none rfl | (refine wanted_on rfl rfl ?_; simp [*]; done)); (· first | rfl | (simp [isQuiet]; done)); (· first | rfl | (simp [isFloat]; done)); (· simp (disch := omega) [keyCells, decT, decF, bneT, bneF, beqT, beqF, *] <;> first | rfl | exact ⟨rfl, rfl⟩))
    | (refine XW.skip ?_) | (refine XW.seq ?_) | (refine XW.region ?_) | (refine XW.exit ?_) | (refine XW.ret ?_) | (refine XW.block ?_)
    | (refine XW.condT ?_ ?_; (· simp (disch := omega) [*]; done)) | (refine XW.condF ?_ ?_; (· simp (disch := omega) [*]; done)) | fail)
      (apply OW.store; (· rfl); (· first | exact wanted_none rfl | (refine wanted_on rfl rfl ?_; simp [*]; done)); (· rfl); (· simp [*] <;> first | rfl | exact ⟨rfl, rfl⟩); (· simp [*] <;> rfl); (· simp); (· simp); (· simp [*] <;> first | rfl | exact ⟨rfl, rfl, rfl⟩); (· exact (hw1.alloc _).even _); (· first | rfl | (simp <;> rfl)))
      repeat' (first
    | (refine OW.nil ?_)
    | (apply OW.quiet; (· rfl); (· rfl); (· first | exact wanted_none rfl | (refine wanted_on rfl rfl ?_; simp [*]; done)); (· first | rfl | (simp [isQuiet]; done)); (· simp (disch := omega) [keyCells, decT, decF, bneT, bneF, beqT, beqF, Go.IntWalk.i64_in, Go.IntWalk.u8_in, *] <;> rfl))
    | (apply OW.off; (· rfl); (· rfl); (· first | (refine wanted_off rfl rfl ?_; simp [*]; done) | (refine wanted_undef rfl rfl ?_; simp [*]; done)))
    | (apply OW.float; (· rfl); (· rfl); (· first | exact wanted_none rfl | (refine wanted_on rfl rfl ?_; simp [*]; done)); (· first | rfl | (simp [isQuiet]; done)); (· first | rfl | (simp [isFloat]; done)); (· simp (disch := omega) [keyCells, decT, decF, bneT, bneF, beqT, beqF, *] <;> first | rfl | exact ⟨rfl, rfl⟩))
    | (refine XW.skip ?_) | (refine XW.seq ?_) | (refine XW.region ?_) | (refine XW.exit ?_) | (refine XW.ret ?_) | (refine XW.block ?_)
    | (refine XW.condT ?_ ?_; (· simp (disch := omega) [*]; done)) | (refine XW.condF ?_ ?_; (· simp (disch := omega) [*]; done)) | fail)
      (apply OW.callF; (· rfl); (· first | exact wanted_none rfl | (refine wanted_on rfl rfl ?_; simp [*]; done)); (· simp [*] <;> rfl); (· exact hb78); (refine (octSame _ s _ ((hw1.alloc _).set _ _) (by decide) hs).mono ?_; rintro _ s2 ⟨rfl, h2⟩; apply callK_ret; (· rfl); (· rfl)))
      have hx2 : Ext st.next st s2 := Ext.andThen ((hx.trans (Ext.alloc hw1 hB _)).trans (Ext.set (hw1.alloc _) hB _)) (by simp; omega) h2
      generalize hb : sameL _ s = b at hr' ⊢
      cases b
      · repeat' (first
    | (refine OW.nil ?_)
    | (apply OW.quiet; (· rfl); (· rfl); (· first | exact wanted_none rfl | (refine wanted_on rfl rfl ?_; simp [*]; done)); (· first | rfl | (simp [isQuiet]; done)); (· simp (disch := omega) [decT, decF, bneT, bneF, beqT, beqF, Go.IntWalk.i64_in, Go.IntWalk.u8_in, *] <;> rfl))
    | (apply OW.off; (· rfl); (· rfl); (· first | (refine wanted_off rfl rfl ?_; simp [*]; done) | (refine wanted_undef rfl rfl ?_; simp [*]; done)))
    | (apply OW.float; (· rfl); (· rfl); (· first | exact wanted_none rfl | (refine wanted_on rfl rfl ?_; simp [*]; done)); (· first | rfl | (simp [isQuiet]; done)); (· first | rfl | (simp [isFloat]; done)); (· simp (disch := omega) [decT, decF, bneT, bneF, beqT, beqF, *] <;> first | rfl | exact ⟨rfl, rfl⟩))
    | (refine XW.skip ?_) | (refine XW.seq ?_) | (refine XW.region ?_) | (refine XW.exit ?_) | (refine XW.ret ?_) | (refine XW.block ?_)
    | (refine XW.condT ?_ ?_; (· simp (disch := omega) [*]; done)) | (refine XW.condF ?_ ?_; (· simp (disch := omega) [*]; done)) | fail)
        refine ⟨rfl, rfl, d - 1, by omega, ⟨9 - d, by omega, by simp; omega, .inr ?_⟩, by simp [*], by simp [*], hx2⟩
        rw [hr']
        first | (obtain rfl : d = 7; (· omega)) | (obtain rfl : d = 6; (· omega)) | (obtain rfl : d = 5; (· omega)) | (obtain rfl : d = 4; (· omega)) | (obtain rfl : d = 3; (· omega)) | (obtain rfl : d = 2; (· omega)) | (obtain rfl : d = 1; (· omega))
        simp [keyNames, kindFrom]
      · repeat' (first
    | (refine OW.nil ?_)
    | (apply OW.quiet; (· rfl); (· rfl); (· first | exact wanted_none rfl | (refine wanted_on rfl rfl ?_; simp [*]; done)); (· first | rfl | (simp [isQuiet]; done)); (· simp (disch := omega) [decT, decF, bneT, bneF, beqT, beqF, Go.IntWalk.i64_in, Go.IntWalk.u8_in, *] <;> rfl))
    | (apply OW.off; (· rfl); (· rfl); (· first | (refine wanted_off rfl rfl ?_; simp [*]; done) | (refine wanted_undef rfl rfl ?_; simp [*]; done)))
    | (apply OW.float; (· rfl); (· rfl); (· first | exact wanted_none rfl | (refine wanted_on rfl rfl ?_; simp [*]; done)); (· first | rfl | (simp [isQuiet]; done)); (· first | rfl | (simp [isFloat]; done)); (· simp (disch := omega) [decT, decF, bneT, bneF, beqT, beqF, *] <;> first | rfl | exact ⟨rfl, rfl⟩))
    | (refine XW.skip ?_) | (refine XW.seq ?_) | (refine XW.region ?_) | (refine XW.exit ?_) | (refine XW.ret ?_) | (refine XW.block ?_)
    | (refine XW.condT ?_ ?_; (· simp (disch := omega) [*]; done)) | (refine XW.condF ?_ ?_; (· simp (disch := omega) [*]; done)) | fail)
        exact ⟨rfl, _, by simp; rfl, by rw [hr']; rfl, hx2⟩
end Go.Proofs.Tryz
