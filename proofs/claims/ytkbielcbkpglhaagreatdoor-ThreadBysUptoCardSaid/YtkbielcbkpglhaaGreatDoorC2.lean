/- What functions of the program give is shown by walks; each theorem names its conditions. -/
import Derived.Test.YtkbielcbkpglhaaGreatDoorC1
set_option linter.unusedVariables false
set_option linter.unusedSimpArgs false
set_option maxRecDepth 10000
namespace Go.Proofs.Tryz
open Go.Ev
attribute [local irreducible] Program.underlying Tables.info?
/-! ### postbagref8.by -/
def byNames : List (List UInt8) := [[97, 114, 114, 105, 118, 97, 108], [99, 99], [100, 97, 116, 101], [102, 114, 111, 109], [115, 105, 122, 101], [115, 117, 98, 106, 101, 99, 116], [116, 111]]
def byFrom (s : List UInt8) : List (List UInt8) → Nat → Int
  | [], _ => 0
  | n :: ns, i => if n == s.map lowB then (i : Int) + 1 else byFrom s ns (i + 1)
structure ByI (B : Nat) (st0 : St) (s : List UInt8) (d : Nat) (σ : Trie AV) (st : St) : Prop where
  k : ∃ k : Nat, k + d = 7 ∧ σ.get 4 = some (.int .i64 k) ∧ byFrom s byNames 0 = byFrom s (byNames.drop k) k
  v3 : σ.get 3 = some (.slice (some (B, 0)) 7 (some 7))
  v0 : σ.get 0 = some (.str s)
  blk : st.heap.get B = some (.cells (byNames.map .str) 9 (2 * B))
  lt : B < st.next
  x : Ext B st0 st
theorem byRun (s : List UInt8) (st : St) (hw : WF st) (hs : s.length ≤ 2 ^ 20) : CW E 81 [.str s] st (fun o s' => o = .ret (.int .i64 (byFrom s byNames 0)) ∧ Ext st.next st s') := by
  refine CW.enter (n0 := 21) (rs := [.tmp 2]) fn81 rfl rfl rfl rfl rfl ?_
  repeat' (first
    | (refine OW.nil ?_)
    | (apply OW.quiet; (· rfl); (· rfl); (· first | exact wanted_none rfl | (refine wanted_on rfl rfl ?_; simp [*]; done)); (· first | rfl | (simp [isQuiet]; done)); (· simp (disch := omega) [decT, decF, bneT, bneF, beqT, beqF, Go.IntWalk.i64_in, Go.IntWalk.u8_in, *] <;> rfl))
    | (apply OW.off; (· rfl); (· rfl); (· first | (refine wanted_off rfl rfl ?_; simp [*]; done) | (refine wanted_undef rfl rfl ?_; simp [*]; done)))
    | (apply OW.float; (· rfl); (· rfl); (· first | exact wanted_none rfl | (refine wanted_on rfl rfl ?_; simp [*]; done)); (· first | rfl | (simp [isQuiet]; done)); (· first | rfl | (simp [isFloat]; done)); (· simp (disch := omega) [decT, decF, bneT, bneF, beqT, beqF, *] <;> first | rfl | exact ⟨rfl, rfl⟩))
    | (refine XW.skip ?_) | (refine XW.seq ?_) | (refine XW.region ?_) | (refine XW.exit ?_) | (refine XW.ret ?_) | (refine XW.block ?_)
    | (refine XW.condT ?_ ?_; (· simp (disch := omega) [*]; done)) | (refine XW.condF ?_ ?_; (· simp (disch := omega) [*]; done)) | fail)
  refine XW.rounds (ByI st.next st s) ?round 7 _ _ ?start
  case start => exact ⟨⟨0, rfl, by simp, rfl⟩, by simp, by simp, by simp [byNames]; rfl, by simp, Ext.alloc hw (Nat.le_refl _) _⟩
  intro d σ st1 hI
  obtain ⟨⟨k, hk, h4, hr⟩, h3, h0, hb, hlt, hx⟩ := hI
  have hw1 := hx.wf
  by_cases h7 : k = 7
  · subst h7
    have hz : byFrom s byNames 0 = 0 := by rw [hr]; rfl
    repeat' (first
    | (refine OW.nil ?_)
    | (apply OW.quiet; (· rfl); (· rfl); (· first | exact wanted_none rfl | (refine wanted_on rfl rfl ?_; simp [*]; done)); (· first | rfl | (simp [isQuiet]; done)); (· simp (disch := omega) [decT, decF, bneT, bneF, beqT, beqF, Go.IntWalk.i64_in, Go.IntWalk.u8_in, *] <;> rfl))
    | (apply OW.off; (· rfl); (· rfl); (· first | (refine wanted_off rfl rfl ?_; simp [*]; done) | (refine wanted_undef rfl rfl ?_; simp [*]; done)))
    | (apply OW.float; (· rfl); (· rfl); (· first | exact wanted_none rfl | (refine wanted_on rfl rfl ?_; simp [*]; done)); (· first | rfl | (simp [isQuiet]; done)); (· first | rfl | (simp [isFloat]; done)); (· simp (disch := omega) [decT, decF, bneT, bneF, beqT, beqF, *] <;> first | rfl | exact ⟨rfl, rfl⟩))
    | (refine XW.skip ?_) | (refine XW.seq ?_) | (refine XW.region ?_) | (refine XW.exit ?_) | (refine XW.ret ?_) | (refine XW.block ?_)
    | (refine XW.condT ?_ ?_; (· simp (disch := omega) [*]; done)) | (refine XW.condF ?_ ?_; (· simp (disch := omega) [*]; done)) | fail)
    exact ⟨rfl, _, by simp; rfl, by rw [hz]; rfl, hx⟩
  have hc : k = 0 ∨ k = 1 ∨ k = 2 ∨ k = 3 ∨ k = 4 ∨ k = 5 ∨ k = 6 := by omega
  generalize hR : byFrom s byNames 0 = R at hr ⊢
  rcases hc with rfl | rfl | rfl | rfl | rfl | rfl | rfl
  all_goals
    simp only [byNames, List.drop, byFrom] at hr
    simp only [byNames, List.map_cons, List.map_nil] at hb
    have hcb := cellsAt_of hb
    repeat' (first
    | (refine OW.nil ?_)
    | (apply OW.quiet; (· rfl); (· rfl); (· first | exact wanted_none rfl | (refine wanted_on rfl rfl ?_; simp [*]; done)); (· first | rfl | (simp [isQuiet]; done)); (· simp (disch := omega) [decT, decF, bneT, bneF, beqT, beqF, Go.IntWalk.i64_in, Go.IntWalk.u8_in, *] <;> rfl))
    | (apply OW.off; (· rfl); (· rfl); (· first | (refine wanted_off rfl rfl ?_; simp [*]; done) | (refine wanted_undef rfl rfl ?_; simp [*]; done)))
    | (apply OW.float; (· rfl); (· rfl); (· first | exact wanted_none rfl | (refine wanted_on rfl rfl ?_; simp [*]; done)); (· first | rfl | (simp [isQuiet]; done)); (· first | rfl | (simp [isFloat]; done)); (· simp (disch := omega) [decT, decF, bneT, bneF, beqT, beqF, *] <;> first | rfl | exact ⟨rfl, rfl⟩))
    | (refine XW.skip ?_) | (refine XW.seq ?_) | (refine XW.region ?_) | (refine XW.exit ?_) | (refine XW.ret ?_) | (refine XW.block ?_)
    | (refine XW.condT ?_ ?_; (· simp (disch := omega) [*]; done)) | (refine XW.condF ?_ ?_; (· simp (disch := omega) [*]; done)) | fail)
    refine XW.draw (is := [4, 5, 0, 1, 2, 3, 6]) (by kernel_rfl) (by kernel_rfl) ?_
    intro b
    repeat' (first
    | (refine DW.nil ?_)
    | (apply DW.quiet; (· rfl); (· rfl); (· rfl); (· first | exact wanted_none rfl | (refine wanted_on rfl rfl ?_; simp [*]; done)); (· first | rfl | (simp [isQuiet]; done)); (· intro s' hag; simp (disch := omega) [hag.cells, decT, decF, bneT, bneF, beqT, beqF, Go.IntWalk.i64_in, Go.IntWalk.u8_in, *] <;> first | rfl | exact ⟨rfl, rfl⟩); intro _)
    | (apply DW.off; (· rfl); (· rfl); (· rfl); (· first | (refine wanted_off rfl rfl ?_; simp [*]; done) | (refine wanted_undef rfl rfl ?_; simp [*]; done)); intro _)
    | (apply DW.float; (· rfl); (· rfl); (· rfl); (· first | exact wanted_none rfl | (refine wanted_on rfl rfl ?_; simp [*]; done)); (· first | rfl | (simp [isQuiet]; done)); (· first | rfl | (simp [isFloat]; done)); (· simp (disch := omega) [decT, decF, bneT, bneF, beqT, beqF, *] <;> first | rfl | exact ⟨rfl, rfl⟩); (· simp (disch := omega) [*]); intro _) | fail)
    (apply DW.callF; (· rfl); (· rfl); (· first | exact wanted_none rfl | (refine wanted_on rfl rfl ?_; simp [*]; done)); (· simp [*] <;> rfl); (· exact hb75); (· simp (disch := omega) [*]); (refine (refLower s _ hw1 hs).mono ?_; rintro _ s2 ⟨rfl, h2⟩; apply dcallK_ret; (· rfl); (· rfl); (· exact h2.agree); intro _))
    repeat' (first
    | (refine DW.nil ?_)
    | (apply DW.quiet; (· rfl); (· rfl); (· rfl); (· first | exact wanted_none rfl | (refine wanted_on rfl rfl ?_; simp [*]; done)); (· first | rfl | (simp [isQuiet]; done)); (· intro s' hag; simp (disch := omega) [hag.cells, decT, decF, bneT, bneF, beqT, beqF, Go.IntWalk.i64_in, Go.IntWalk.u8_in, *] <;> first | rfl | exact ⟨rfl, rfl⟩); intro _)
    | (apply DW.off; (· rfl); (· rfl); (· rfl); (· first | (refine wanted_off rfl rfl ?_; simp [*]; done) | (refine wanted_undef rfl rfl ?_; simp [*]; done)); intro _)
    | (apply DW.float; (· rfl); (· rfl); (· rfl); (· first | exact wanted_none rfl | (refine wanted_on rfl rfl ?_; simp [*]; done)); (· first | rfl | (simp [isQuiet]; done)); (· first | rfl | (simp [isFloat]; done)); (· simp (disch := omega) [decT, decF, bneT, bneF, beqT, beqF, *] <;> first | rfl | exact ⟨rfl, rfl⟩); (· simp (disch := omega) [*]); intro _) | fail)
    generalize hbb : (_ == List.map lowB s) = bb at hr ⊢
    cases bb
    · repeat' (first
    | (refine OW.nil ?_)
    | (apply OW.quiet; (· rfl); (· rfl); (· first | exact wanted_none rfl | (refine wanted_on rfl rfl ?_; simp [*]; done)); (· first | rfl | (simp [isQuiet]; done)); (· simp (disch := omega) [decT, decF, bneT, bneF, beqT, beqF, Go.IntWalk.i64_in, Go.IntWalk.u8_in, *] <;> rfl))
    | (apply OW.off; (· rfl); (· rfl); (· first | (refine wanted_off rfl rfl ?_; simp [*]; done) | (refine wanted_undef rfl rfl ?_; simp [*]; done)))
    | (apply OW.float; (· rfl); (· rfl); (· first | exact wanted_none rfl | (refine wanted_on rfl rfl ?_; simp [*]; done)); (· first | rfl | (simp [isQuiet]; done)); (· first | rfl | (simp [isFloat]; done)); (· simp (disch := omega) [decT, decF, bneT, bneF, beqT, beqF, *] <;> first | rfl | exact ⟨rfl, rfl⟩))
    | (refine XW.skip ?_) | (refine XW.seq ?_) | (refine XW.region ?_) | (refine XW.exit ?_) | (refine XW.ret ?_) | (refine XW.block ?_)
    | (refine XW.condT ?_ ?_; (· simp (disch := omega) [*]; done)) | (refine XW.condF ?_ ?_; (· simp (disch := omega) [*]; done)) | fail)
      refine ⟨rfl, rfl, d - 1, by omega, ⟨8 - d, by omega, by simp; omega, ?_⟩, by simp [*], by simp [*], ?_, ?_, hx.andThen hx.le h2⟩
      · rw [hR, hr]
        first | (obtain rfl : d = 7; (· omega)) | (obtain rfl : d = 6; (· omega)) | (obtain rfl : d = 5; (· omega)) | (obtain rfl : d = 4; (· omega)) | (obtain rfl : d = 3; (· omega)) | (obtain rfl : d = 2; (· omega)) | (obtain rfl : d = 1; (· omega))
        simp [byNames, byFrom]
      · rw [h2.heap _ hlt, hb]; rfl
      · exact Nat.lt_of_lt_of_le hlt h2.le
    · repeat' (first
    | (refine OW.nil ?_)
    | (apply OW.quiet; (· rfl); (· rfl); (· first | exact wanted_none rfl | (refine wanted_on rfl rfl ?_; simp [*]; done)); (· first | rfl | (simp [isQuiet]; done)); (· simp (disch := omega) [decT, decF, bneT, bneF, beqT, beqF, Go.IntWalk.i64_in, Go.IntWalk.u8_in, *] <;> rfl))
    | (apply OW.off; (· rfl); (· rfl); (· first | (refine wanted_off rfl rfl ?_; simp [*]; done) | (refine wanted_undef rfl rfl ?_; simp [*]; done)))
    | (apply OW.float; (· rfl); (· rfl); (· first | exact wanted_none rfl | (refine wanted_on rfl rfl ?_; simp [*]; done)); (· first | rfl | (simp [isQuiet]; done)); (· first | rfl | (simp [isFloat]; done)); (· simp (disch := omega) [decT, decF, bneT, bneF, beqT, beqF, *] <;> first | rfl | exact ⟨rfl, rfl⟩))
    | (refine XW.skip ?_) | (refine XW.seq ?_) | (refine XW.region ?_) | (refine XW.exit ?_) | (refine XW.ret ?_) | (refine XW.block ?_)
    | (refine XW.condT ?_ ?_; (· simp (disch := omega) [*]; done)) | (refine XW.condF ?_ ?_; (· simp (disch := omega) [*]; done)) | fail)
      exact ⟨rfl, _, by simp; rfl, by rw [hr]; rfl, hx.andThen hx.le h2⟩
end Go.Proofs.Tryz
set_option linter.unusedVariables false
set_option linter.unusedSimpArgs false
set_option maxRecDepth 10000
namespace Go.Proofs.Tryz
open Go.Ev
attribute [local irreducible] Program.underlying Tables.info?
/-! ### Sort keys that are read -/
theorem byFrom_map (s : List UInt8) : ∀ (ns : List (List UInt8)) (i : Nat), byFrom s (ns.map (·.map lowB)) i = kindFrom s ns (i + 1)
  | [], _ => rfl
  | n :: ns, i => by
    simp only [List.map_cons, byFrom, kindFrom, byFrom_map s ns (i + 1), sameL]
    rfl
theorem kind_by (s : List UInt8) : byFrom s byNames 0 = kindOf s := by
  rw [show byNames = keyNames.tail.map (·.map lowB) from by decide, byFrom_map]
  rfl
structure WordV where
  kind : Int
  text : List UInt8
  ka : Option (Nat × Nat)
  nk : Nat
  kc : Option Nat
  glued : Bool
def encW (w : WordV) : List AV := [.int .i64 w.kind, .str w.text, .slice w.ka w.nk w.kc, .bool w.glued]
structure ByV where
  kind : Int
  rev : Bool
def encBy (b : ByV) : List AV := [.int .i64 b.kind, .bool b.rev]
def REV : List UInt8 := [82, 69, 86, 69, 82, 83, 69]
def badW (x : WordV) : Bool := x.kind != 1 || x.glued || decide (x.nk > 0)
def readGo : List WordV → Bool → List ByV → Option (List ByV × Bool)
  | [], t, l => some (l, t)
  | x :: xs, t, l => if badW x = true then none else if (!t && sameL x.text REV) = true then readGo xs true l else if kindOf x.text = 0 then none else readGo xs false (l ++ [⟨kindOf x.text, t⟩])
def readEnd : Option (List ByV × Bool) → List ByV × Int
  | none => ([], 80)
  | some (l, t) => if t = true ∨ l.length = 0 then ([], 80) else if l.length > 7 then ([], 41) else (l, 0)
def readAll (kind : Int) (ws : List WordV) : List ByV × Int := if ws.length > 14 then ([], 2) else if kind ≠ 4 then ([], 80) else readEnd (readGo ws false [])
theorem encBy_length (b : ByV) : (encBy b).length = 2 := rfl
theorem encW_length (b : WordV) : (encW b).length = 4 := rfl
structure ReadI (B : Nat) (st0 : St) (ws : List WordV) (kv : AV) (d : Nat) (σ : Trie AV) (st : St) : Prop where
  k : ∃ (k : Nat) (t : Bool) (l : List ByV) (v : AV), k + d = ws.length ∧ l.length ≤ k ∧ σ.get 19 = some (.int .i64 k) ∧ σ.get 5 = some (.bool t) ∧ σ.get 4 = some v ∧ Own B st 49 v l.length (l.flatMap encBy) ∧ readGo ws false [] = readGo (ws.drop k) t l
  v17 : σ.get 17 = some kv
  v18 : σ.get 18 = some (.int .i64 ws.length)
  x : Ext B st0 st
/-- thread.ReadBy -/
theorem readByRun (kind : Int) (text : List UInt8) (kv : AV) (glued : Bool) (ws : List WordV) (st : St) (hw : WF st) (hr : Row st 4 kv ws.length (ws.flatMap encW)) (ht : ∀ w ∈ ws, w.text.length ≤ 2 ^ 20) (hn : ws.length ≤ 2 ^ 20) :
    CW E 22 [.agg [.int .i64 kind, .str text, kv, .bool glued]] st (fun o s' => ∃ v, o = .ret (.tuple [v, .int .i64 (readAll kind ws).2]) ∧ Own st.next s' 49 v (readAll kind ws).1.length ((readAll kind ws).1.flatMap encBy) ∧ Ext st.next st s') := by
  obtain ⟨ka, kc, rfl⟩ := hr.len
  refine CW.enter (n0 := 67) (rs := [.tmp 2, .tmp 3]) fn22 rfl rfl rfl rfl rfl ?_
  by_cases h14 : ws.length > 14
  · repeat' (first
    | (refine OW.nil ?_)
    | (apply OW.quiet; (· rfl); (· rfl); (· first | exact wanted_none rfl | (refine wanted_on rfl rfl ?_; simp [*]; done)); (· first | rfl | (simp [isQuiet]; done)); (· simp (disch := omega) [decT, decF, bneT, bneF, beqT, beqF, Go.IntWalk.i64_in, Go.IntWalk.u8_in, *] <;> rfl))
    | (apply OW.off; (· rfl); (· rfl); (· first | (refine wanted_off rfl rfl ?_; simp [*]; done) | (refine wanted_undef rfl rfl ?_; simp [*]; done)))
    | (apply OW.float; (· rfl); (· rfl); (· first | exact wanted_none rfl | (refine wanted_on rfl rfl ?_; simp [*]; done)); (· first | rfl | (simp [isQuiet]; done)); (· first | rfl | (simp [isFloat]; done)); (· simp (disch := omega) [decT, decF, bneT, bneF, beqT, beqF, *] <;> first | rfl | exact ⟨rfl, rfl⟩))
    | (refine XW.skip ?_) | (refine XW.seq ?_) | (refine XW.region ?_) | (refine XW.exit ?_) | (refine XW.ret ?_) | (refine XW.block ?_)
    | (refine XW.condT ?_ ?_; (· simp (disch := omega) [*]; done)) | (refine XW.condF ?_ ?_; (· simp (disch := omega) [*]; done)) | fail)
    have e : readAll kind ws = ([], 2) := by simp [readAll, h14]
    rw [e]
    exact ⟨rfl, _, by simp; rfl, _, rfl, Own.nil, Ext.alloc hw (Nat.le_refl _) _⟩
  by_cases h4 : kind = 4
  rotate_right
  · repeat' (first
    | (refine OW.nil ?_)
    | (apply OW.quiet; (· rfl); (· rfl); (· first | exact wanted_none rfl | (refine wanted_on rfl rfl ?_; simp [*]; done)); (· first | rfl | (simp [isQuiet]; done)); (· simp (disch := omega) [decT, decF, bneT, bneF, beqT, beqF, Go.IntWalk.i64_in, Go.IntWalk.u8_in, *] <;> rfl))
    | (apply OW.off; (· rfl); (· rfl); (· first | (refine wanted_off rfl rfl ?_; simp [*]; done) | (refine wanted_undef rfl rfl ?_; simp [*]; done)))
    | (apply OW.float; (· rfl); (· rfl); (· first | exact wanted_none rfl | (refine wanted_on rfl rfl ?_; simp [*]; done)); (· first | rfl | (simp [isQuiet]; done)); (· first | rfl | (simp [isFloat]; done)); (· simp (disch := omega) [decT, decF, bneT, bneF, beqT, beqF, *] <;> first | rfl | exact ⟨rfl, rfl⟩))
    | (refine XW.skip ?_) | (refine XW.seq ?_) | (refine XW.region ?_) | (refine XW.exit ?_) | (refine XW.ret ?_) | (refine XW.block ?_)
    | (refine XW.condT ?_ ?_; (· simp (disch := omega) [*]; done)) | (refine XW.condF ?_ ?_; (· simp (disch := omega) [*]; done)) | fail)
    have e : readAll kind ws = ([], 80) := by simp [readAll, h14, h4]
    rw [e]
    exact ⟨rfl, _, by simp; rfl, _, rfl, Own.nil, Ext.alloc hw (Nat.le_refl _) _⟩
  subst h4
  have eAll : readAll 4 ws = readEnd (readGo ws false []) := by simp [readAll, h14]
  rw [eAll]
  repeat' (first
    | (refine OW.nil ?_)
    | (apply OW.quiet; (· rfl); (· rfl); (· first | exact wanted_none rfl | (refine wanted_on rfl rfl ?_; simp [*]; done)); (· first | rfl | (simp [isQuiet]; done)); (· simp (disch := omega) [decT, decF, bneT, bneF, beqT, beqF, Go.IntWalk.i64_in, Go.IntWalk.u8_in, *] <;> rfl))
    | (apply OW.off; (· rfl); (· rfl); (· first | (refine wanted_off rfl rfl ?_; simp [*]; done) | (refine wanted_undef rfl rfl ?_; simp [*]; done)))
    | (apply OW.float; (· rfl); (· rfl); (· first | exact wanted_none rfl | (refine wanted_on rfl rfl ?_; simp [*]; done)); (· first | rfl | (simp [isQuiet]; done)); (· first | rfl | (simp [isFloat]; done)); (· simp (disch := omega) [decT, decF, bneT, bneF, beqT, beqF, *] <;> first | rfl | exact ⟨rfl, rfl⟩))
    | (refine XW.skip ?_) | (refine XW.seq ?_) | (refine XW.region ?_) | (refine XW.exit ?_) | (refine XW.ret ?_) | (refine XW.block ?_)
    | (refine XW.condT ?_ ?_; (· simp (disch := omega) [*]; done)) | (refine XW.condF ?_ ?_; (· simp (disch := omega) [*]; done)) | fail)
  refine XW.rounds (ReadI st.next st ws (.slice ka ws.length kc)) ?round ws.length _ _ ?start
  case start => exact ⟨⟨0, false, [], _, by omega, Nat.le_refl _, by simp, by simp, by simp, Own.nil, rfl⟩, by simp, by simp, Ext.alloc hw (Nat.le_refl _) _⟩
  intro d σ st1 hI
  obtain ⟨⟨k, t, l, v, hk, hl, h19, h5, h4, ho, hgo⟩, h17, h18, hx⟩ := hI
  have hw1 := hx.wf
  have hB : st.next ≤ st1.next := hx.le
  by_cases hlt : k < ws.length
  rotate_right
  · obtain rfl : k = ws.length := by omega
    rw [List.drop_of_length_le (Nat.le_refl _)] at hgo
    simp only [readGo] at hgo
    rw [hgo]
    obtain ⟨va, vc, rfl⟩ := ho.len
    cases t
    · by_cases hl0 : l.length = 0
      · have e : readEnd (some (l, false)) = ([], 80) := by simp [readEnd, hl0]
        rw [e]
        repeat' (first
    | (refine OW.nil ?_)
    | (apply OW.quiet; (· rfl); (· rfl); (· first | exact wanted_none rfl | (refine wanted_on rfl rfl ?_; simp [*]; done)); (· first | rfl | (simp [isQuiet]; done)); (· simp (disch := omega) [decT, decF, bneT, bneF, beqT, beqF, Go.IntWalk.i64_in, Go.IntWalk.u8_in, *] <;> rfl))
    | (apply OW.off; (· rfl); (· rfl); (· first | (refine wanted_off rfl rfl ?_; simp [*]; done) | (refine wanted_undef rfl rfl ?_; simp [*]; done)))
    | (apply OW.float; (· rfl); (· rfl); (· first | exact wanted_none rfl | (refine wanted_on rfl rfl ?_; simp [*]; done)); (· first | rfl | (simp [isQuiet]; done)); (· first | rfl | (simp [isFloat]; done)); (· simp (disch := omega) [decT, decF, bneT, bneF, beqT, beqF, *] <;> first | rfl | exact ⟨rfl, rfl⟩))
    | (refine XW.skip ?_) | (refine XW.seq ?_) | (refine XW.region ?_) | (refine XW.exit ?_) | (refine XW.ret ?_) | (refine XW.block ?_)
    | (refine XW.condT ?_ ?_; (· simp (disch := omega) [*]; done)) | (refine XW.condF ?_ ?_; (· simp (disch := omega) [*]; done)) | fail)
        exact ⟨rfl, _, by simp; rfl, _, rfl, Own.nil, hx⟩
      · by_cases hl7 : l.length > 7
        · have e : readEnd (some (l, false)) = ([], 41) := by simp [readEnd, hl0, hl7]
          rw [e]
          repeat' (first
    | (refine OW.nil ?_)
    | (apply OW.quiet; (· rfl); (· rfl); (· first | exact wanted_none rfl | (refine wanted_on rfl rfl ?_; simp [*]; done)); (· first | rfl | (simp [isQuiet]; done)); (· simp (disch := omega) [decT, decF, bneT, bneF, beqT, beqF, Go.IntWalk.i64_in, Go.IntWalk.u8_in, *] <;> rfl))
    | (apply OW.off; (· rfl); (· rfl); (· first | (refine wanted_off rfl rfl ?_; simp [*]; done) | (refine wanted_undef rfl rfl ?_; simp [*]; done)))
    | (apply OW.float; (· rfl); (· rfl); (· first | exact wanted_none rfl | (refine wanted_on rfl rfl ?_; simp [*]; done)); (· first | rfl | (simp [isQuiet]; done)); (· first | rfl | (simp [isFloat]; done)); (· simp (disch := omega) [decT, decF, bneT, bneF, beqT, beqF, *] <;> first | rfl | exact ⟨rfl, rfl⟩))
    | (refine XW.skip ?_) | (refine XW.seq ?_) | (refine XW.region ?_) | (refine XW.exit ?_) | (refine XW.ret ?_) | (refine XW.block ?_)
    | (refine XW.condT ?_ ?_; (· simp (disch := omega) [*]; done)) | (refine XW.condF ?_ ?_; (· simp (disch := omega) [*]; done)) | fail)
          exact ⟨rfl, _, by simp; rfl, _, rfl, Own.nil, hx⟩
        · have e : readEnd (some (l, false)) = (l, 0) := by simp [readEnd, hl0, hl7]
          rw [e]
          repeat' (first
    | (refine OW.nil ?_)
    | (apply OW.quiet; (· rfl); (· rfl); (· first | exact wanted_none rfl | (refine wanted_on rfl rfl ?_; simp [*]; done)); (· first | rfl | (simp [isQuiet]; done)); (· simp (disch := omega) [decT, decF, bneT, bneF, beqT, beqF, Go.IntWalk.i64_in, Go.IntWalk.u8_in, *] <;> rfl))
    | (apply OW.off; (· rfl); (· rfl); (· first | (refine wanted_off rfl rfl ?_; simp [*]; done) | (refine wanted_undef rfl rfl ?_; simp [*]; done)))
    | (apply OW.float; (· rfl); (· rfl); (· first | exact wanted_none rfl | (refine wanted_on rfl rfl ?_; simp [*]; done)); (· first | rfl | (simp [isQuiet]; done)); (· first | rfl | (simp [isFloat]; done)); (· simp (disch := omega) [decT, decF, bneT, bneF, beqT, beqF, *] <;> first | rfl | exact ⟨rfl, rfl⟩))
    | (refine XW.skip ?_) | (refine XW.seq ?_) | (refine XW.region ?_) | (refine XW.exit ?_) | (refine XW.ret ?_) | (refine XW.block ?_)
    | (refine XW.condT ?_ ?_; (· simp (disch := omega) [*]; done)) | (refine XW.condF ?_ ?_; (· simp (disch := omega) [*]; done)) | fail)
          exact ⟨rfl, _, by simp; rfl, _, rfl, ho, hx⟩
    · have e : readEnd (some (l, true)) = ([], 80) := by simp [readEnd]
      rw [e]
      repeat' (first
    | (refine OW.nil ?_)
    | (apply OW.quiet; (· rfl); (· rfl); (· first | exact wanted_none rfl | (refine wanted_on rfl rfl ?_; simp [*]; done)); (· first | rfl | (simp [isQuiet]; done)); (· simp (disch := omega) [decT, decF, bneT, bneF, beqT, beqF, Go.IntWalk.i64_in, Go.IntWalk.u8_in, *] <;> rfl))
    | (apply OW.off; (· rfl); (· rfl); (· first | (refine wanted_off rfl rfl ?_; simp [*]; done) | (refine wanted_undef rfl rfl ?_; simp [*]; done)))
    | (apply OW.float; (· rfl); (· rfl); (· first | exact wanted_none rfl | (refine wanted_on rfl rfl ?_; simp [*]; done)); (· first | rfl | (simp [isQuiet]; done)); (· first | rfl | (simp [isFloat]; done)); (· simp (disch := omega) [decT, decF, bneT, bneF, beqT, beqF, *] <;> first | rfl | exact ⟨rfl, rfl⟩))
    | (refine XW.skip ?_) | (refine XW.seq ?_) | (refine XW.region ?_) | (refine XW.exit ?_) | (refine XW.ret ?_) | (refine XW.block ?_)
    | (refine XW.condT ?_ ?_; (· simp (disch := omega) [*]; done)) | (refine XW.condF ?_ ?_; (· simp (disch := omega) [*]; done)) | fail)
      exact ⟨rfl, _, by simp; rfl, _, rfl, Own.nil, hx⟩
  obtain ⟨id, off, c, all, hkv, hid, hca, hrd, hjs⟩ := hr.get encW_length (by omega) hlt
  injection hkv with e1 e2 e3
  subst e1
  have hca1 : st1.cellsAt id = some all := by rw [hx.cells hid]; exact hca
  have hne : id ≠ st1.next := by omega
  have htx := ht _ (List.getElem_mem hlt)
  have hx2 : ∀ b b', Ext st.next st { heap := (st1.alloc b).heap.put st1.next b', grps := (st1.alloc b).grps, next := (st1.alloc b).next } := fun b b' => (hx.trans (Ext.alloc hw1 hB _)).trans (Ext.set (hw1.alloc _) hB _)
  rw [List.drop_eq_getElem_cons hlt, readGo] at hgo
  generalize ws[k] = x at *
  obtain ⟨xk, xt, xa, xn, xc, xg⟩ := x
  simp only [encW] at hrd
  simp only at htx
  by_cases hbad : badW ⟨xk, xt, xa, xn, xc, xg⟩ = true
  · rw [if_pos hbad] at hgo
    have e : readEnd none = ([], 80) := rfl
    rw [hgo, e]
    by_cases h1 : xk = 1
    · cases xg
      · have hn0 : xn > 0 := by simpa [badW, h1] using hbad
        repeat' (first
    | (refine OW.nil ?_)
    | (apply OW.quiet; (· rfl); (· rfl); (· first | exact wanted_none rfl | (refine wanted_on rfl rfl ?_; simp [*]; done)); (· first | rfl | (simp [isQuiet]; done)); (· simp (disch := omega) [decT, decF, bneT, bneF, beqT, beqF, Go.IntWalk.i64_in, Go.IntWalk.u8_in, *] <;> rfl))
    | (apply OW.off; (· rfl); (· rfl); (· first | (refine wanted_off rfl rfl ?_; simp [*]; done) | (refine wanted_undef rfl rfl ?_; simp [*]; done)))
    | (apply OW.float; (· rfl); (· rfl); (· first | exact wanted_none rfl | (refine wanted_on rfl rfl ?_; simp [*]; done)); (· first | rfl | (simp [isQuiet]; done)); (· first | rfl | (simp [isFloat]; done)); (· simp (disch := omega) [decT, decF, bneT, bneF, beqT, beqF, *] <;> first | rfl | exact ⟨rfl, rfl⟩))
    | (refine XW.skip ?_) | (refine XW.seq ?_) | (refine XW.region ?_) | (refine XW.exit ?_) | (refine XW.ret ?_) | (refine XW.block ?_)
    | (refine XW.condT ?_ ?_; (· simp (disch := omega) [*]; done)) | (refine XW.condF ?_ ?_; (· simp (disch := omega) [*]; done)) | fail)
        (apply OW.store; (· rfl); (· first | exact wanted_none rfl | (refine wanted_on rfl rfl ?_; simp [*]; done)); (· rfl); (· simp [*] <;> first | rfl | exact ⟨rfl, rfl⟩); (· simp [*] <;> rfl); (· simp); (· simp); (· simp [*] <;> first | rfl | exact ⟨rfl, rfl, rfl⟩); (· exact (hw1.alloc _).even _); (· first | rfl | (simp <;> rfl)))
        repeat' (first
    | (refine OW.nil ?_)
    | (apply OW.quiet; (· rfl); (· rfl); (· first | exact wanted_none rfl | (refine wanted_on rfl rfl ?_; simp [*]; done)); (· first | rfl | (simp [isQuiet]; done)); (· simp (disch := omega) [decT, decF, bneT, bneF, beqT, beqF, Go.IntWalk.i64_in, Go.IntWalk.u8_in, *] <;> rfl))
    | (apply OW.off; (· rfl); (· rfl); (· first | (refine wanted_off rfl rfl ?_; simp [*]; done) | (refine wanted_undef rfl rfl ?_; simp [*]; done)))
    | (apply OW.float; (· rfl); (· rfl); (· first | exact wanted_none rfl | (refine wanted_on rfl rfl ?_; simp [*]; done)); (· first | rfl | (simp [isQuiet]; done)); (· first | rfl | (simp [isFloat]; done)); (· simp (disch := omega) [decT, decF, bneT, bneF, beqT, beqF, *] <;> first | rfl | exact ⟨rfl, rfl⟩))
    | (refine XW.skip ?_) | (refine XW.seq ?_) | (refine XW.region ?_) | (refine XW.exit ?_) | (refine XW.ret ?_) | (refine XW.block ?_)
    | (refine XW.condT ?_ ?_; (· simp (disch := omega) [*]; done)) | (refine XW.condF ?_ ?_; (· simp (disch := omega) [*]; done)) | fail)
        exact ⟨rfl, _, by simp; rfl, _, rfl, Own.nil, hx2 _ _⟩
      · repeat' (first
    | (refine OW.nil ?_)
    | (apply OW.quiet; (· rfl); (· rfl); (· first | exact wanted_none rfl | (refine wanted_on rfl rfl ?_; simp [*]; done)); (· first | rfl | (simp [isQuiet]; done)); (· simp (disch := omega) [decT, decF, bneT, bneF, beqT, beqF, Go.IntWalk.i64_in, Go.IntWalk.u8_in, *] <;> rfl))
    | (apply OW.off; (· rfl); (· rfl); (· first | (refine wanted_off rfl rfl ?_; simp [*]; done) | (refine wanted_undef rfl rfl ?_; simp [*]; done)))
    | (apply OW.float; (· rfl); (· rfl); (· first | exact wanted_none rfl | (refine wanted_on rfl rfl ?_; simp [*]; done)); (· first | rfl | (simp [isQuiet]; done)); (· first | rfl | (simp [isFloat]; done)); (· simp (disch := omega) [decT, decF, bneT, bneF, beqT, beqF, *] <;> first | rfl | exact ⟨rfl, rfl⟩))
    | (refine XW.skip ?_) | (refine XW.seq ?_) | (refine XW.region ?_) | (refine XW.exit ?_) | (refine XW.ret ?_) | (refine XW.block ?_)
    | (refine XW.condT ?_ ?_; (· simp (disch := omega) [*]; done)) | (refine XW.condF ?_ ?_; (· simp (disch := omega) [*]; done)) | fail)
        (apply OW.store; (· rfl); (· first | exact wanted_none rfl | (refine wanted_on rfl rfl ?_; simp [*]; done)); (· rfl); (· simp [*] <;> first | rfl | exact ⟨rfl, rfl⟩); (· simp [*] <;> rfl); (· simp); (· simp); (· simp [*] <;> first | rfl | exact ⟨rfl, rfl, rfl⟩); (· exact (hw1.alloc _).even _); (· first | rfl | (simp <;> rfl)))
        repeat' (first
    | (refine OW.nil ?_)
    | (apply OW.quiet; (· rfl); (· rfl); (· first | exact wanted_none rfl | (refine wanted_on rfl rfl ?_; simp [*]; done)); (· first | rfl | (simp [isQuiet]; done)); (· simp (disch := omega) [decT, decF, bneT, bneF, beqT, beqF, Go.IntWalk.i64_in, Go.IntWalk.u8_in, *] <;> rfl))
    | (apply OW.off; (· rfl); (· rfl); (· first | (refine wanted_off rfl rfl ?_; simp [*]; done) | (refine wanted_undef rfl rfl ?_; simp [*]; done)))
    | (apply OW.float; (· rfl); (· rfl); (· first | exact wanted_none rfl | (refine wanted_on rfl rfl ?_; simp [*]; done)); (· first | rfl | (simp [isQuiet]; done)); (· first | rfl | (simp [isFloat]; done)); (· simp (disch := omega) [decT, decF, bneT, bneF, beqT, beqF, *] <;> first | rfl | exact ⟨rfl, rfl⟩))
    | (refine XW.skip ?_) | (refine XW.seq ?_) | (refine XW.region ?_) | (refine XW.exit ?_) | (refine XW.ret ?_) | (refine XW.block ?_)
    | (refine XW.condT ?_ ?_; (· simp (disch := omega) [*]; done)) | (refine XW.condF ?_ ?_; (· simp (disch := omega) [*]; done)) | fail)
        exact ⟨rfl, _, by simp; rfl, _, rfl, Own.nil, hx2 _ _⟩
    · repeat' (first
    | (refine OW.nil ?_)
    | (apply OW.quiet; (· rfl); (· rfl); (· first | exact wanted_none rfl | (refine wanted_on rfl rfl ?_; simp [*]; done)); (· first | rfl | (simp [isQuiet]; done)); (· simp (disch := omega) [decT, decF, bneT, bneF, beqT, beqF, Go.IntWalk.i64_in, Go.IntWalk.u8_in, *] <;> rfl))
    | (apply OW.off; (· rfl); (· rfl); (· first | (refine wanted_off rfl rfl ?_; simp [*]; done) | (refine wanted_undef rfl rfl ?_; simp [*]; done)))
    | (apply OW.float; (· rfl); (· rfl); (· first | exact wanted_none rfl | (refine wanted_on rfl rfl ?_; simp [*]; done)); (· first | rfl | (simp [isQuiet]; done)); (· first | rfl | (simp [isFloat]; done)); (· simp (disch := omega) [decT, decF, bneT, bneF, beqT, beqF, *] <;> first | rfl | exact ⟨rfl, rfl⟩))
    | (refine XW.skip ?_) | (refine XW.seq ?_) | (refine XW.region ?_) | (refine XW.exit ?_) | (refine XW.ret ?_) | (refine XW.block ?_)
    | (refine XW.condT ?_ ?_; (· simp (disch := omega) [*]; done)) | (refine XW.condF ?_ ?_; (· simp (disch := omega) [*]; done)) | fail)
      (apply OW.store; (· rfl); (· first | exact wanted_none rfl | (refine wanted_on rfl rfl ?_; simp [*]; done)); (· rfl); (· simp [*] <;> first | rfl | exact ⟨rfl, rfl⟩); (· simp [*] <;> rfl); (· simp); (· simp); (· simp [*] <;> first | rfl | exact ⟨rfl, rfl, rfl⟩); (· exact (hw1.alloc _).even _); (· first | rfl | (simp <;> rfl)))
      repeat' (first
    | (refine OW.nil ?_)
    | (apply OW.quiet; (· rfl); (· rfl); (· first | exact wanted_none rfl | (refine wanted_on rfl rfl ?_; simp [*]; done)); (· first | rfl | (simp [isQuiet]; done)); (· simp (disch := omega) [decT, decF, bneT, bneF, beqT, beqF, Go.IntWalk.i64_in, Go.IntWalk.u8_in, *] <;> rfl))
    | (apply OW.off; (· rfl); (· rfl); (· first | (refine wanted_off rfl rfl ?_; simp [*]; done) | (refine wanted_undef rfl rfl ?_; simp [*]; done)))
    | (apply OW.float; (· rfl); (· rfl); (· first | exact wanted_none rfl | (refine wanted_on rfl rfl ?_; simp [*]; done)); (· first | rfl | (simp [isQuiet]; done)); (· first | rfl | (simp [isFloat]; done)); (· simp (disch := omega) [decT, decF, bneT, bneF, beqT, beqF, *] <;> first | rfl | exact ⟨rfl, rfl⟩))
    | (refine XW.skip ?_) | (refine XW.seq ?_) | (refine XW.region ?_) | (refine XW.exit ?_) | (refine XW.ret ?_) | (refine XW.block ?_)
    | (refine XW.condT ?_ ?_; (· simp (disch := omega) [*]; done)) | (refine XW.condF ?_ ?_; (· simp (disch := omega) [*]; done)) | fail)
      exact ⟨rfl, _, by simp; rfl, _, rfl, Own.nil, hx2 _ _⟩
  rw [if_neg hbad] at hgo
  obtain ⟨⟨h1, rfl⟩, hn0⟩ : (xk = 1 ∧ xg = false) ∧ ¬ xn > 0 := by simpa [badW] using hbad
  subst h1
  have hw2 := fun b b' => (hx2 b b').wf
  by_cases hrev : (!t && sameL xt REV) = true
  · rw [if_pos hrev] at hgo
    obtain ⟨rfl, hs⟩ : t = false ∧ sameL xt REV = true := by simpa using hrev
    repeat' (first
    | (refine OW.nil ?_)
    | (apply OW.quiet; (· rfl); (· rfl); (· first | exact wanted_none rfl | (refine wanted_on rfl rfl ?_; simp [*]; done)); (· first | rfl | (simp [isQuiet]; done)); (· simp (disch := omega) [decT, decF, bneT, bneF, beqT, beqF, Go.IntWalk.i64_in, Go.IntWalk.u8_in, *] <;> rfl))
    | (apply OW.off; (· rfl); (· rfl); (· first | (refine wanted_off rfl rfl ?_; simp [*]; done) | (refine wanted_undef rfl rfl ?_; simp [*]; done)))
    | (apply OW.float; (· rfl); (· rfl); (· first | exact wanted_none rfl | (refine wanted_on rfl rfl ?_; simp [*]; done)); (· first | rfl | (simp [isQuiet]; done)); (· first | rfl | (simp [isFloat]; done)); (· simp (disch := omega) [decT, decF, bneT, bneF, beqT, beqF, *] <;> first | rfl | exact ⟨rfl, rfl⟩))
    | (refine XW.skip ?_) | (refine XW.seq ?_) | (refine XW.region ?_) | (refine XW.exit ?_) | (refine XW.ret ?_) | (refine XW.block ?_)
    | (refine XW.condT ?_ ?_; (· simp (disch := omega) [*]; done)) | (refine XW.condF ?_ ?_; (· simp (disch := omega) [*]; done)) | fail)
    (apply OW.store; (· rfl); (· first | exact wanted_none rfl | (refine wanted_on rfl rfl ?_; simp [*]; done)); (· rfl); (· simp [*] <;> first | rfl | exact ⟨rfl, rfl⟩); (· simp [*] <;> rfl); (· simp); (· simp); (· simp [*] <;> first | rfl | exact ⟨rfl, rfl, rfl⟩); (· exact (hw1.alloc _).even _); (· first | rfl | (simp <;> rfl)))
    repeat' (first
    | (refine OW.nil ?_)
    | (apply OW.quiet; (· rfl); (· rfl); (· first | exact wanted_none rfl | (refine wanted_on rfl rfl ?_; simp [*]; done)); (· first | rfl | (simp [isQuiet]; done)); (· simp (disch := omega) [decT, decF, bneT, bneF, beqT, beqF, Go.IntWalk.i64_in, Go.IntWalk.u8_in, *] <;> rfl))
    | (apply OW.off; (· rfl); (· rfl); (· first | (refine wanted_off rfl rfl ?_; simp [*]; done) | (refine wanted_undef rfl rfl ?_; simp [*]; done)))
    | (apply OW.float; (· rfl); (· rfl); (· first | exact wanted_none rfl | (refine wanted_on rfl rfl ?_; simp [*]; done)); (· first | rfl | (simp [isQuiet]; done)); (· first | rfl | (simp [isFloat]; done)); (· simp (disch := omega) [decT, decF, bneT, bneF, beqT, beqF, *] <;> first | rfl | exact ⟨rfl, rfl⟩))
    | (refine XW.skip ?_) | (refine XW.seq ?_) | (refine XW.region ?_) | (refine XW.exit ?_) | (refine XW.ret ?_) | (refine XW.block ?_)
    | (refine XW.condT ?_ ?_; (· simp (disch := omega) [*]; done)) | (refine XW.condF ?_ ?_; (· simp (disch := omega) [*]; done)) | fail)
    (apply OW.callF; (· rfl); (· first | exact wanted_none rfl | (refine wanted_on rfl rfl ?_; simp [*]; done)); (· simp [*] <;> rfl); (· exact hb78); (refine (octSame xt REV _ (hw2 _ _) htx (by decide)).mono ?_; rintro _ s2 ⟨rfl, h2⟩; apply callK_ret; (· rfl); (· rfl)))
    repeat' (first
    | (refine OW.nil ?_)
    | (apply OW.quiet; (· rfl); (· rfl); (· first | exact wanted_none rfl | (refine wanted_on rfl rfl ?_; simp [*]; done)); (· first | rfl | (simp [isQuiet]; done)); (· simp (disch := omega) [decT, decF, bneT, bneF, beqT, beqF, Go.IntWalk.i64_in, Go.IntWalk.u8_in, *] <;> rfl))
    | (apply OW.off; (· rfl); (· rfl); (· first | (refine wanted_off rfl rfl ?_; simp [*]; done) | (refine wanted_undef rfl rfl ?_; simp [*]; done)))
    | (apply OW.float; (· rfl); (· rfl); (· first | exact wanted_none rfl | (refine wanted_on rfl rfl ?_; simp [*]; done)); (· first | rfl | (simp [isQuiet]; done)); (· first | rfl | (simp [isFloat]; done)); (· simp (disch := omega) [decT, decF, bneT, bneF, beqT, beqF, *] <;> first | rfl | exact ⟨rfl, rfl⟩))
    | (refine XW.skip ?_) | (refine XW.seq ?_) | (refine XW.region ?_) | (refine XW.exit ?_) | (refine XW.ret ?_) | (refine XW.block ?_)
    | (refine XW.condT ?_ ?_; (· simp (disch := omega) [*]; done)) | (refine XW.condF ?_ ?_; (· simp (disch := omega) [*]; done)) | fail)
    have hx3 := (hx2 _ _).andThen (by simp; omega) h2
    have ho2 := ho.ext (((Ext.alloc hw1 (Nat.le_refl _) _).trans (Ext.set (hw1.alloc _) (Nat.le_refl _) _)).andThen (by simp) h2)
    exact ⟨rfl, rfl, d - 1, by omega, ⟨k + 1, true, l, v, by omega, by omega, by simp, by simp, by simp [*], ho2, hgo⟩, by simp [*], by simp [*], hx3⟩
  rw [if_neg hrev] at hgo
  simp only at hgo
  cases t
  · have hs : sameL xt REV = false := by simpa using hrev
    repeat' (first
    | (refine OW.nil ?_)
    | (apply OW.quiet; (· rfl); (· rfl); (· first | exact wanted_none rfl | (refine wanted_on rfl rfl ?_; simp [*]; done)); (· first | rfl | (simp [isQuiet]; done)); (· simp (disch := omega) [decT, decF, bneT, bneF, beqT, beqF, Go.IntWalk.i64_in, Go.IntWalk.u8_in, *] <;> rfl))
    | (apply OW.off; (· rfl); (· rfl); (· first | (refine wanted_off rfl rfl ?_; simp [*]; done) | (refine wanted_undef rfl rfl ?_; simp [*]; done)))
    | (apply OW.float; (· rfl); (· rfl); (· first | exact wanted_none rfl | (refine wanted_on rfl rfl ?_; simp [*]; done)); (· first | rfl | (simp [isQuiet]; done)); (· first | rfl | (simp [isFloat]; done)); (· simp (disch := omega) [decT, decF, bneT, bneF, beqT, beqF, *] <;> first | rfl | exact ⟨rfl, rfl⟩))
    | (refine XW.skip ?_) | (refine XW.seq ?_) | (refine XW.region ?_) | (refine XW.exit ?_) | (refine XW.ret ?_) | (refine XW.block ?_)
    | (refine XW.condT ?_ ?_; (· simp (disch := omega) [*]; done)) | (refine XW.condF ?_ ?_; (· simp (disch := omega) [*]; done)) | fail)
    (apply OW.store; (· rfl); (· first | exact wanted_none rfl | (refine wanted_on rfl rfl ?_; simp [*]; done)); (· rfl); (· simp [*] <;> first | rfl | exact ⟨rfl, rfl⟩); (· simp [*] <;> rfl); (· simp); (· simp); (· simp [*] <;> first | rfl | exact ⟨rfl, rfl, rfl⟩); (· exact (hw1.alloc _).even _); (· first | rfl | (simp <;> rfl)))
    repeat' (first
    | (refine OW.nil ?_)
    | (apply OW.quiet; (· rfl); (· rfl); (· first | exact wanted_none rfl | (refine wanted_on rfl rfl ?_; simp [*]; done)); (· first | rfl | (simp [isQuiet]; done)); (· simp (disch := omega) [decT, decF, bneT, bneF, beqT, beqF, Go.IntWalk.i64_in, Go.IntWalk.u8_in, *] <;> rfl))
    | (apply OW.off; (· rfl); (· rfl); (· first | (refine wanted_off rfl rfl ?_; simp [*]; done) | (refine wanted_undef rfl rfl ?_; simp [*]; done)))
    | (apply OW.float; (· rfl); (· rfl); (· first | exact wanted_none rfl | (refine wanted_on rfl rfl ?_; simp [*]; done)); (· first | rfl | (simp [isQuiet]; done)); (· first | rfl | (simp [isFloat]; done)); (· simp (disch := omega) [decT, decF, bneT, bneF, beqT, beqF, *] <;> first | rfl | exact ⟨rfl, rfl⟩))
    | (refine XW.skip ?_) | (refine XW.seq ?_) | (refine XW.region ?_) | (refine XW.exit ?_) | (refine XW.ret ?_) | (refine XW.block ?_)
    | (refine XW.condT ?_ ?_; (· simp (disch := omega) [*]; done)) | (refine XW.condF ?_ ?_; (· simp (disch := omega) [*]; done)) | fail)
    (apply OW.callF; (· rfl); (· first | exact wanted_none rfl | (refine wanted_on rfl rfl ?_; simp [*]; done)); (· simp [*] <;> rfl); (· exact hb78); (refine (octSame xt REV _ (hw2 _ _) htx (by decide)).mono ?_; rintro _ s2 ⟨rfl, h2⟩; apply callK_ret; (· rfl); (· rfl)))
    have hx3 := (hx2 _ _).andThen (by simp; omega) h2
    have hx4 := ((Ext.alloc hw1 (Nat.le_refl _) _).trans (Ext.set (hw1.alloc _) (Nat.le_refl _) _)).andThen (by simp) h2
    have hc2 : s2.cellsAt st1.next = some [.int .i64 1, .str xt, .slice xa xn xc, .bool false] := by rw [h2.cells (by simp)]; simp
    clear h2 hw2 hx2
    repeat' (first
    | (refine OW.nil ?_)
    | (apply OW.quiet; (· rfl); (· rfl); (· first | exact wanted_none rfl | (refine wanted_on rfl rfl ?_; simp [*]; done)); (· first | rfl | (simp [isQuiet]; done)); (· simp (disch := omega) [decT, decF, bneT, bneF, beqT, beqF, Go.IntWalk.i64_in, Go.IntWalk.u8_in, *] <;> rfl))
    | (apply OW.off; (· rfl); (· rfl); (· first | (refine wanted_off rfl rfl ?_; simp [*]; done) | (refine wanted_undef rfl rfl ?_; simp [*]; done)))
    | (apply OW.float; (· rfl); (· rfl); (· first | exact wanted_none rfl | (refine wanted_on rfl rfl ?_; simp [*]; done)); (· first | rfl | (simp [isQuiet]; done)); (· first | rfl | (simp [isFloat]; done)); (· simp (disch := omega) [decT, decF, bneT, bneF, beqT, beqF, *] <;> first | rfl | exact ⟨rfl, rfl⟩))
    | (refine XW.skip ?_) | (refine XW.seq ?_) | (refine XW.region ?_) | (refine XW.exit ?_) | (refine XW.ret ?_) | (refine XW.block ?_)
    | (refine XW.condT ?_ ?_; (· simp (disch := omega) [*]; done)) | (refine XW.condF ?_ ?_; (· simp (disch := omega) [*]; done)) | fail)
    (apply OW.callF; (· rfl); (· first | exact wanted_none rfl | (refine wanted_on rfl rfl ?_; simp [*]; done)); (· simp [*] <;> rfl); (· exact hb79); (refine (kindRun xt _ hx3.wf htx).mono ?_; rintro _ s3 ⟨rfl, h3⟩; apply callK_ret; (· rfl); (· rfl)))
    have ho3 := ho.ext (hx4.andThen hx4.le h3)
    have hx5 := hx3.andThen (Nat.le_trans hB hx4.le) h3
    by_cases hk0 : kindOf xt = 0
    · rw [if_pos hk0] at hgo
      have e : readEnd none = ([], 80) := rfl
      rw [hgo, e]
      repeat' (first
    | (refine OW.nil ?_)
    | (apply OW.quiet; (· rfl); (· rfl); (· first | exact wanted_none rfl | (refine wanted_on rfl rfl ?_; simp [*]; done)); (· first | rfl | (simp [isQuiet]; done)); (· simp (disch := omega) [decT, decF, bneT, bneF, beqT, beqF, Go.IntWalk.i64_in, Go.IntWalk.u8_in, *] <;> rfl))
    | (apply OW.off; (· rfl); (· rfl); (· first | (refine wanted_off rfl rfl ?_; simp [*]; done) | (refine wanted_undef rfl rfl ?_; simp [*]; done)))
    | (apply OW.float; (· rfl); (· rfl); (· first | exact wanted_none rfl | (refine wanted_on rfl rfl ?_; simp [*]; done)); (· first | rfl | (simp [isQuiet]; done)); (· first | rfl | (simp [isFloat]; done)); (· simp (disch := omega) [decT, decF, bneT, bneF, beqT, beqF, *] <;> first | rfl | exact ⟨rfl, rfl⟩))
    | (refine XW.skip ?_) | (refine XW.seq ?_) | (refine XW.region ?_) | (refine XW.exit ?_) | (refine XW.ret ?_) | (refine XW.block ?_)
    | (refine XW.condT ?_ ?_; (· simp (disch := omega) [*]; done)) | (refine XW.condF ?_ ?_; (· simp (disch := omega) [*]; done)) | fail)
      exact ⟨rfl, _, by simp; rfl, _, rfl, Own.nil, hx5⟩
    · rw [if_neg hk0] at hgo
      have ho4 := ho3.ext (Ext.alloc hx5.wf (Nat.le_refl _) (.cells [.int .i64 (kindOf xt), .bool false] 49 (2 * s3.next)))
      repeat' (first
    | (refine OW.nil ?_)
    | (apply OW.quiet; (· rfl); (· rfl); (· first | exact wanted_none rfl | (refine wanted_on rfl rfl ?_; simp [*]; done)); (· first | rfl | (simp [isQuiet]; done)); (· simp (disch := omega) [decT, decF, bneT, bneF, beqT, beqF, Go.IntWalk.i64_in, Go.IntWalk.u8_in, *] <;> rfl))
    | (apply OW.off; (· rfl); (· rfl); (· first | (refine wanted_off rfl rfl ?_; simp [*]; done) | (refine wanted_undef rfl rfl ?_; simp [*]; done)))
    | (apply OW.float; (· rfl); (· rfl); (· first | exact wanted_none rfl | (refine wanted_on rfl rfl ?_; simp [*]; done)); (· first | rfl | (simp [isQuiet]; done)); (· first | rfl | (simp [isFloat]; done)); (· simp (disch := omega) [decT, decF, bneT, bneF, beqT, beqF, *] <;> first | rfl | exact ⟨rfl, rfl⟩))
    | (refine XW.skip ?_) | (refine XW.seq ?_) | (refine XW.region ?_) | (refine XW.exit ?_) | (refine XW.ret ?_) | (refine XW.block ?_)
    | (refine XW.condT ?_ ?_; (· simp (disch := omega) [*]; done)) | (refine XW.condF ?_ ?_; (· simp (disch := omega) [*]; done)) | fail)
      (apply OW.append; (· rfl); (· rfl); (· first | exact wanted_none rfl | (refine wanted_on rfl rfl ?_; simp [*]; done)); (· rfl); (· simp [*] <;> rfl); (· simp [*] <;> rfl); (· simp); (· simp <;> rfl); (· simp <;> rfl); (· simp <;> rfl); (· simp [*] <;> rfl); (· exact ho4); (· exact hx5.wf.alloc _); (· (have := hx5.le; simp; omega)); (· simp); (· omega); (· exact flat_length encBy_length l); (· omega); (· simp); (· decide))
      intro s4 id4 g4 hown hext _ hid4 _ _ _
      subst hid4
      repeat' (first
    | (refine OW.nil ?_)
    | (apply OW.quiet; (· rfl); (· rfl); (· first | exact wanted_none rfl | (refine wanted_on rfl rfl ?_; simp [*]; done)); (· first | rfl | (simp [isQuiet]; done)); (· simp (disch := omega) [decT, decF, bneT, bneF, beqT, beqF, Go.IntWalk.i64_in, Go.IntWalk.u8_in, *] <;> rfl))
    | (apply OW.off; (· rfl); (· rfl); (· first | (refine wanted_off rfl rfl ?_; simp [*]; done) | (refine wanted_undef rfl rfl ?_; simp [*]; done)))
    | (apply OW.float; (· rfl); (· rfl); (· first | exact wanted_none rfl | (refine wanted_on rfl rfl ?_; simp [*]; done)); (· first | rfl | (simp [isQuiet]; done)); (· first | rfl | (simp [isFloat]; done)); (· simp (disch := omega) [decT, decF, bneT, bneF, beqT, beqF, *] <;> first | rfl | exact ⟨rfl, rfl⟩))
    | (refine XW.skip ?_) | (refine XW.seq ?_) | (refine XW.region ?_) | (refine XW.exit ?_) | (refine XW.ret ?_) | (refine XW.block ?_)
    | (refine XW.condT ?_ ?_; (· simp (disch := omega) [*]; done)) | (refine XW.condF ?_ ?_; (· simp (disch := omega) [*]; done)) | fail)
      refine ⟨rfl, rfl, d - 1, by omega, ⟨k + 1, false, l ++ [⟨kindOf xt, false⟩], _, by omega, by simp; omega, by simp, by simp, by simp; rfl, ?_, hgo⟩, by simp [*], by simp [*], (hx5.trans (Ext.alloc hx5.wf hx5.le _)).trans hext⟩
      simpa [encBy, List.flatMap_append] using hown.own (n := l.length + 1)
  · repeat' (first
    | (refine OW.nil ?_)
    | (apply OW.quiet; (· rfl); (· rfl); (· first | exact wanted_none rfl | (refine wanted_on rfl rfl ?_; simp [*]; done)); (· first | rfl | (simp [isQuiet]; done)); (· simp (disch := omega) [decT, decF, bneT, bneF, beqT, beqF, Go.IntWalk.i64_in, Go.IntWalk.u8_in, *] <;> rfl))
    | (apply OW.off; (· rfl); (· rfl); (· first | (refine wanted_off rfl rfl ?_; simp [*]; done) | (refine wanted_undef rfl rfl ?_; simp [*]; done)))
    | (apply OW.float; (· rfl); (· rfl); (· first | exact wanted_none rfl | (refine wanted_on rfl rfl ?_; simp [*]; done)); (· first | rfl | (simp [isQuiet]; done)); (· first | rfl | (simp [isFloat]; done)); (· simp (disch := omega) [decT, decF, bneT, bneF, beqT, beqF, *] <;> first | rfl | exact ⟨rfl, rfl⟩))
    | (refine XW.skip ?_) | (refine XW.seq ?_) | (refine XW.region ?_) | (refine XW.exit ?_) | (refine XW.ret ?_) | (refine XW.block ?_)
    | (refine XW.condT ?_ ?_; (· simp (disch := omega) [*]; done)) | (refine XW.condF ?_ ?_; (· simp (disch := omega) [*]; done)) | fail)
    (apply OW.store; (· rfl); (· first | exact wanted_none rfl | (refine wanted_on rfl rfl ?_; simp [*]; done)); (· rfl); (· simp [*] <;> first | rfl | exact ⟨rfl, rfl⟩); (· simp [*] <;> rfl); (· simp); (· simp); (· simp [*] <;> first | rfl | exact ⟨rfl, rfl, rfl⟩); (· exact (hw1.alloc _).even _); (· first | rfl | (simp <;> rfl)))
    repeat' (first
    | (refine OW.nil ?_)
    | (apply OW.quiet; (· rfl); (· rfl); (· first | exact wanted_none rfl | (refine wanted_on rfl rfl ?_; simp [*]; done)); (· first | rfl | (simp [isQuiet]; done)); (· simp (disch := omega) [decT, decF, bneT, bneF, beqT, beqF, Go.IntWalk.i64_in, Go.IntWalk.u8_in, *] <;> rfl))
    | (apply OW.off; (· rfl); (· rfl); (· first | (refine wanted_off rfl rfl ?_; simp [*]; done) | (refine wanted_undef rfl rfl ?_; simp [*]; done)))
    | (apply OW.float; (· rfl); (· rfl); (· first | exact wanted_none rfl | (refine wanted_on rfl rfl ?_; simp [*]; done)); (· first | rfl | (simp [isQuiet]; done)); (· first | rfl | (simp [isFloat]; done)); (· simp (disch := omega) [decT, decF, bneT, bneF, beqT, beqF, *] <;> first | rfl | exact ⟨rfl, rfl⟩))
    | (refine XW.skip ?_) | (refine XW.seq ?_) | (refine XW.region ?_) | (refine XW.exit ?_) | (refine XW.ret ?_) | (refine XW.block ?_)
    | (refine XW.condT ?_ ?_; (· simp (disch := omega) [*]; done)) | (refine XW.condF ?_ ?_; (· simp (disch := omega) [*]; done)) | fail)
    (apply OW.callF; (· rfl); (· first | exact wanted_none rfl | (refine wanted_on rfl rfl ?_; simp [*]; done)); (· simp [*] <;> rfl); (· exact hb79); (refine (kindRun xt _ (hw2 _ _) htx).mono ?_; rintro _ s3 ⟨rfl, h3⟩; apply callK_ret; (· rfl); (· rfl)))
    have hx5 := (hx2 _ _).andThen (by simp; omega) h3
    have ho3 := ho.ext (((Ext.alloc hw1 (Nat.le_refl _) _).trans (Ext.set (hw1.alloc _) (Nat.le_refl _) _)).andThen (by simp) h3)
    clear h3 hw2 hx2
    by_cases hk0 : kindOf xt = 0
    · rw [if_pos hk0] at hgo
      have e : readEnd none = ([], 80) := rfl
      rw [hgo, e]
      repeat' (first
    | (refine OW.nil ?_)
    | (apply OW.quiet; (· rfl); (· rfl); (· first | exact wanted_none rfl | (refine wanted_on rfl rfl ?_; simp [*]; done)); (· first | rfl | (simp [isQuiet]; done)); (· simp (disch := omega) [decT, decF, bneT, bneF, beqT, beqF, Go.IntWalk.i64_in, Go.IntWalk.u8_in, *] <;> rfl))
    | (apply OW.off; (· rfl); (· rfl); (· first | (refine wanted_off rfl rfl ?_; simp [*]; done) | (refine wanted_undef rfl rfl ?_; simp [*]; done)))
    | (apply OW.float; (· rfl); (· rfl); (· first | exact wanted_none rfl | (refine wanted_on rfl rfl ?_; simp [*]; done)); (· first | rfl | (simp [isQuiet]; done)); (· first | rfl | (simp [isFloat]; done)); (· simp (disch := omega) [decT, decF, bneT, bneF, beqT, beqF, *] <;> first | rfl | exact ⟨rfl, rfl⟩))
    | (refine XW.skip ?_) | (refine XW.seq ?_) | (refine XW.region ?_) | (refine XW.exit ?_) | (refine XW.ret ?_) | (refine XW.block ?_)
    | (refine XW.condT ?_ ?_; (· simp (disch := omega) [*]; done)) | (refine XW.condF ?_ ?_; (· simp (disch := omega) [*]; done)) | fail)
      exact ⟨rfl, _, by simp; rfl, _, rfl, Own.nil, hx5⟩
    · rw [if_neg hk0] at hgo
      have ho4 := ho3.ext (Ext.alloc hx5.wf (Nat.le_refl _) (.cells [.int .i64 (kindOf xt), .bool true] 49 (2 * s3.next)))
      repeat' (first
    | (refine OW.nil ?_)
    | (apply OW.quiet; (· rfl); (· rfl); (· first | exact wanted_none rfl | (refine wanted_on rfl rfl ?_; simp [*]; done)); (· first | rfl | (simp [isQuiet]; done)); (· simp (disch := omega) [decT, decF, bneT, bneF, beqT, beqF, Go.IntWalk.i64_in, Go.IntWalk.u8_in, *] <;> rfl))
    | (apply OW.off; (· rfl); (· rfl); (· first | (refine wanted_off rfl rfl ?_; simp [*]; done) | (refine wanted_undef rfl rfl ?_; simp [*]; done)))
    | (apply OW.float; (· rfl); (· rfl); (· first | exact wanted_none rfl | (refine wanted_on rfl rfl ?_; simp [*]; done)); (· first | rfl | (simp [isQuiet]; done)); (· first | rfl | (simp [isFloat]; done)); (· simp (disch := omega) [decT, decF, bneT, bneF, beqT, beqF, *] <;> first | rfl | exact ⟨rfl, rfl⟩))
    | (refine XW.skip ?_) | (refine XW.seq ?_) | (refine XW.region ?_) | (refine XW.exit ?_) | (refine XW.ret ?_) | (refine XW.block ?_)
    | (refine XW.condT ?_ ?_; (· simp (disch := omega) [*]; done)) | (refine XW.condF ?_ ?_; (· simp (disch := omega) [*]; done)) | fail)
      (apply OW.append; (· rfl); (· rfl); (· first | exact wanted_none rfl | (refine wanted_on rfl rfl ?_; simp [*]; done)); (· rfl); (· simp [*] <;> rfl); (· simp [*] <;> rfl); (· simp); (· simp <;> rfl); (· simp <;> rfl); (· simp <;> rfl); (· simp [*] <;> rfl); (· exact ho4); (· exact hx5.wf.alloc _); (· (have := hx5.le; simp; omega)); (· simp); (· omega); (· exact flat_length encBy_length l); (· omega); (· simp); (· decide))
      intro s4 id4 g4 hown hext _ hid4 _ _ _
      subst hid4
      repeat' (first
    | (refine OW.nil ?_)
    | (apply OW.quiet; (· rfl); (· rfl); (· first | exact wanted_none rfl | (refine wanted_on rfl rfl ?_; simp [*]; done)); (· first | rfl | (simp [isQuiet]; done)); (· simp (disch := omega) [decT, decF, bneT, bneF, beqT, beqF, Go.IntWalk.i64_in, Go.IntWalk.u8_in, *] <;> rfl))
    | (apply OW.off; (· rfl); (· rfl); (· first | (refine wanted_off rfl rfl ?_; simp [*]; done) | (refine wanted_undef rfl rfl ?_; simp [*]; done)))
    | (apply OW.float; (· rfl); (· rfl); (· first | exact wanted_none rfl | (refine wanted_on rfl rfl ?_; simp [*]; done)); (· first | rfl | (simp [isQuiet]; done)); (· first | rfl | (simp [isFloat]; done)); (· simp (disch := omega) [decT, decF, bneT, bneF, beqT, beqF, *] <;> first | rfl | exact ⟨rfl, rfl⟩))
    | (refine XW.skip ?_) | (refine XW.seq ?_) | (refine XW.region ?_) | (refine XW.exit ?_) | (refine XW.ret ?_) | (refine XW.block ?_)
    | (refine XW.condT ?_ ?_; (· simp (disch := omega) [*]; done)) | (refine XW.condF ?_ ?_; (· simp (disch := omega) [*]; done)) | fail)
      refine ⟨rfl, rfl, d - 1, by omega, ⟨k + 1, false, l ++ [⟨kindOf xt, true⟩], _, by omega, by simp; omega, by simp, by simp, by simp; rfl, ?_, hgo⟩, by simp [*], by simp [*], (hx5.trans (Ext.alloc hx5.wf hx5.le _)).trans hext⟩
      simpa [encBy, List.flatMap_append] using hown.own (n := l.length + 1)
end Go.Proofs.Tryz
