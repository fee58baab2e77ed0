/- A way to run calls of the program on told values is shown to be sound; it holds for programs that follow mixed orders. -/
import Derived.Test.YtkbielcbkpglhaaGreatDoorE4
import Derived.Shelf.Strings.Builder1
import Derived.Shelf.Strings.Search2
set_option linter.unusedVariables false
set_option linter.unusedSimpArgs false
namespace Go.Ev
open Go.Shelf Go.RowKit Go.Proofs
/-! ### Primitives of Go's library -/
section
variable {P : Program} {F : Froz} {φ : Phi} {st : St} {w w' : World} {ρ : Ren}
/-- Some blocks are known no more. -/
theorem Rel.lose (hR : Rel P F φ st w) {st' : St} (hsub : ∀ i b, st'.heap.get i = some b → st.heap.get i = some b) (hg : st'.grps = st.grps) (hn : st'.next = st.next)
    (hw : ∀ i b l, st'.heap.get i = some b → φ i = some l → w'.heap[l.blk]? = w.heap[l.blk]?) (hs : w.heap.size ≤ w'.heap.size) : Rel P F φ st' w' :=
  ⟨⟨fun id b hb => (hR.blk id b (hsub _ _ hb)).keep (Phi.le.refl _) fun l hl => hw _ _ _ hb hl, hR.glob, fun i j ci ei gi cj ej gj li lj hne h1 h2 h3 h4 h5 => by
      rw [hg]; exact hR.inj i j _ _ _ _ _ _ li lj hne (hsub _ _ h1) (hsub _ _ h2) h3 h4 h5⟩,
    fun i hi => hR.fresh i (by rw [← hn]; exact hi), fun k hk => Nat.lt_of_lt_of_le (hR.low k hk) hs, fun i j ei ej li lj hne h1 h2 => hR.maps i j ei ej li lj hne (hsub _ _ h1) (hsub _ _ h2),
    fun i j si pi sj pj li lj hne h1 h2 => hR.iters i j si pi sj pj li lj hne (hsub _ _ h1) (hsub _ _ h2),
    fun g l hl => (hR.ord g l (by rw [← hg]; exact hl)).imp fun {i j} h ci ei cj ej li lj h1 h2 => h ci ei cj ej li lj (hsub _ _ h1) (hsub _ _ h2), fun g l hl i hi => by rw [hn]; exact hR.born g l (by rw [← hg]; exact hl) i hi⟩
/-- A block, and all that may share its memory, is known no more. -/
def St.drop (st : St) (id g : Id) : St := { heap := kill st.heap (id :: (st.grps.get g).getD []), grps := st.grps, next := st.next }
theorem Rel.drop (hR : Rel P F φ st w) {id g : Id} {cs : List AV} {e : TypeId} {l : Loc} (hid : st.heap.get id = some (.cells cs e g)) (hl : φ id = some l) (ho : ∀ k, k < w.heap.size → k ≠ l.blk → w'.heap[k]? = w.heap[k]?) (hs : w.heap.size ≤ w'.heap.size) :
    Rel P F φ (st.drop id g) w' := by
  have hget : ∀ i, (st.drop id g).heap.get i = if i ∈ id :: (st.grps.get g).getD [] then none else st.heap.get i := fun i => kill_get _ _ _
  have hsub : ∀ i b, (st.drop id g).heap.get i = some b → st.heap.get i = some b ∧ i ∉ id :: (st.grps.get g).getD [] := fun i b h => by
    rw [hget] at h
    split at h
    · simp at h
    · exact ⟨h, ‹_›⟩
  refine hR.lose (fun i b h => (hsub i b h).1) rfl rfl (fun i b li h hli => ?_) hs
  obtain ⟨h1, h2⟩ := hsub i b h
  simp only [List.mem_cons, not_or] at h2
  refine ho _ (hR.blkLt h1 hli) fun he => ?_
  obtain ⟨_, L, hL, _, hm⟩ := hR.shares (Ne.symm h2.1) hid h1 hl hli he.symm
  rw [hL] at h2
  exact h2.2 hm
theorem Rel.rep1 {a : AV} {v : Value} {C : Array Value} (h : ∀ (i : Nat) (x : AV), [a][i]? = some x → ∃ v, C[i]? = some v ∧ Rep φ x v) : ∃ v, C[0]? = some v ∧ Rep φ a v := h 0 a rfl
/-! strings.Index -/
def primIndex (g : Id) : List AV → St → Option (AV × St)
  | [.str s, .str p], st => match st.heap.get g with
    | some (.ro (.int .i64 _ :: _)) => if s.length < 4294967281 then some (.int .i64 (Lib.index s p), st) else none
    | _ => none
  | _, _ => none
theorem primIndex_ok {f : FuncId} {g : Id} (hg : g < P.globals.size) (hC : ∀ (s sub : ByteArray) (m : Int) (w : World), s.size < 4294967281 → w.cell? ⟨g, 0, none⟩ = some (.int .i64 m) →
      Calls P f #[.string s, .string sub] w fun e w' => e = .returned (.int .i64 (Lib.index s.data.toList sub.data.toList)) ∧ w' = w)
    {args : List AV} {vs : Array Value} {r : AV} {st' : St} (hR : Rel P F φ st w) (ha : Reps φ args vs.toList) (h : primIndex g args st = some (r, st')) :
    Calls P f vs w fun e w' => ∃ ψ, φ.le ψ ∧ Rel P F ψ st' w' ∧ Keep F w w' ∧ RepE ψ (.ret r) e := by
  unfold primIndex at h
  split at h
  case h_2 => simp at h
  rename_i s p
  split at h
  case h_2 => simp at h
  rename_i n cs hid
  split at h <;> simp only [Option.some.injEq, reduceCtorEq, Prod.mk.injEq] at h
  rename_i hs
  obtain ⟨rfl, rfl⟩ := h
  obtain ⟨v1, r1, e1, q1, ha⟩ := ha.cons
  obtain ⟨v2, r2, rfl, q2, ha⟩ := ha.cons
  rw [ha.nil] at e1
  simp only [Rep] at q1 q2; subst q1 q2
  obtain rfl : vs = #[.string ⟨s.toArray⟩, .string ⟨p.toArray⟩] := Array.ext' (by simpa using e1)
  obtain ⟨l, C, e, fz, hl, _, hh, hc⟩ := hR.blk g _ hid
  obtain ⟨l', hl', hb, h0⟩ := hR.glob g hg
  rw [hl] at hl'; simp at hl'; subst hl'
  obtain ⟨v, hv, hr⟩ := hc 0 _ rfl
  simp only [Rep] at hr; subst hr
  have hcell : w.cell? ⟨g, 0, none⟩ = some (.int .i64 n) := by
    rw [← hb, cell_at hh]
    rw [h0] at hv
    simpa using hv
  refine (hC ⟨s.toArray⟩ ⟨p.toArray⟩ n w (by simpa [ByteArray.size] using hs) hcell).mono ?_
  rintro e w' ⟨rfl, rfl⟩
  exact ⟨φ, Phi.le.refl _, hR, Keep.refl _, (by show Rep φ (.int .i64 (Lib.index s p)) (.int .i64 (Lib.index s p)); exact Rep.int' _ _)⟩
/-! strings.Builder: copyCheck -/
def primCheck (tB : TypeId) : List AV → St → Option (AV × St)
  | [.ptr (some (id, 0))], st => match st.heap.get id with
    | some (.cells [a, b] e g) => if e = tB ∧ g % 2 = 0 then
        match a with
        | .ptr none => (st.write id 0 [.ptr (some (id, 0))]).bind fun st => some (.tuple [], st)
        | .ptr (some (i, 0)) => if i = id then some (.tuple [], st) else none
        | _ => none
      else none
    | _ => none
  | _, _ => none
theorem primCheck_ok {f : FuncId} {tB : TypeId} (hused : ∀ (b : Nat) (w : World), w.cell? ⟨b, 0, none⟩ = some (.pointer (some ⟨b, 0, none⟩)) → Calls P f #[.pointer (some ⟨b, 0, none⟩)] w fun e w' => e = .returned (.tuple #[]) ∧ w' = w)
    (hfresh : ∀ (b : Nat) (w : World), w.cell? ⟨b, 0, none⟩ = some (.pointer none) → w.shape? b = some (tB, 2) → w.frozen? ⟨b, 0, none⟩ = false →
      Calls P f #[.pointer (some ⟨b, 0, none⟩)] w fun e w' => e = .returned (.tuple #[]) ∧ w' = w.setCell ⟨b, 0, none⟩ (.pointer (some ⟨b, 0, none⟩)))
    {args : List AV} {vs : Array Value} {r : AV} {st' : St} (hR : Rel P F φ st w) (ha : Reps φ args vs.toList) (h : primCheck tB args st = some (r, st')) :
    Calls P f vs w fun e w' => ∃ ψ, φ.le ψ ∧ Rel P F ψ st' w' ∧ Keep F w w' ∧ RepE ψ (.ret r) e := by
  unfold primCheck at h
  split at h
  case h_2 => simp at h
  rename_i id
  split at h
  case h_2 => simp at h
  rename_i a b e g hid
  split at h
  case isFalse => simp at h
  rename_i hc
  obtain ⟨rfl, hev⟩ := hc
  obtain ⟨l, C, fz, hl, hF, hh, hCs, hlen, hinfo, hcells, hfz, hbase, hex⟩ := hR.blk id _ hid
  have hsz := hex hev
  obtain ⟨v1, r1, e1, q1, ha⟩ := ha.cons
  rw [ha.nil] at e1
  simp only [Rep] at q1
  obtain ⟨l', hl', rfl⟩ := q1
  rw [hl] at hl'; simp at hl'; subst hl'
  rw [hbase] at e1
  obtain rfl : vs = #[.pointer (some ⟨l.blk, 0, none⟩)] := Array.ext' (by simpa using e1)
  obtain ⟨va, hva, hra⟩ := hcells 0 a rfl
  rw [hbase, Nat.zero_add] at hva
  have hcell : w.cell? ⟨l.blk, 0, none⟩ = some va := by rw [cell_at hh]; exact hva
  have hu : Rep φ (.tuple []) (.tuple #[]) := by simp only [Rep]; exact ⟨#[], rfl, Reps.nil'⟩
  split at h
  · simp only [Option.bind_eq_some_iff, Option.some.injEq, Prod.mk.injEq] at h
    obtain ⟨st1, hw, rfl, rfl⟩ := h
    simp only [Rep] at hra; subst hra
    have hself : Rep φ (.ptr (some (id, 0))) (.pointer (some ⟨l.blk, 0, none⟩)) := by simp only [Rep]; exact ⟨l, hl, by rw [hbase]⟩
    obtain ⟨l2, hl2, h1, h2, h3, h4, h5⟩ := write_run hR hw (Reps.cons' hself Reps.nil')
    rw [hl] at hl2; simp at hl2; subst hl2
    have hfr := h2 0 (by simp)
    simp only [hbase, Nat.add_zero] at hfr
    refine (hfresh l.blk w hcell ?_ hfr).mono ?_
    · simp only [World.shape?, hh]
      rw [hCs, ← hsz]; rfl
    · rintro e w' ⟨rfl, rfl⟩
      simp only [World.setCells, hbase, Nat.add_zero] at h4 h5
      exact ⟨φ, Phi.le.refl _, h4, h5, hu⟩
  · rename_i i
    split at h <;> simp only [Option.some.injEq, Prod.mk.injEq, reduceCtorEq] at h
    rename_i hi
    subst hi
    obtain ⟨rfl, rfl⟩ := h
    simp only [Rep] at hra
    obtain ⟨l2, hl2, rfl⟩ := hra
    rw [hl] at hl2; simp at hl2; subst hl2
    rw [hbase] at hcell
    refine (hused l.blk w hcell).mono ?_
    rintro e w' ⟨rfl, rfl⟩
    exact ⟨φ, Phi.le.refl _, hR, Keep.refl _, hu⟩
  · simp at h
/-! strings.Builder: String -/
def strB : List AV → Option (List UInt8)
  | [] => some []
  | .int .u8 n :: cs => if 0 ≤ n ∧ n < 256 then (strB cs).bind fun r => some (UInt8.ofNat n.toNat :: r) else none
  | _ :: _ => none
theorem strB_reps : ∀ {r : List AV} {vs : List Value} {s : List UInt8}, Reps φ r vs → strB r = some s → s.length = r.length ∧ ∀ (j : Nat) (x : UInt8), s[j]? = some x → vs[j]? = some (.int .u8 x.toNat)
  | [], vs, s, _, h => by simp only [strB, Option.some.injEq] at h; subst h; simp
  | .int .u8 n :: r, vs, s, hr, h => by
    simp only [strB] at h
    split at h
    case isFalse => simp at h
    rename_i hn
    simp only [Option.bind_eq_some_iff, Option.some.injEq] at h
    obtain ⟨q, hq, rfl⟩ := h
    obtain ⟨v, vr, rfl, h1, h2⟩ := hr.cons
    simp only [Rep] at h1; subst h1
    obtain ⟨h3, h4⟩ := strB_reps h2 hq
    refine ⟨by simp [h3], fun j x hx => ?_⟩
    cases j with
    | zero =>
      simp at hx; subst hx
      simp only [List.getElem?_cons_zero, Option.some.injEq, Value.int.injEq, true_and]
      have : (UInt8.ofNat n.toNat).toNat = n.toNat := by rw [UInt8.toNat_ofNat']; omega
      rw [this]; omega
    | succ j => simp at hx; simpa using h4 j x hx
def primString (tB tb : TypeId) : List AV → St → Option (AV × St)
  | [.ptr (some (id, 0))], st => match st.heap.get id with
    | some (.cells [_, .slice (some (i, 0)) n _] e g) => if e = tB ∧ g % 2 = 0 ∧ n ≠ 0 ∧ n < 2 ^ 62 then
        match st.heap.get i with
        | some (.cells cs e2 g2) => if e2 = tb then (readN cs 0 n).bind fun r => (strB r).bind fun s => some (.str s, st.drop i g2) else none
        | _ => none
      else none
    | _ => none
  | _, _ => none
theorem primString_ok {f : FuncId} {tB tb : TypeId} (hsz : (P.info? tb).map (·.size) = some 1)
    (hC : ∀ (b g cap size : Nat) (l : List UInt8) (w : World), w.cell? ⟨b, 1, none⟩ = some (.slice (some ⟨g, 0, none⟩) l.length cap) → cap ≠ 0 → l ≠ [] → w.shape? g = some (tb, size) → l.length ≤ size → (l.length : Int) ≤ 9223372036854775807 →
      (∀ (j : Nat) (x : UInt8), l[j]? = some x → w.cell? ⟨g, j, none⟩ = some (.int .u8 x.toNat)) → Calls P f #[.pointer (some ⟨b, 0, none⟩)] w fun e w' => e = .returned (.string ⟨l.toArray⟩) ∧ w' = w.drew.freeze ⟨g, 0, none⟩ l.length)
    {args : List AV} {vs : Array Value} {r : AV} {st' : St} (hR : Rel P F φ st w) (ha : Reps φ args vs.toList) (h : primString tB tb args st = some (r, st')) :
    Calls P f vs w fun e w' => ∃ ψ, φ.le ψ ∧ Rel P F ψ st' w' ∧ Keep F w w' ∧ RepE ψ (.ret r) e := by
  unfold primString at h
  split at h
  case h_2 => simp at h
  rename_i id
  split at h
  case h_2 => simp at h
  rename_i a i n cap e g hid
  split at h
  case isFalse => simp at h
  rename_i hc
  obtain ⟨rfl, hev, hn0, hn62⟩ := hc
  split at h
  case h_2 => simp at h
  rename_i cs e2 g2 hi
  split at h
  case isFalse => simp at h
  rename_i he2
  subst he2
  simp only [Option.bind_eq_some_iff, Option.some.injEq, Prod.mk.injEq] at h
  obtain ⟨q, hq, s, hs, rfl, rfl⟩ := h
  obtain ⟨l, C, fz, hl, hF, hh, hCs, hlen, hinfo, hcells, hfz, hbase, hex⟩ := hR.blk id _ hid
  obtain ⟨l2, C2, fz2, hl2, hF2, hh2, hCs2, hlen2, hinfo2, hcells2, hfz2, hbase2, _⟩ := hR.blk i _ hi
  obtain ⟨v1, r1, e1, q1, ha⟩ := ha.cons
  rw [ha.nil] at e1
  simp only [Rep] at q1
  obtain ⟨l', hl', rfl⟩ := q1
  rw [hl] at hl'; simp at hl'; subst hl'
  rw [hbase] at e1
  obtain rfl : vs = #[.pointer (some ⟨l.blk, 0, none⟩)] := Array.ext' (by simpa using e1)
  obtain ⟨va, hva, hra⟩ := hcells 1 _ rfl
  rw [hbase, Nat.zero_add] at hva
  obtain ⟨l3, a', c, hl3, rfl, hnc, ho, _, _⟩ := slice_addr hra
  rw [hl2] at hl3; simp at hl3; subst hl3
  have ha' : a' = ⟨l2.blk, 0, none⟩ := by
    rcases ho with ho | ho
    · rw [ho, hbase2]
    · omega
  subst ha'
  obtain ⟨hqe, hql⟩ := readN_spec hq
  -- the bytes
  obtain ⟨us, hus, hget⟩ : ∃ us, Reps φ q us ∧ ∀ j v, us[j]? = some v → w.cell? ⟨l2.blk, l2.base + 0 + j, none⟩ = some v := by
    have hL : CellsAt φ w i cs l2 := ⟨hl2, fun k x hx => by rw [cell_at hh2]; exact hcells2 k x hx⟩
    exact hL.reps hq
  obtain ⟨hsl, hsb⟩ := strB_reps hus hs
  have hqlen : q.length = n := by rw [hqe]; simp; omega
  have hsn : s.length = n := by omega
  have hcell : w.cell? ⟨l.blk, 1, none⟩ = some (.slice (some ⟨l2.blk, 0, none⟩) s.length c) := by rw [cell_at hh, hva, hsn]
  have hshape : w.shape? l2.blk = some (e2, C2.size) := by simp [World.shape?, hh2]
  refine (hC l.blk l2.blk c C2.size s w hcell (by omega) (by intro h0; rw [h0] at hsn; simp at hsn; exact hn0 hsn.symm) hshape (by omega) (by omega) ?_).mono ?_
  · intro j x hx
    have := hget j _ (hsb j x hx)
    simpa [hbase2] using this
  · rintro e w' ⟨rfl, rfl⟩
    have hoth : ∀ k, k ≠ l2.blk → (w.drew.freeze ⟨l2.blk, 0, none⟩ s.length).heap[k]? = w.heap[k]? := fun k hk => by
      unfold World.freeze
      split
      · rfl
      · simp only [Array.getElem?_modify]
        rw [if_neg (Ne.symm hk)]
        rfl
    have hsize : (w.drew.freeze ⟨l2.blk, 0, none⟩ s.length).heap.size = w.heap.size := by
      unfold World.freeze
      split
      · rfl
      · simp
    have hkeep : Keep F w (w.drew.freeze ⟨l2.blk, 0, none⟩ s.length) := by
      refine ⟨?_, ?_, ?_, by rw [hsize]; exact Nat.le_refl _, fun k hk => hoth k (by rintro rfl; exact hF2 hk)⟩ <;> (unfold World.freeze; split <;> rfl)
    exact ⟨φ, Phi.le.refl _, hR.drop hi hl2 (fun k _ hk => hoth k hk) (by rw [hsize]; exact Nat.le_refl _), hkeep, (by show Rep φ (.str s) (.string ⟨s.toArray⟩); exact Rep.str' s)⟩
end
end Go.Ev
namespace Go.Proofs
open Go.Shelf Go.RowKit
variable {P : Program} {ρ : Ren}
set_option maxHeartbeats 2000000 in
set_option maxRecDepth 100000 in
theorem Any.ev_Builder_String (L : Lays.n169 P ρ) (X : Builder.Extra P ρ) (b g cap size : Nat) (l : List UInt8) (w : World) (hb : w.cell? ⟨b, 1, none⟩ = some (.slice (some ⟨g, 0, none⟩) l.length cap)) (hcap : cap ≠ 0) (h0 : l ≠ [])
    (hsh : w.shape? g = some (ρ.t 5, size)) (hle : l.length ≤ size) (h63 : (l.length : Int) ≤ 9223372036854775807) (hc : ∀ (j : Nat) (x : UInt8), l[j]? = some x → w.cell? ⟨g, j, none⟩ = some (.int .u8 x.toNat)) :
    Calls P (ρ.f 169) #[.pointer (some ⟨b, 0, none⟩)] w fun e w' => e = .returned (.string ⟨l.toArray⟩) ∧ w' = w.drew.freeze ⟨g, 0, none⟩ l.length := by
  have hl0 : l.length ≠ 0 := by simpa using h0
  have c1 : w.drew.cell? ⟨b, 1, none⟩ = some (.slice (some ⟨g, 0, none⟩) l.length cap) := hb
  have hSD : (Builtin.unsafeSliceData_ #[(ρ.t 37)] (ρ.t 127) #[.slice (some ⟨g, 0, none⟩) l.length cap]).run P w.drew = .ok (.pointer (some ⟨g, 0, none⟩)) w.drew :=
    Lib.run_unsafeSliceData_row _ _ _ _ _ _ hcap
  have hUS : (Builtin.unsafeString_ #[(ρ.t 127), (ρ.t 3)] (ρ.t 9) #[.pointer (some ⟨g, 0, none⟩), .int .i64 l.length]).run P w.drew = .ok (.string ⟨l.toArray⟩) (w.drew.freeze ⟨g, 0, none⟩ l.length) := by
    refine Lib.run_unsafeString_row w.drew (ρ.t 127) (ρ.t 3) (ρ.t 9) (ρ.t 5) L.t127 X.cellsByte g size hsh l h0 hle (by omega) ?_
    intro j x hx
    have := hc j x hx
    rw [Ev.addr_add, Nat.zero_add]
    exact this
  have mixed := L.mixed
  have t72 := L.t72; have a72 := L.a72; have z72 := L.z72; have v72 := L.v72; have u72 := run_underlying L.t72
  have t70 := L.t70; have a70 := L.a70; have z70 := L.z70; have v70 := L.v70; have u70 := run_underlying L.t70
  have t37 := L.t37; have a37 := L.a37; have z37 := L.z37; have v37 := L.v37; have u37 := run_underlying L.t37
  have t127 := L.t127; have a127 := L.a127; have z127 := L.z127; have v127 := L.v127; have u127 := run_underlying L.t127
  have t3 := L.t3; have a3 := L.a3; have z3 := L.z3; have v3 := L.v3; have u3 := run_underlying L.t3
  have t9 := L.t9; have a9 := L.a9; have z9 := L.z9; have v9 := L.v9; have u9 := run_underlying L.t9
  have t5 := X.t5; have a5 := X.a5; have z5 := X.z5; have v5 := X.v5; have u5 := run_underlying X.t5
  go_enter L.f169, Body.n169_ntmps ρ
  go_wp2
  go_region_o
  all_goals (go_wp2; go_ret; exact ⟨rfl, rfl⟩)
end Go.Proofs
set_option linter.unusedVariables false
set_option linter.unusedSimpArgs false
namespace Go.Ev
/-! ### Closed runs -/
section
variable {P : Program} {F : Froz} {φ : Phi} {st : St} {w w' : World}
/-- All blocks of a world. -/
def Froz.world (w : World) : Froz := ⟨fun k => k < w.heap.size, fun k => k < w.heap.size, fun _ h => h⟩
/-- All that was there is there: what is told of the world holds still. -/
theorem Rel.still (hR : Rel P F φ st w) (hK : Keep (Froz.world w) w w') : Rel P F φ st w' ∧ Keep F w w' :=
  ⟨hR.lose (fun _ _ h => h) rfl rfl (fun i b l h hl => hK.same _ (hR.blkLt h hl)) hK.size, hK.os, hK.tape, hK.output, hK.size, fun k hk => hK.same k (hR.low k hk)⟩
/-- Where a program's variables lie. -/
def Phi.globals (n : Nat) : Phi := fun g => if g < n then some ⟨g, 0, 0, 0⟩ else none
/-- A start that knows of one variable alone, which holds a number. -/
def startNum (n g : Nat) (m : Int) : St := { heap := Trie.leaf.put g (some (.ro [.int .i64 m])), grps := .leaf, next := n }
theorem startNum_rel {n g : Nat} {m : Int} (hn : n = P.globals.size) (hg : g < n) (hc : w.cell? ⟨g, 0, none⟩ = some (.int .i64 m)) : Rel P (Froz.world w) (Phi.globals n) (startNum n g m) w := by
  have hget : ∀ i b, (startNum n g m).heap.get i = some b → i = g ∧ b = .ro [.int .i64 m] := fun i b h => by
    simp only [startNum, Trie.get_put] at h
    split at h
    · rename_i hi; simp at h; exact ⟨hi, h.symm⟩
    · simp [Trie.get] at h
  refine ⟨⟨fun id b h => ?_, fun k hk => ⟨⟨k, 0, 0, 0⟩, by simp [Phi.globals, hn, hk], rfl, rfl⟩, fun i j ci ei gi cj ej gj li lj _ h => ?_⟩, fun id hid => ?_, fun k hk => hk, fun i j ei ej li lj _ h => ?_, fun i j si pi sj pj li lj _ h => ?_, fun k l h => ?_, fun k l h => ?_⟩
  · obtain ⟨rfl, rfl⟩ := hget id b h
    obtain ⟨C, e, fz, hh, hC⟩ : ∃ C e fz, w.heap[id]? = some (.cells C e fz) ∧ C[0]? = some (.int .i64 m) := by
      unfold World.cell? at hc
      cases ho : w.heap[id]? with
      | none => simp [ho] at hc
      | some o =>
        cases o with
        | cells C e fz => exact ⟨C, e, fz, rfl, by simpa [ho] using hc⟩
        | _ => simp [ho] at hc
    have hlt : id < w.heap.size := (Array.getElem?_eq_some_iff.1 hh).1
    refine ⟨⟨id, 0, 0, 0⟩, C, e, fz, by simp [Phi.globals, hg], hlt, hh, fun i x hx => ?_⟩
    cases i with
    | zero => simp at hx; subst hx; exact ⟨_, by simpa using hC, Rep.int' _ _⟩
    | succ i => simp at hx
  · have := (hget _ _ h).2; simp at this
  · have hid2 : n ≤ id := hid
    simp [Phi.globals, Nat.not_lt.2 hid2]
  · have := (hget _ _ h).2; simp at this
  · have := (hget _ _ h).2; simp at this
  · simp [startNum, Trie.get] at h
  · simp [startNum, Trie.get] at h
def saysTrue : Option (JobOut × St) → Bool
  | some (.call (.ret (.bool true)), _) => true
  | _ => false
theorem saysTrue_spec {o : Option (JobOut × St)} (h : saysTrue o = true) : ∃ st', o = some (.call (.ret (.bool true)), st') := by
  unfold saysTrue at h
  split at h
  · exact ⟨_, rfl⟩
  · simp at h
/-- A call of nothing that answers true. -/
theorem closed_true {E : Env} (hm : E.P.follows .mixedOrders = true) (hN : NoNum E.P) (hp : PrimsOk E) {fuel : Nat} {f : FuncId} {n g : Nat} {m : Int} (hn : n = E.P.globals.size) (hg : g < n)
    (hc : w.cell? ⟨g, 0, none⟩ = some (.int .i64 m)) (h : saysTrue (ev E fuel (.call f []) (startNum n g m)) = true) : Calls E.P f #[] w fun e w' => e = .returned (.bool true) ∧ Keep (Froz.world w) w w' := by
  obtain ⟨st', h⟩ := saysTrue_spec h
  refine (ev_calls hm hN hp (startNum_rel hn hg hc) (vs := #[]) Reps.nil' h).mono ?_
  rintro e w' ⟨ψ, _, _, hK, hE⟩
  refine ⟨?_, hK⟩
  cases e with
  | returned u => simp only [RepE, Rep] at hE; rw [hE]
  | panicked c => exact hE.elim
  | outgrown => exact hE.elim
/-- A function of nothing that answers true, as a primitive. -/
def primTrue (g : Id) : List AV → St → Option (AV × St)
  | [], st => match st.heap.get g with
    | some (.ro (.int .i64 _ :: _)) => some (.bool true, st)
    | _ => none
  | _, _ => none
theorem primTrue_ok {f : FuncId} {g : Id} (hg : g < P.globals.size) (hC : ∀ (w : World) (m : Int), w.cell? ⟨g, 0, none⟩ = some (.int .i64 m) → Calls P f #[] w fun e w' => e = .returned (.bool true) ∧ Keep (Froz.world w) w w')
    {args : List AV} {vs : Array Value} {r : AV} {st' : St} (hR : Rel P F φ st w) (ha : Reps φ args vs.toList) (h : primTrue g args st = some (r, st')) :
    Calls P f vs w fun e w' => ∃ ψ, φ.le ψ ∧ Rel P F ψ st' w' ∧ Keep F w w' ∧ RepE ψ (.ret r) e := by
  unfold primTrue at h
  split at h
  case h_2 => simp at h
  split at h
  case h_2 => simp at h
  rename_i n cs hid
  simp only [Option.some.injEq, Prod.mk.injEq] at h
  obtain ⟨rfl, rfl⟩ := h
  obtain rfl : vs = #[] := Array.ext' (by simpa using ha.nil)
  obtain ⟨l, C, e, fz, hl, _, hh, hc⟩ := hR.blk g _ hid
  obtain ⟨l', hl', hb, h0⟩ := hR.glob g hg
  rw [hl] at hl'; simp at hl'; subst hl'
  obtain ⟨v, hv, hr⟩ := hc 0 _ rfl
  simp only [Rep] at hr; subst hr
  have hcell : w.cell? ⟨g, 0, none⟩ = some (.int .i64 n) := by
    rw [← hb, cell_at hh]
    rw [h0] at hv
    simpa using hv
  refine (hC w n hcell).mono ?_
  rintro e w' ⟨rfl, hK⟩
  obtain ⟨h1, h2⟩ := hR.still hK
  exact ⟨φ, Phi.le.refl _, h1, h2, by show Rep φ (.bool true) (.bool true); simp only [Rep]⟩
end
end Go.Ev
set_option linter.unusedVariables false
set_option linter.unusedSimpArgs false
namespace Go.Ev
/-! ### More fuel tells the same -/
def LeI (ih ih' : Job → St → Option (JobOut × St)) : Prop := ∀ j s y, ih j s = some y → ih' j s = some y
def LeC (c c' : CallA) : Prop := ∀ f a s y, c f a s = some y → c' f a s = some y
theorem callOf_mono {ih ih' : Job → St → Option (JobOut × St)} (h : LeI ih ih') : LeC (callOf ih) (callOf ih') := fun f a s y hy => by
  unfold callOf at hy ⊢
  simp only [Option.bind_eq_some_iff] at hy ⊢
  obtain ⟨r, hr, hy⟩ := hy
  exact ⟨r, h _ _ _ hr, hy⟩
theorem chainA_mono {E : Env} {c c' : CallA} (h : LeC c c') {σ : Trie AV} {st : St} {o : Op} {y : OpOut × St} (hy : chainA E c σ st o = some y) : chainA E c' σ st o = some y := by
  unfold chainA at hy ⊢
  cases o with
  | call k =>
    simp only [Option.bind_eq_some_iff] at hy ⊢
    obtain ⟨args, ha, hy⟩ := hy
    refine ⟨args, ha, ?_⟩
    split at hy
    · exact hy
    · exact hy
    · simp only [Option.bind_eq_some_iff] at hy ⊢
      obtain ⟨f, hf, hy⟩ := hy
      refine ⟨f, hf, ?_⟩
      split at hy
      · simp only [Option.bind_eq_some_iff] at hy ⊢
        obtain ⟨fn, hfn, hy⟩ := hy
        refine ⟨fn, hfn, ?_⟩
        split at hy
        · rename_i hb; rw [if_pos hb]; exact hy
        · rename_i hb
          rw [if_neg hb]
          simp only [Option.bind_eq_some_iff] at hy ⊢
          obtain ⟨r, hr, hy⟩ := hy
          exact ⟨r, h _ _ _ _ hr, hy⟩
      · exact hy
    · exact hy
  | next it b => cases b <;> exact hy
  | _ => exact hy
theorem opA_mono {E : Env} {c c' : CallA} (h : LeC c c') {σ : Trie AV} {st : St} {o : Op} {y : OpOut × St} (hy : opA E c σ st o = some y) : opA E c' σ st o = some y := by
  unfold opA at hy ⊢
  split
  · rename_i hq; rw [if_pos hq] at hy; exact hy
  · rename_i hq
    rw [if_neg hq] at hy
    split
    · rename_i hf; rw [if_pos hf] at hy; exact hy
    · rename_i hf; rw [if_neg hf] at hy; exact chainA_mono h hy
theorem opsA_mono {E : Env} {c c' : CallA} (h : LeC c c') {ops : Array Oper} : ∀ {l : List Oper} {fr : Fr} {st : St} {y : Ex × Fr × St}, opsA E c ops l fr st = some y → opsA E c' ops l fr st = some y
  | [], fr, st, y, hy => hy
  | o :: rest, fr, st, y, hy => by
    simp only [opsA, Option.bind_eq_some_iff] at hy ⊢
    obtain ⟨w, hw, hy⟩ := hy
    refine ⟨w, hw, ?_⟩
    cases w with
    | false =>
      simp only [Bool.false_eq_true, if_false, Option.bind_eq_some_iff] at hy ⊢
      obtain ⟨fr1, h1, hy⟩ := hy
      exact ⟨fr1, h1, opsA_mono h hy⟩
    | true =>
      simp only [if_true, Option.bind_eq_some_iff] at hy ⊢
      obtain ⟨r, hr, hy⟩ := hy
      refine ⟨r, opA_mono h hr, ?_⟩
      obtain ⟨r1, r2⟩ := r
      cases r1 with
      | val v =>
        simp only [Option.bind_eq_some_iff] at hy ⊢
        obtain ⟨fr1, h1, hy⟩ := hy
        exact ⟨fr1, h1, opsA_mono h hy⟩
      | skip =>
        simp only [Option.bind_eq_some_iff] at hy ⊢
        obtain ⟨fr1, h1, hy⟩ := hy
        exact ⟨fr1, h1, opsA_mono h hy⟩
      | pan ch => exact hy
      | dfr f xs =>
        simp only [Option.bind_eq_some_iff] at hy ⊢
        obtain ⟨fr1, h1, hy⟩ := hy
        exact ⟨fr1, h1, opsA_mono h hy⟩
theorem stepA_mono {E : Env} {c c' : CallA} (h : LeC c c') {ops : Array Oper} {b : Array Nat} {st0 : St} {A : List Rc} {i : Nat} {o : Oper} {fr : Fr} {st : St} {y : Rc} (hy : stepA E c ops b st0 A i o fr st = some y) : stepA E c' ops b st0 A i o fr st = some y := by
  unfold stepA at hy ⊢
  simp only [Option.bind_eq_some_iff] at hy ⊢
  obtain ⟨w, hw, hy⟩ := hy
  refine ⟨w, hw, ?_⟩
  split
  · rename_i q; rw [if_pos q] at hy; exact hy
  rename_i q; rw [if_neg q] at hy
  split
  · rename_i q; rw [if_pos q] at hy; exact hy
  rename_i q; rw [if_neg q] at hy
  split
  · rename_i q; rw [if_pos q] at hy; exact hy
  rename_i q; rw [if_neg q] at hy
  split
  · rename_i q; rw [if_pos q] at hy
    simp only [Option.bind_eq_some_iff] at hy ⊢
    obtain ⟨r, hr, hy⟩ := hy
    exact ⟨r, chainA_mono h hr, hy⟩
  · rename_i q; rw [if_neg q] at hy; exact hy
theorem drawA_mono {E : Env} {c c' : CallA} (h : LeC c c') {ops : Array Oper} {b : Array Nat} {st0 : St} : ∀ {l : List Nat} {A : List Rc} {fr : Fr} {st : St} {y : Fr × St}, drawA E c ops b st0 l A fr st = some y → drawA E c' ops b st0 l A fr st = some y
  | [], A, fr, st, y, hy => hy
  | i :: is, A, fr, st, y, hy => by
    simp only [drawA, Option.bind_eq_some_iff] at hy ⊢
    obtain ⟨o, ho, r, hr, fr1, h1, hy⟩ := hy
    exact ⟨o, ho, r, stepA_mono h hr, fr1, h1, drawA_mono h hy⟩
theorem opsS_mono {E : Env} {c c' : CallA} (h : LeC c c') {ops : Array Oper} : ∀ {l : List Oper} {fr : Fr} {u : DMode} {st : St} {y : Ex × Fr × DMode × St}, opsS E c ops l fr u st = some y → opsS E c' ops l fr u st = some y
  | [], fr, u, st, y, hy => hy
  | o :: rest, fr, u, st, y, hy => by
    simp only [opsS, Option.bind_eq_some_iff] at hy ⊢
    obtain ⟨w, hw, hy⟩ := hy
    refine ⟨w, hw, ?_⟩
    cases w with
    | false =>
      simp only [Bool.false_eq_true, if_false, Option.bind_eq_some_iff] at hy ⊢
      obtain ⟨fr1, h1, hy⟩ := hy
      exact ⟨fr1, h1, opsS_mono h hy⟩
    | true =>
      simp only [if_true] at hy ⊢
      split
      · rename_i q
        rw [if_pos q] at hy
        simp only [Option.bind_eq_some_iff] at hy ⊢
        obtain ⟨r, hr, fr1, h1, hy⟩ := hy
        exact ⟨r, hr, fr1, h1, opsS_mono h hy⟩
      · rename_i q
        rw [if_neg q] at hy
        simp only [Option.bind_eq_some_iff] at hy ⊢
        obtain ⟨r, hr, hy⟩ := hy
        refine ⟨r, opA_mono h hr, ?_⟩
        obtain ⟨r1, r2⟩ := r
        cases r1 with
        | val v =>
          simp only [Option.bind_eq_some_iff] at hy ⊢
          obtain ⟨fr1, h1, hy⟩ := hy
          exact ⟨fr1, h1, opsS_mono h hy⟩
        | skip =>
          simp only [Option.bind_eq_some_iff] at hy ⊢
          obtain ⟨fr1, h1, hy⟩ := hy
          exact ⟨fr1, h1, opsS_mono h hy⟩
        | pan ch => exact hy
        | dfr f xs => exact hy
theorem evS_mono {E : Env} {ih ih' : Job → St → Option (JobOut × St)} (h : LeI ih ih') : ∀ {c : Code} {fr : Fr} {u : DMode} {st : St} {y : Ex × Fr × DMode × St}, evS E ih c fr u st = some y → evS E ih' c fr u st = some y := by
  have other : ∀ {c : Code} {fr : Fr} {u : DMode} {st : St} {y : Ex × Fr × DMode × St}, ((ih (.code c fr) st).bind fun r => match r.1 with
      | .code e fr => some (e, fr, u, r.2)
      | .call _ => none) = some y → ((ih' (.code c fr) st).bind fun r => match r.1 with
      | .code e fr => some (e, fr, u, r.2)
      | .call _ => none) = some y := fun hy => by
    simp only [Option.bind_eq_some_iff] at hy ⊢
    obtain ⟨r, hr, hy⟩ := hy
    exact ⟨r, h _ _ _ hr, hy⟩
  intro c
  induction c with
  | seq a b iha ihb =>
    intro fr u st y hy
    simp only [evS, Option.bind_eq_some_iff] at hy ⊢
    obtain ⟨r, hr, hy⟩ := hy
    refine ⟨r, iha hr, ?_⟩
    obtain ⟨e, fr1, u1, st1⟩ := r
    cases e <;> first | exact ihb hy | exact hy
  | cond c a b iha ihb =>
    intro fr u st y hy
    simp only [evS, Option.bind_eq_some_iff] at hy ⊢
    obtain ⟨v, hv, hy⟩ := hy
    refine ⟨v, hv, ?_⟩
    split at hy
    · exact iha hy
    · exact ihb hy
    · exact hy
  | region i ops d =>
    intro fr u st y hy
    cases d with
    | false => simp only [evS] at hy ⊢; exact opsS_mono (callOf_mono h) hy
    | true => simp only [evS] at hy ⊢; exact other hy
  | _ => intro fr u st y hy; simp only [evS] at hy ⊢; exact other hy
theorem deferA_mono {E : Env} {ih ih' : Job → St → Option (JobOut × St)} (h : LeI ih ih') : ∀ {l : List (AV × List AV)} {u : DMode} {st : St} {y : DMode × St}, deferA E ih l u st = some y → deferA E ih' l u st = some y
  | [], u, st, y, hy => hy
  | (a, xs) :: ds, u, st, y, hy => by
    unfold deferA at hy ⊢
    split at hy
    · simp at *
    · rename_i f first cap xs' ds' heq
      simp only [List.cons.injEq, Prod.mk.injEq] at heq
      obtain ⟨⟨rfl, rfl⟩, rfl⟩ := heq
      simp only [Option.bind_eq_some_iff] at hy ⊢
      obtain ⟨fn, hfn, c, hc, hy⟩ := hy
      refine ⟨fn, hfn, c, hc, ?_⟩
      split
      · rename_i q
        rw [if_pos q] at hy
        simp only [Option.bind_eq_some_iff] at hy ⊢
        obtain ⟨r, hr, hy⟩ := hy
        refine ⟨r, evS_mono h hr, ?_⟩
        obtain ⟨e, fr1, u1, st1⟩ := r
        cases e with
        | normal =>
          simp only at hy ⊢
          split
          · rename_i q; rw [if_pos q] at hy; exact deferA_mono h hy
          · rename_i q; rw [if_neg q] at hy; exact hy
        | ret =>
          simp only at hy ⊢
          split
          · rename_i q; rw [if_pos q] at hy; exact deferA_mono h hy
          · rename_i q; rw [if_neg q] at hy; exact hy
        | _ => exact hy
      · rename_i q; rw [if_neg q] at hy; exact hy
    · simp at hy
theorem evStep_mono {E : Env} {ih ih' : Job → St → Option (JobOut × St)} (h : LeI ih ih') : LeI (evStep E ih) (evStep E ih') := fun j st y hy => by
  cases j with
  | code c fr =>
    cases c with
    | region i ops d =>
      cases d with
      | false =>
        simp only [evStep, Option.bind_eq_some_iff] at hy ⊢
        obtain ⟨r, hr, hy⟩ := hy
        exact ⟨r, opsA_mono (callOf_mono h) hr, hy⟩
      | true =>
        simp only [evStep] at hy ⊢
        split
        · rename_i q
          rw [if_pos q] at hy
          simp only [Option.bind_eq_some_iff] at hy ⊢
          obtain ⟨r, hr, hy⟩ := hy
          exact ⟨r, drawA_mono (callOf_mono h) hr, hy⟩
        · rename_i q; rw [if_neg q] at hy; exact hy
    | seq a b =>
      simp only [evStep, Option.bind_eq_some_iff] at hy ⊢
      obtain ⟨r, hr, hy⟩ := hy
      refine ⟨r, h _ _ _ hr, ?_⟩
      obtain ⟨o, s⟩ := r
      cases o with
      | call o => exact hy
      | code e fr => cases e <;> first | exact h _ _ _ hy | exact hy
    | cond c a b =>
      simp only [evStep, Option.bind_eq_some_iff] at hy ⊢
      obtain ⟨v, hv, hy⟩ := hy
      refine ⟨v, hv, ?_⟩
      split at hy
      · exact h _ _ _ hy
      · exact h _ _ _ hy
      · exact hy
    | block id b =>
      simp only [evStep, Option.bind_eq_some_iff] at hy ⊢
      obtain ⟨r, hr, hy⟩ := hy
      exact ⟨r, h _ _ _ hr, hy⟩
    | loop b =>
      simp only [evStep, Option.bind_eq_some_iff] at hy ⊢
      obtain ⟨r, hr, hy⟩ := hy
      refine ⟨r, h _ _ _ hr, ?_⟩
      obtain ⟨o, s⟩ := r
      cases o with
      | call o => exact hy
      | code e fr => cases e <;> first | exact h _ _ _ hy | exact hy
    | scope b => simp only [evStep] at hy ⊢; exact h _ _ _ hy
    | _ => exact hy
  | scope c b fr =>
    simp only [evStep, Option.bind_eq_some_iff] at hy ⊢
    obtain ⟨r, hr, hy⟩ := hy
    refine ⟨r, h _ _ _ hr, ?_⟩
    obtain ⟨o, s⟩ := r
    cases o with
    | call o => exact hy
    | code e fr =>
      cases e with
      | goto l =>
        simp only at hy ⊢
        split at hy
        · exact h _ _ _ hy
        · exact hy
      | _ => exact hy
  | call f args =>
    simp only [evStep] at hy ⊢
    split at hy
    · exact hy
    · simp only [Option.bind_eq_some_iff] at hy ⊢
      obtain ⟨fn, hfn, c, hc, hy⟩ := hy
      refine ⟨fn, hfn, c, hc, ?_⟩
      split
      · rename_i q
        rw [if_pos q] at hy
        simp only [Option.bind_eq_some_iff] at hy ⊢
        obtain ⟨r, hr, hy⟩ := hy
        refine ⟨r, h _ _ _ hr, ?_⟩
        obtain ⟨o, s⟩ := r
        cases o with
        | call o => exact hy
        | code e fr =>
          cases e with
          | normal =>
            simp only [Option.bind_eq_some_iff] at hy ⊢
            obtain ⟨q, hq, hy⟩ := hy
            exact ⟨q, deferA_mono h hq, hy⟩
          | ret =>
            simp only [Option.bind_eq_some_iff] at hy ⊢
            obtain ⟨q, hq, hy⟩ := hy
            exact ⟨q, deferA_mono h hq, hy⟩
          | pan ch =>
            simp only [Option.bind_eq_some_iff] at hy ⊢
            obtain ⟨q, hq, hy⟩ := hy
            exact ⟨q, deferA_mono h hq, hy⟩
          | _ => exact hy
      · rename_i q; rw [if_neg q] at hy; exact hy
theorem ev_succ {E : Env} {n : Nat} : ev E (n + 1) = evStep E (ev E n) := rfl
theorem ev_mono1 {E : Env} : ∀ n, LeI (ev E n) (ev E (n + 1))
  | 0 => fun j s y h => by simp [ev] at h
  | n + 1 => evStep_mono (ev_mono1 n)
theorem ev_mono {E : Env} {n m : Nat} (h : n ≤ m) : LeI (ev E n) (ev E m) := by
  induction h with
  | refl => exact fun j s y h => h
  | step _ ih => exact fun j s y h => ev_mono1 _ _ _ _ (ih _ _ _ h)
end Go.Ev
