/- A law of the program answers true and leaves its arguments as they were, where what it reads is of bulk at most 1048576. -/
import Derived.Test.YtkbielcbkpglhaaGreatDoorE7
import Derived.Test.YtkbielcbkpglhaaGreatDoorL1
import Derived.Test.YtkbielcbkpglhaaGreatDoorCards
import Derived.Test.YtkbielcbkpglhaaGreatDoorTie
import Derived.WalkKit
import Derived.ProofKit
import Derived.OpenShut
import Derived.Deep.DeepHandedRow
import Derived.Lib.LaidTab
import Derived.Shelf.Vars
import Derived.Test.YtkbielcbkpglhaaGreatDoorSb3
set_option linter.unusedVariables false
set_option linter.unusedSimpArgs false
namespace Go.Proofs.YtkbielcbkpglhaaGreatDoor.Thread
open Go.ChangeShapes Go.WideShapes Go.ChangeAt Go.RowKit Go.Ev Go.Proofs.Tryz
/-! ### What a bulk tells -/
theorem bulk_one {H : Type} (d : DataW H) : 1 ≤ Rows.uptoBulk d := by
  cases d with
  | lit l => cases l <;> simp [Rows.uptoBulk]
  | nil => simp [Rows.uptoBulk]
  | ptr d => simp [Rows.uptoBulk]
  | slice elems spare => simp [Rows.uptoBulk]
  | agg parts => simp [Rows.uptoBulk]
  | iface t d => simp [Rows.uptoBulk]
  | map entries => simp [Rows.uptoBulk]
  | held h => simp [Rows.uptoBulk]
theorem bulk_mem {H : Type} {d : DataW H} : ∀ {l : List (DataW H)}, d ∈ l → Rows.uptoBulk d ≤ Rows.uptoBulkAll l
  | x :: r, h => by
    simp only [Rows.uptoBulkAll]
    rcases List.mem_cons.1 h with rfl | h
    · omega
    · have := bulk_mem h; omega
theorem bulk_length {H : Type} : ∀ l : List (DataW H), l.length ≤ Rows.uptoBulkAll l
  | [] => Nat.zero_le _
  | x :: r => by have := bulk_one x; have := bulk_length r; simp only [Rows.uptoBulkAll, List.length_cons]; omega
theorem bound {H : Type} {l : List (DataW H)} (hk : Rows.uptoSmall H l = true) : Rows.uptoBulkAll l ≤ 2 ^ 20 := of_decide_eq_true hk
/-! ### Words that are read -/
theorem st35 : structA Tryz.prog 35 = some [(3, 0, 1), (9, 1, 1), (33, 2, 1), (4, 3, 1)] := by kernel_rfl
theorem cells35 : Tryz.prog.cellsOf 35 = 4 := by kernel_rfl
theorem cells35E : Tryz.E.P.cellsOf 35 = 4 := by kernel_rfl
section
variable {H : Type} {enc : TypeId × Value → H} {W : World} {n N : Nat} {x : DataW H × List MemPlace}
/-- A text that is short enough. -/
def Fit (N : Nat) (w : WordV) (d : DataW H) : Prop := w.text.length + 1 ≤ Rows.uptoBulk d ∧ below N (.slice w.ka w.nk w.kc) = true
theorem word_cells {cs : List Value} (h : DataW.trod enc Tryz.prog W 0 (fun _ => true) true n 35 cs = some x) :
    ∃ (k : Int) (s : ByteArray) (v : Value) (b : Bool) (m : Nat) (y1 y2 y3 y4 : DataW H × List MemPlace), cs = [.int .i64 k, .string s, v, .bool b] ∧ DataW.trod enc Tryz.prog W 0 (fun _ => true) true m 33 [v] = some y3 ∧ x.1 = .agg [y1.1, .lit (.string s.data.toList), y3.1, y4.1] := by
  obtain ⟨hl, m, xs, hm, hx⟩ := trod_struct' st35 h
  rw [cells35] at hl
  match cs, hl with
  | [c0, c1, c2, c3], _ =>
    simp only [List.mapM_cons, List.mapM_nil, Option.bind_eq_bind, Option.bind_eq_some_iff, Option.pure_def, Option.some.injEq, List.drop_zero, List.drop_succ_cons, List.take_succ_cons, List.take_zero] at hm
    obtain ⟨y1, h1, l1, ⟨y2, h2, l2, ⟨y3, h3, l3, ⟨y4, h4, l4, rfl, rfl⟩, rfl⟩, rfl⟩, rfl⟩ := hm
    obtain ⟨k, e1, _⟩ := trod_int Tryz.u3 h1
    obtain ⟨s, e2, e2'⟩ := trod_string Tryz.u9 h2
    obtain ⟨b, e4⟩ := trod_bool Tryz.u4 h4
    obtain rfl : c0 = .int .i64 k := by simpa using e1
    obtain rfl : c1 = .string s := by simpa using e2
    obtain rfl : c3 = .bool b := by simpa using e4
    exact ⟨k, s, c2, b, m, y1, y2, y3, y4, rfl, h3, by rw [hx]; simp only [List.map_cons, List.map_nil, e2']⟩
theorem word_of (hN : W.heap.size ≤ N) (hN0 : 0 < N) (m : Nat) (c : List Value) (y : DataW H × List MemPlace) (h : DataW.trod enc Tryz.prog W 0 (fun _ => true) true m 35 c = some y) : ∃ w : WordV, c.map (toAV1 N) = encW w ∧ Fit N w y.1 := by
  obtain ⟨k, s, v, b, m', y1, y2, y3, y4, rfl, h3, hx⟩ := word_cells h
  have hv : ∃ (a : Option (Nat × Nat)) (len : Nat) (c : Option Nat), toAV1 N v = .slice a len c ∧ below N (.slice a len c) = true := by
    rcases trod_slice Tryz.u33 h3 with ⟨h1, h2⟩ | ⟨a, len, cap, m, elems, rest, rfl, h1, hle, h2, hl1, hl2, k1, k2⟩
    · obtain rfl : v = .slice none 0 0 := by simpa using h1
      exact ⟨none, 0, some 0, rfl, rfl⟩
    · obtain rfl : v = .slice (some a) len cap := by simpa using h1
      by_cases hc0 : cap = 0
      · have hlen : len = 0 := by omega
        subst hc0 hlen
        exact ⟨some (0, 0), 0, some 0, by simp [toAV1, hN0], decide_eq_true hN0⟩
      · obtain ⟨c0, y0, hc, _⟩ := k2 0 (by omega)
        rw [cells35E] at hc
        obtain ⟨C, ty, fz, hh, hs, _, _⟩ := cells_get hc (by omega)
        rw [add_block] at hh
        have hs' : a.spot = none := by rw [Nat.zero_mul] at hs; unfold Addr.add at hs; simpa using hs
        have hb : a.block < W.heap.size := (Array.getElem?_eq_some_iff.1 hh).1
        refine ⟨some (a.block, a.off), len, some cap, ?_, decide_eq_true (Nat.lt_of_lt_of_le hb hN)⟩
        simp only [toAV1, hc0, false_and, if_false, hs', hle, and_true, true_and]
        rw [if_pos (Nat.lt_of_lt_of_le hb hN)]
  obtain ⟨a, len, cp, hv1, hv2⟩ := hv
  refine ⟨⟨k, s.data.toList, a, len, cp, b⟩, ?_, ?_, hv2⟩
  · simp only [List.map_cons, List.map_nil, hv1, encW]; rfl
  · rw [hx]; simp only [Rows.uptoBulk, Rows.uptoBulkAll]; omega
/-- A row of words. -/
theorem words_of {v : Value} (hN : W.heap.size ≤ N) (hN0 : 0 < N) (h : DataW.trod enc Tryz.prog W 0 (fun _ => true) true n 33 [v] = some x) (hb : Rows.uptoBulk x.1 ≤ 2 ^ 20) :
    ∃ (a : Option (Nat × Nat)) (l : List WordV) (c : Option Nat), toAV1 N v = .slice a l.length c ∧ Row (ofWorld N W) 4 (.slice a l.length c) l.length (l.flatMap encW) ∧ l.length ≤ 2 ^ 20 ∧ ∀ w ∈ l, WOk (ofWorld N W) w := by
  obtain ⟨a, l, c, h1, h2, h3, h4⟩ := slice_row (Q := Fit N) Tryz.u33 cells35 (by omega) encW_length hN hN0 (word_of hN hN0) h
  refine ⟨a, l, c, h1, h2, ?_, fun w hw => ?_⟩
  · rcases h4 with ⟨_, rfl⟩ | ⟨elems, rest, e1, e2, _⟩
    · simp
    · rw [e1] at hb
      simp only [Rows.uptoBulk] at hb
      have := bulk_length elems
      omega
  · rcases h4 with ⟨_, rfl⟩ | ⟨elems, rest, e1, e2, e3⟩
    · cases hw
    · obtain ⟨d, hd, hf⟩ := e3 w hw
      rw [e1] at hb
      simp only [Rows.uptoBulk] at hb
      have := bulk_mem hd
      have := hf.1
      exact ⟨by omega, hf.2⟩
end
end Go.Proofs.YtkbielcbkpglhaaGreatDoor.Thread
set_option linter.unusedVariables false
set_option linter.unusedSimpArgs false
namespace Go.Proofs.YtkbielcbkpglhaaGreatDoor.Thread
open Go.ChangeShapes Go.WideShapes Go.ChangeAt Go.RowKit Go.Ev Go.Proofs.Tryz
/-! ### What every law here takes -/
theorem own : ownKnob Tryz.prog.godebug = none := by kernel_rfl
theorem laidOut : laidOutB Tryz.prog = true := by kernel_rfl
theorem mapsRow : mapsRowed Tryz.prog = true := by kernel_rfl
theorem sizesB : ((List.range Tryz.prog.types.size).all fun t => match Tryz.prog.underlying t with | some (.slice e) => decide (0 < Tryz.prog.cellsOf e) | _ => true) = true := by kernel_rfl
theorem sizes (t e : TypeId) (ht : t < Tryz.prog.types.size) (h : Tryz.prog.underlying t = some (.slice e)) : 0 < Tryz.prog.cellsOf e := by
  have := List.all_eq_true.1 sizesB t (List.mem_range.2 ht)
  rw [h] at this
  exact of_decide_eq_true this
/-- MaxLen's cell holds some number. -/
theorem maxLen {W : World} (h : W.ShapedOpen Tryz.prog) : ∃ m, W.cell? ⟨0, 0, none⟩ = some (.int .i64 m) :=
  cell_of_shapedOpen_int (P := Tryz.prog) (g := 0) (t := 3) (zero := #[.int .i64 0]) h (of_decide_eq_true (by kernel_rfl)) (by kernel_rfl) rfl (by kernel_rfl) (by kernel_rfl) Tryz.underlying3
theorem maxLen_told {W : World} {N : Nat} (h : W.ShapedOpen Tryz.prog) : ∃ m cs, (ofWorld N W).heap.get 0 = some (.ro (.int .i64 m :: cs)) := by
  obtain ⟨m, hm⟩ := maxLen h
  unfold World.cell? at hm
  split at hm
  case h_2 => cases hm
  rename_i C t fz hh
  simp only [Option.isSome_none, Bool.false_eq_true, if_false] at hm
  rw [ofWorld_get hh]
  refine ⟨m, (C.toList.drop 1).map (toAV1 N), ?_⟩
  obtain ⟨l⟩ := C
  cases l with
  | nil => simp at hm
  | cons y l =>
    simp at hm
    subst hm
    rfl
/-- What a walk over the told world gives. -/
theorem lift {W : World} {N : Nat} {f : FuncId} {args : List AV} {vs : Array Value} {Q : Out → St → Prop} (hs : W.heap.size + Tryz.prog.globals.size = N) (ha : args = vs.toList.map (toAV N)) (h : CW Tryz.E f args (ofWorld N W) Q) (hq : ∀ o s, Q o s → o = .ret (.bool true)) :
    Calls Tryz.prog f vs W fun e W' => e = .returned (.bool true) ∧ Keep (Froz.world W) W W' := by
  unfold CW at h
  obtain ⟨n, o, s, h1, h2⟩ := h
  obtain rfl := hq o s h2
  subst ha
  refine (ev_calls (E := Tryz.E) Tryz.mixed Tryz.noNum Tryz.prims (ofWorld_rel (P := Tryz.E.P) (by show Tryz.prog.globals.size ≤ N; omega) (by omega)) (toAV_reps N vs.toList) h1).mono ?_
  rintro e W' ⟨ψ, _, _, hK, hE⟩
  refine ⟨?_, hK⟩
  cases e with
  | returned u => simp only [RepE, Rep] at hE; rw [hE]
  | panicked c => exact hE.elim
  | outgrown => exact hE.elim
/-! ### A world for the witness -/
def cellsOfD : Nat → DataW Unit → List Value
  | 0, _ => []
  | _ + 1, .lit (.int k n) => [.int k n]
  | n + 1, .agg l => l.flatMap (cellsOfD n)
  | _, _ => []
def lay (g : Nat) (d : DataW Unit) (h : Array Obj) : Array Obj := h.modify g fun
  | .cells _ t fz => .cells (cellsOfD 4 d).toArray t fz
  | o => o
noncomputable def laidWorld (os : Os) : World :=
  { World.holding Tryz.prog os ⟨#[], #[], []⟩ with heap := lay 5 Rows.laid_math_bits_deBruijn32tab (lay 6 Rows.laid_math_bits_deBruijn64tab (lay 4 Rows.laid_internal_strconv_uint64pow10 (lay 3 Rows.laid_unicode_utf8_acceptRanges (lay 1 Rows.laid_postbag_moment_lengths (lay 2 Rows.laid_unicode_utf8_first (World.holding Tryz.prog os ⟨#[], #[], []⟩).heap))))) }
theorem laid_met (os : Os) (vs : Array Value) : laidMet Tryz.prog Rows.threadBysUptoRow.laid ((laidWorld os).forCall (fun _ _ => 0) ⟨#[], vs, []⟩).memory :=
  laidMet_of_run' 8 (by kernel_rfl) (by kernel_rfl)
end Go.Proofs.YtkbielcbkpglhaaGreatDoor.Thread
