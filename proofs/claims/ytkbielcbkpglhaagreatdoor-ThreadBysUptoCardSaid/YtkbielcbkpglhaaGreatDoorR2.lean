/- A law of the program answers true and leaves its arguments as they were, where what it reads is of bulk at most 1048576. -/
import Derived.Test.YtkbielcbkpglhaaGreatDoorR1
set_option linter.unusedVariables false
set_option linter.unusedSimpArgs false
namespace Go.Proofs.YtkbielcbkpglhaaGreatDoor.Thread
open Go.ChangeShapes Go.WideShapes Go.ChangeAt Go.RowKit Go.Ev Go.Proofs.Tryz
/-! ### ThreadBys -/
set_option maxRecDepth 100000 in
theorem bys_contract (H : Type) (enc : TypeId × Value → H) (W : World) (base : Nat) (args : Array Value) (ds gs : List (DataW H)) (before : List MemPlace)
    (hval : ∀ (j : Nat) t v, Tryz.f4.params[j]? = some t → args[j]? = some v → Value.okWide Tryz.prog W .any base t v)
    (hW : DataW.Whole enc Tryz.prog Tryz.f4.params.toList Rows.threadBysSpec.vars false W args.toList ds gs before) (hsh : W.ShapedOpen Tryz.prog) (hk : Rows.uptoSmall H (ds ++ gs) = true) :
    Calls Tryz.prog 4 args W fun e W' => ∃ v, e = .returned v ∧ Rows.threadBysSpec.post enc Tryz.prog Tryz.f4 false true false false W args v W' := by
  have hW' := hW
  obtain ⟨p, q, hA0, hV, rfl, hfz, hnd⟩ := hW
  have hA : DataW.TrodAll enc Tryz.prog W 0 (fun _ => true) true Tryz.f4.params.toList args.toList ds p := hA0
  rw [Tryz.params4] at hA hval
  obtain ⟨v0, vs0, d0, ds0, p0, q0, hargs, rfl, rfl, ⟨n0, h0⟩, r0⟩ := trodAll_cons hA
  obtain ⟨v1, vs1, d1, ds1, p1, q1, rfl, rfl, rfl, ⟨n1, h1⟩, r1⟩ := trodAll_cons r0
  obtain ⟨rfl, rfl, rfl⟩ := trodAll_nil r1
  obtain rfl : args = #[v0, v1] := by cases args; simp_all
  obtain ⟨rfl, rfl⟩ := trodVars_none hV
  have hb := bound hk
  simp only [List.append_nil, Rows.uptoBulkAll] at hb
  obtain ⟨k, s, v, b, m, y1, y2, y3, y4, hcs, h3, hx⟩ := word_cells h0
  obtain rfl := struct_agg hcs (by simp) (by simp)
  replace hx : d0 = _ := hx
  subst hx
  simp only [Rows.uptoBulk, Rows.uptoBulkAll] at hb
  have hN : W.heap.size ≤ W.heap.size + Tryz.prog.globals.size := Nat.le_add_right _ _
  have hN0 : 0 < W.heap.size + Tryz.prog.globals.size := by have : Tryz.prog.globals.size = 7 := Tryz.globalsSize; omega
  obtain ⟨a, ws, c, e3, hr, hlw, hok⟩ := words_of hN hN0 h3 (by omega)
  obtain ⟨xa, xl, xc, rfl⟩ := okWide_slice Tryz.underlying33 (hval 1 33 v1 rfl rfl)
  obtain ⟨a', more, c', e1, hm, hlm, hokm⟩ := words_of hN hN0 h1 (by show Rows.uptoBulk d1 ≤ _; omega)
  have hw := threadBysRun k s.data.toList (.slice a ws.length c) (.slice a' more.length c') b ws more (ofWorld _ W) (ofWorld_wf _ W) hr hm hok hokm hlw hlm (maxLen_told hsh) hN0
  refine (lift (W := W) (vs := #[.agg #[.int .i64 k, .string s, v, .bool b], .slice xa xl xc]) rfl ?_ hw fun o s h => h).mono ?_
  · show _ = [AV.agg [.int .i64 k, .str s.data.toList, toAV1 _ v, .bool b], toAV1 _ (.slice xa xl xc)]
    rw [e3, e1]
  · rintro e W' ⟨rfl, hK⟩
    exact ⟨_, rfl, law_post laidOut mapsRow sizes (of_decide_eq_true (by kernel_rfl)) rfl (by kernel_rfl) Tryz.underlying4 rfl hW' hK⟩

def bysArgs : Array Value := #[.agg #[.int .i64 0, .string ByteArray.empty, .slice none 0 0, .bool false], .slice none 0 0]
theorem bys_reads (os : Os) {H : Type} (enc : TypeId × Value → H) : ∃ places, DataW.whole enc Tryz.prog ((laidWorld os).forCall (fun _ _ => 0) ⟨#[], bysArgs, []⟩).memory Tryz.f4.params.toList Rows.threadBysSpec.vars false bysArgs.toList 8 = some ([.agg [.lit (.int .i64 0), .lit (.string []), .nil, .lit (.bool false)], .nil], [], places) :=
  ⟨[], by kernel_rfl⟩
set_option maxRecDepth 100000 in
theorem bys_lifted (os : Os) (started : os.Started) (H : Type) (enc : TypeId × Value → H) (F : Stop.Interp) :
    ReturnsInHanded {} Tryz.checked os 4 .any ((Rows.OpenSpec.upto Rows.threadBysSpec).preRow enc Tryz.prog Tryz.f4 Rows.threadBysUptoRow.domain false Rows.threadBysUptoRow.laid) (((Rows.OpenSpec.upto Rows.threadBysSpec).at F).post enc Tryz.prog Tryz.f4 false true false false) := by
  obtain ⟨places, hx⟩ := bys_reads os enc
  refine returnsInHanded_of_row (C := Tryz.checked) (s := Rows.OpenSpec.upto Rows.threadBysSpec) own started (by kernel_rfl) Tryz.func4
    (witness_row_at (enc := enc) (C := Tryz.checked) false (laidWorld os) bysArgs rfl (by kernel_rfl) (by kernel_rfl) (by kernel_rfl)
      (OpenSpec.preRow_of_cond 8 hx (by kernel_rfl) (fun k hk => by cases hk; kernel_rfl) (by kernel_rfl) (laid_met os _))) ?_
  intro W base args ds gs before hval hW _ hcond _ hL hsh _
  exact bys_contract H enc W base args ds gs before hval hW hsh (hcond _ rfl)
end Go.Proofs.YtkbielcbkpglhaaGreatDoor.Thread
