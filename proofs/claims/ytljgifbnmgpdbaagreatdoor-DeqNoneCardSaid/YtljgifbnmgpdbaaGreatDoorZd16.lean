/- Law 20, DeqNone: for every input its call returns true, and each argument reads behind the call as it read before; no condition of ours. (Here too: Arguments as they are read: a row of texts, a row of numbers, flags. Arguments as they are read: three flags; a record. What every card of these laws asks: the one table of the library's that is read, a world that holds all that the rows list.) -/
import Derived.Test.YtljgifbnmgpdbaaGreatDoorZd15
import Derived.ProofKit
import Derived.OpenShut
import Derived.Lib.SmallJoins
import Derived.Test.YtljgifbnmgpdbaaGreatDoorCards
import Derived.Test.YtljgifbnmgpdbaaGreatDoorTie
import Derived.WalkKit
import Derived.Carry
import Derived.Deep.DeepHandedRow
import Derived.Lib.LaidTab
import Derived.Lay
import Derived.Stop.LaidErr
set_option linter.unusedSimpArgs false
set_option linter.unusedVariables false
set_option linter.unnecessarySimpa false
namespace Go.Proofs.YtljgifbnmgpdbaaGreatDoor
open Go Go.ChangeShapes Go.WideShapes Go.ChangeAt Go.RowKit

theorem strings_read {H : Type} {enc : TypeId × Value → H} {W : World} {fuel : Nat} {c : Value} {x : DataW H × List MemPlace} (h : DataW.trod enc Tryz.prog W 0 (fun _ => true) true fuel 44 [c] = some x) : ∃ ks : List ByteArray, KeysAt W c ks ∧ ks.length ≤ maxLen := by
  rcases open_strings Tryz.underlying44 Tryz.underlying9 (by kernel_rfl) h with ⟨hcs, -⟩ | ⟨a, len, cap, ss, hcs, -, hl, hm, hz, -, hcell, -⟩
  · simp only [List.cons.injEq, and_true] at hcs
    subst hcs
    exact ⟨[], ⟨none, 0, rfl, fun i s hi => by simp at hi⟩, Nat.zero_le _⟩
  · simp only [List.cons.injEq, and_true] at hcs
    subst hcs
    simp only [if_true] at hz
    have hlen : (ss.take len).length = len := by simp; omega
    refine ⟨ss.take len, ⟨some a, cap, by rw [hlen], fun i s hi => ?_⟩, by rw [hlen]; omega⟩
    have hil : i < len := by rw [← hlen]; exact (List.getElem?_eq_some_iff.1 hi).1
    have hc := hcell i (by omega)
    obtain ⟨b, o, st⟩ := a
    have hst : st = none := by simpa [Addr.add] using World.cell?_spot (hcell 0 (by omega))
    subst hst
    rw [addr_add] at hc
    refine ⟨b, o, rfl, ?_⟩
    rw [hc]
    have : ss[i]? = some s := by rw [List.getElem?_take_of_lt hil] at hi; exact hi
    simp [List.getD_eq_getElem?_getD, this]

theorem ints_read {H : Type} {enc : TypeId × Value → H} {W : World} {fuel : Nat} {c : Value} {x : DataW H × List MemPlace} (h : DataW.trod enc Tryz.prog W 0 (fun _ => true) true fuel 43 [c] = some x) : ∃ l : List Int, IntsAt W c l ∧ l.length ≤ maxLen := by
  rcases open_ints Tryz.underlying43 Tryz.underlying3 (by kernel_rfl) h with ⟨hcs, -⟩ | ⟨a, len, cap, zs, hcs, -, hl, hm, hz, -, hcell, -⟩
  · simp only [List.cons.injEq, and_true] at hcs
    subst hcs
    exact ⟨[], .inl ⟨_, _, rfl, rfl⟩, Nat.zero_le _⟩
  · simp only [List.cons.injEq, and_true] at hcs
    subst hcs
    simp only [if_true] at hz
    have hlen : (zs.take len).length = len := by simp; omega
    obtain ⟨b, o, st⟩ := a
    by_cases h0 : len = 0
    · subst h0
      exact ⟨[], .inl ⟨_, _, rfl, rfl⟩, Nat.zero_le _⟩
    · have hst : st = none := by simpa [Addr.add] using World.cell?_spot (hcell 0 (by omega))
      subst hst
      refine ⟨zs.take len, .inr ⟨b, o, cap, by rw [hlen], fun i x hi => ?_⟩, by rw [hlen]; omega⟩
      have hil : i < len := by rw [← hlen]; exact (List.getElem?_eq_some_iff.1 hi).1
      have hc := hcell i (by omega)
      rw [addr_add] at hc
      rw [hc]
      have : zs[i]? = some x := by rw [List.getElem?_take_of_lt hil] at hi; exact hi
      simp [List.getD_eq_getElem?_getD, this]
end Go.Proofs.YtljgifbnmgpdbaaGreatDoor

namespace Go.Proofs.YtljgifbnmgpdbaaGreatDoor
open Go Go.ChangeShapes Go.WideShapes Go.ChangeAt Go.RowKit

set_option maxRecDepth 100000 in
theorem msg_read {H : Type} {enc : TypeId × Value → H} {W : World} {base : Nat} {v : Value} {d : DataW H} {p : List MemPlace} (hv : Value.okWide Tryz.prog W .any base 46 v)
    (h : DataW.Trod enc Tryz.prog W 0 (fun _ => true) true 46 v d p) : ∃ (m : MsgM) (kv : Value), v = msgV m kv ∧ KeysAt W kv m.keys ∧ m.keys.length ≤ maxLen ∧ m.body.size ≤ maxLen ∧ m.topic.size ≤ maxLen ∧ m.tag.size ≤ maxLen := by
  obtain ⟨cs, rfl, hsz⟩ := okWide_struct Tryz.underlying46 hv
  rw [show Tryz.prog.cellsOf 46 = 10 by kernel_rfl] at hsz
  obtain ⟨fuel, hf⟩ := h
  obtain ⟨xs, n, -, -, -, hxl, hfld⟩ := DataW.trod_struct Tryz.underlying46 hf
  have hxl : xs.length = 10 := hxl
  obtain ⟨c0, c1, c2, c3, c4, c5, c6, c7, c8, c9, rfl⟩ : ∃ c0 c1 c2 c3 c4 c5 c6 c7 c8 c9, cs = #[c0, c1, c2, c3, c4, c5, c6, c7, c8, c9] := by
    obtain ⟨l⟩ := cs
    match l, hsz with
    | [c0, c1, c2, c3, c4, c5, c6, c7, c8, c9], _ => exact ⟨_, _, _, _, _, _, _, _, _, _, rfl⟩
  have k3 : Tryz.prog.cellsOf 3 = 1 := by kernel_rfl
  have k9 : Tryz.prog.cellsOf 9 = 1 := by kernel_rfl
  have k44 : Tryz.prog.cellsOf 44 = 1 := by kernel_rfl
  have f0 : DataW.trod enc Tryz.prog W 0 (fun _ => true) true n 3 (List.take (Tryz.prog.cellsOf 3) [c0, c1, c2, c3, c4, c5, c6, c7, c8, c9]) = xs[0]? := hfld 0 _ rfl
  rw [k3, List.getElem?_eq_getElem (by omega)] at f0
  have f0 : DataW.trod enc Tryz.prog W 0 (fun _ => true) true n 3 [c0] = some xs[0] := f0
  have f1 : DataW.trod enc Tryz.prog W 0 (fun _ => true) true n 3 (List.take (Tryz.prog.cellsOf 3) [c1, c2, c3, c4, c5, c6, c7, c8, c9]) = xs[1]? := hfld 1 _ rfl
  rw [k3, List.getElem?_eq_getElem (by omega)] at f1
  have f1 : DataW.trod enc Tryz.prog W 0 (fun _ => true) true n 3 [c1] = some xs[1] := f1
  have f2 : DataW.trod enc Tryz.prog W 0 (fun _ => true) true n 3 (List.take (Tryz.prog.cellsOf 3) [c2, c3, c4, c5, c6, c7, c8, c9]) = xs[2]? := hfld 2 _ rfl
  rw [k3, List.getElem?_eq_getElem (by omega)] at f2
  have f2 : DataW.trod enc Tryz.prog W 0 (fun _ => true) true n 3 [c2] = some xs[2] := f2
  have f3 : DataW.trod enc Tryz.prog W 0 (fun _ => true) true n 3 (List.take (Tryz.prog.cellsOf 3) [c3, c4, c5, c6, c7, c8, c9]) = xs[3]? := hfld 3 _ rfl
  rw [k3, List.getElem?_eq_getElem (by omega)] at f3
  have f3 : DataW.trod enc Tryz.prog W 0 (fun _ => true) true n 3 [c3] = some xs[3] := f3
  have f4 : DataW.trod enc Tryz.prog W 0 (fun _ => true) true n 3 (List.take (Tryz.prog.cellsOf 3) [c4, c5, c6, c7, c8, c9]) = xs[4]? := hfld 4 _ rfl
  rw [k3, List.getElem?_eq_getElem (by omega)] at f4
  have f4 : DataW.trod enc Tryz.prog W 0 (fun _ => true) true n 3 [c4] = some xs[4] := f4
  have f5 : DataW.trod enc Tryz.prog W 0 (fun _ => true) true n 3 (List.take (Tryz.prog.cellsOf 3) [c5, c6, c7, c8, c9]) = xs[5]? := hfld 5 _ rfl
  rw [k3, List.getElem?_eq_getElem (by omega)] at f5
  have f5 : DataW.trod enc Tryz.prog W 0 (fun _ => true) true n 3 [c5] = some xs[5] := f5
  have f6 : DataW.trod enc Tryz.prog W 0 (fun _ => true) true n 9 (List.take (Tryz.prog.cellsOf 9) [c6, c7, c8, c9]) = xs[6]? := hfld 6 _ rfl
  rw [k9, List.getElem?_eq_getElem (by omega)] at f6
  have f6 : DataW.trod enc Tryz.prog W 0 (fun _ => true) true n 9 [c6] = some xs[6] := f6
  have f7 : DataW.trod enc Tryz.prog W 0 (fun _ => true) true n 9 (List.take (Tryz.prog.cellsOf 9) [c7, c8, c9]) = xs[7]? := hfld 7 _ rfl
  rw [k9, List.getElem?_eq_getElem (by omega)] at f7
  have f7 : DataW.trod enc Tryz.prog W 0 (fun _ => true) true n 9 [c7] = some xs[7] := f7
  have f8 : DataW.trod enc Tryz.prog W 0 (fun _ => true) true n 9 (List.take (Tryz.prog.cellsOf 9) [c8, c9]) = xs[8]? := hfld 8 _ rfl
  rw [k9, List.getElem?_eq_getElem (by omega)] at f8
  have f8 : DataW.trod enc Tryz.prog W 0 (fun _ => true) true n 9 [c8] = some xs[8] := f8
  have f9 : DataW.trod enc Tryz.prog W 0 (fun _ => true) true n 44 (List.take (Tryz.prog.cellsOf 44) [c9]) = xs[9]? := hfld 9 _ rfl
  rw [k44, List.getElem?_eq_getElem (by omega)] at f9
  have f9 : DataW.trod enc Tryz.prog W 0 (fun _ => true) true n 44 [c9] = some xs[9] := f9
  obtain ⟨n0, e0, -, -⟩ := DataW.trod_int Tryz.underlying3 f0
  obtain ⟨n1, e1, -, -⟩ := DataW.trod_int Tryz.underlying3 f1
  obtain ⟨n2, e2, -, -⟩ := DataW.trod_int Tryz.underlying3 f2
  obtain ⟨n3, e3, -, -⟩ := DataW.trod_int Tryz.underlying3 f3
  obtain ⟨n4, e4, -, -⟩ := DataW.trod_int Tryz.underlying3 f4
  obtain ⟨n5, e5, -, -⟩ := DataW.trod_int Tryz.underlying3 f5
  obtain ⟨s6, e6, -, z6⟩ := DataW.trod_string Tryz.underlying9 f6
  obtain ⟨s7, e7, -, z7⟩ := DataW.trod_string Tryz.underlying9 f7
  obtain ⟨s8, e8, -, z8⟩ := DataW.trod_string Tryz.underlying9 f8
  obtain ⟨ks, hks, hkl⟩ := strings_read f9
  simp only [List.cons.injEq, and_true] at e0 e1 e2 e3 e4 e5 e6 e7 e8
  subst e0 e1 e2 e3 e4 e5 e6 e7 e8
  exact ⟨⟨n0, n1, n2, n3, n4, n5, s6, s7, s8, ks⟩, c9, rfl, hks, hkl, z8, z6, z7⟩

set_option maxRecDepth 100000 in
theorem flags_read {H : Type} {enc : TypeId × Value → H} {W : World} {base : Nat} {v : Value} {d : DataW H} {p : List MemPlace} (hv : Value.okWide Tryz.prog W .any base 22 v)
    (h : DataW.Trod enc Tryz.prog W 0 (fun _ => true) true 22 v d p) : ∃ f0 f1 f2 : Bool, v = .agg #[.bool f0, .bool f1, .bool f2] := by
  simp only [Value.okWide, Tryz.underlying22] at hv
  obtain ⟨cs, rfl, hsz, -⟩ := hv
  rw [show Tryz.prog.cellsOf 22 = 3 by kernel_rfl] at hsz
  obtain ⟨fuel, hf⟩ := h
  obtain ⟨xs, n, -, -, -, hxl, hfld⟩ := DataW.trod_array Tryz.underlying22 hf
  obtain ⟨c0, c1, c2, rfl⟩ : ∃ c0 c1 c2, cs = #[c0, c1, c2] := by
    obtain ⟨l⟩ := cs
    match l, hsz with
    | [c0, c1, c2], _ => exact ⟨_, _, _, rfl⟩
  have k4 : Tryz.prog.cellsOf 4 = 1 := by kernel_rfl
  rw [k4] at hfld
  have f0 := hfld 0 (by omega)
  have f1 := hfld 1 (by omega)
  have f2 := hfld 2 (by omega)
  rw [List.getElem?_eq_getElem (by omega)] at f0 f1 f2
  have f0 : DataW.trod enc Tryz.prog W 0 (fun _ => true) true n 4 [c0] = some xs[0] := f0
  have f1 : DataW.trod enc Tryz.prog W 0 (fun _ => true) true n 4 [c1] = some xs[1] := f1
  have f2 : DataW.trod enc Tryz.prog W 0 (fun _ => true) true n 4 [c2] = some xs[2] := f2
  obtain ⟨b0, e0, -⟩ := DataW.trod_bool Tryz.underlying4 f0
  obtain ⟨b1, e1, -⟩ := DataW.trod_bool Tryz.underlying4 f1
  obtain ⟨b2, e2, -⟩ := DataW.trod_bool Tryz.underlying4 f2
  simp only [List.cons.injEq, and_true] at e0 e1 e2
  subst e0 e1 e2
  exact ⟨b0, b1, b2, rfl⟩
end Go.Proofs.YtljgifbnmgpdbaaGreatDoor

namespace Go.Proofs.YtljgifbnmgpdbaaGreatDoor
open Go Go.ChangeShapes Go.WideShapes Go.ChangeAt Go.RowKit

theorem own : ownKnob Tryz.prog.godebug = none := by kernel_rfl
theorem laidOut : laidOutB Tryz.prog = true := by kernel_rfl
theorem gTabType : (Tryz.prog.globals[3]?).map (·.type) = some 406 := by kernel_rfl
theorem cellsTab : Tryz.prog.cellsOf 406 = 20 := by kernel_rfl
theorem cellsWord : Tryz.prog.cellsOf 304 = 1 := by kernel_rfl
theorem eight {W : World} (h : W.ShapedOpen Tryz.prog) : 8 ≤ W.heap.size := by
  have h0 : (begin Tryz.prog (fun _ _ => 0) default).world.heap[7]?.isSome = true := by kernel_rfl
  by_cases h8 : 8 ≤ W.heap.size
  · exact h8
  · exfalso
    obtain ⟨z, t, hz⟩ : ∃ zero t, ((begin Tryz.prog (fun _ _ => 0) default).world.heap[7]?).bind Obj.row? = some (zero, t) := by
      have : (((begin Tryz.prog (fun _ _ => 0) default).world.heap[7]?).bind Obj.row?).isSome = true := by kernel_rfl
      obtain ⟨x, hx⟩ := Option.isSome_iff_exists.1 this
      exact ⟨x.1, x.2, hx⟩
    obtain ⟨cs, hcs, -⟩ := h.1 7 z t (of_decide_eq_true (by kernel_rfl)) hz
    have := (Array.getElem?_eq_some_iff.1 hcs).1
    omega

/-- The rows' list. -/
def laidL : List (String × DataW Unit) := [("math/bits.deBruijn32tab", Rows.laid_math_bits_deBruijn32tab), ("math/bits.deBruijn64tab", Rows.laid_math_bits_deBruijn64tab), ("internal/strconv.uint64pow10", Rows.laid_internal_strconv_uint64pow10), ("unicode/utf8.acceptRanges", Rows.laid_unicode_utf8_acceptRanges), ("strconv.ErrRange", Rows.laid_strconv_ErrRange), ("strconv.ErrSyntax", Rows.laid_strconv_ErrSyntax), ("unicode/utf8.first", Rows.laid_unicode_utf8_first)]
theorem laid_plain (W : World) : laidMetH Tryz.prog laidL W = laidMet Tryz.prog laidL W := MakeChecks.laidMetH_plain _ _ _ (by kernel_rfl)

theorem glob_of {W : World} (h8 : W.ShapedOpen Tryz.prog) (h : laidMetH Tryz.prog laidL W) : Glob W := by
  rw [laid_plain] at h
  have h3 : laidMet Tryz.prog (("internal/strconv.uint64pow10", Lib.tabData .u64 Lib.pow10Tab) :: _) W := laidMet.tail (laidMet.tail h)
  exact ⟨eight h8, Lib.tabIs_of_head glob_at gTabType Tryz.underlying406 Tryz.underlying304 cellsWord cellsTab h3⟩

noncomputable def laidWorld (os : Os) : World := World.laidAll Tryz.prog os laidL
theorem laid_met (os : Os) (args : Array Value) : laidMetH Tryz.prog laidL ((laidWorld os).forCall (fun _ _ => 0) ⟨#[], args, []⟩).memory := by
  rw [laid_plain]; exact laidMet_laidAll _ (by kernel_rfl) (by kernel_rfl)

theorem witness_laid {H : Type} {enc : TypeId × Value → H} {C : Checked} {os : Os} {f : FuncId} {fn : Func} {s : OpenSpec} {conds : List PathCond} {apart : Bool} {laid : List (String × DataW Unit)} (w0 : World) (args : Array Value) (hos : w0.os = os)
    (hsh : (w0.forCall (fun _ _ => 0) ⟨#[], args, []⟩).Shaped C.prog) (hok : Input.okWideB C.prog (w0.forCall (fun _ _ => 0) ⟨#[], args, []⟩) f ⟨#[], args, []⟩ = true)
    (hrow : s.preRow enc C.prog fn conds apart laid (w0.forCall (fun _ _ => 0) ⟨#[], args, []⟩).memory args) :
    ∃ (w : World) (tape : Tape) (i : Input), w.os = os ∧ (w.forCall tape i).Shaped C.prog ∧ i.vars = [] ∧ Input.okWide C.prog (w.forCall tape i) .any w.heap.size f i ∧
      s.preRow enc C.prog fn conds apart laid (w.forCall tape i).memory i.args ∧ ({} : Assume).holds C.prog (lone (Frame.enter C.prog f i.args .normal) [] (w.forCall tape i)) :=
  ⟨w0, fun _ _ => 0, ⟨#[], args, []⟩, hos, hsh, (Input.okWide_of_okWideB (base := 0) hok).1, (Input.okWide_of_okWideB hok).2, hrow, by
    simp only [Assume.holds]
    exact ⟨by simp, by simp, by simp, by simp, by simp⟩⟩

/-- No function starts a goroutine: so no call does. -/
theorem no_goes : Tryz.prog.funcs.any Func.goes = false := by kernel_rfl
theorem goes_of (c : OpenClaim) (hs : c.start = .entering) : false = c.goesBy Tryz.pinned.checked.prog := by
  have hn : (Tryz.pinned.checked.prog).funcs.any Func.goes = false := no_goes
  generalize Tryz.pinned.checked.prog = P at hn
  have hg : ∀ f, P.goes f = false := by
    intro f
    unfold Program.goes
    rw [hn, Bool.and_false, Bool.or_false, List.any_eq_false]
    intro g _
    cases hf : P.funcs[g]? with
    | none => simp
    | some fn =>
      have h1 := (Array.any_eq_false.1 hn) g (Array.getElem?_eq_some_iff.1 hf).1
      rw [(Array.getElem?_eq_some_iff.1 hf).2] at h1
      simpa using h1
  unfold OpenClaim.goesBy Program.goesAt Program.goesFrom
  rw [hs]
  cases P.funcNamed c.func with
  | none => rfl
  | some f => simp [hg]
end Go.Proofs.YtljgifbnmgpdbaaGreatDoor

namespace Go.Proofs.YtljgifbnmgpdbaaGreatDoor.deqNone
open Go.ChangeShapes Go.WideShapes Go.ChangeAt Go.RowKit
set_option maxRecDepth 100000 in
set_option maxHeartbeats 1000000 in
theorem contract (H : Type) (enc : TypeId × Value → H) (W : World) (base : Nat) (args : Array Value) (ds gs : List (DataW H)) (before : List MemPlace)
    (hval : ∀ (j : Nat) t v, Tryz.f6.params[j]? = some t → args[j]? = some v → Value.okWide Tryz.prog W .any base t v)
    (hW : DataW.Whole enc Tryz.prog Tryz.f6.params.toList Rows.deqNoneSpec.vars false W args.toList ds gs before) (hL : laidMetH Tryz.prog Rows.deqNoneRow.laid W) (hsh : W.ShapedOpen Tryz.prog) :
    Calls Tryz.prog 6 args W fun e W' => ∃ v, e = .returned v ∧ Rows.deqNoneSpec.post enc Tryz.prog Tryz.f6 false true false false W args v W' := by
  have hW' := hW
  obtain ⟨p, q, hA0, hV, rfl, hfz, hnd⟩ := hW
  have hA : DataW.TrodAll enc Tryz.prog W 0 (fun _ => true) true Tryz.f6.params.toList args.toList ds p := hA0
  rw [Tryz.params6] at hA hval
  obtain ⟨v0, vs0, d0, ds0, p0, q0, hargs, rfl, rfl, h0, r0⟩ := trodAll_cons hA
  obtain ⟨v1, vs1, d1, ds1, p1, q1, hargs1, rfl, rfl, h1, r1⟩ := trodAll_cons r0
  obtain ⟨v2, vs2, d2, ds2, p2, q2, hargs2, rfl, rfl, h2, r2⟩ := trodAll_cons r1
  obtain ⟨rfl, rfl, rfl⟩ := trodAll_nil r2
  obtain rfl : vs0 = [v1, v2] := by rw [hargs1, hargs2]
  obtain rfl : args = #[v0, v1, v2] := by cases args; simp_all
  have hlt : ∀ x ∈ p0 ++ (p1 ++ (p2 ++ [])), x.block < W.heap.size := fun x hx => by simpa using hW'.lt x (List.mem_append_left _ hx)
  obtain ⟨rfl, rfl⟩ := trodVars_none hV
  have walk : Calls Tryz.prog 6 #[v0, v1, v2] W fun e w' => e = .returned (.bool true) ∧ Touch [] W w' := by
    obtain ⟨f0, f1, f2, rfl⟩ := flags_read (hval 0 22 v0 rfl rfl) h0
    obtain ⟨a1, n1, c1, rfl⟩ := okWide_slice Tryz.underlying43 (hval 1 43 v1 rfl rfl)
    obtain ⟨fuel1, hf1⟩ := h1
    obtain ⟨ids, hids, hil⟩ := ints_read (c := .slice a1 n1 c1) hf1
    obtain ⟨m, kv, rfl, hk, hkl, hb, ht, hg⟩ := msg_read (hval 2 46 v2 rfl rfl) h2
    exact deqNone_ok W (glob_of hsh hL) f0 f1 f2 _ ids hids hil m kv hk hkl ⟨hb, ht, hg⟩
  refine walk.mono fun e W' ⟨he, hT⟩ => ?_
  subst he
  have hB := hT.below
  refine ⟨_, rfl, _, _, _, [], p0 ++ (p1 ++ (p2 ++ [])), [], hW', ?_, ?_, ?_, hB.frame _, fun h => by cases h⟩
  · exact trodAll_cons_mk (shut_bool Tryz.underlying4 _) trodAll_mk0
  · exact trodAll_cons_mk (Below.trod laidOut (by kernel_rfl) (of_decide_eq_true (by kernel_rfl)) h0 hB (fun x hx => hlt x (by simp [hx]))) (trodAll_cons_mk (Below.trod laidOut (by kernel_rfl) (of_decide_eq_true (by kernel_rfl)) h1 hB (fun x hx => hlt x (by simp [hx]))) (trodAll_cons_mk (Below.trod laidOut (by kernel_rfl) (of_decide_eq_true (by kernel_rfl)) h2 hB (fun x hx => hlt x (by simp [hx]))) trodAll_mk0))
  · rfl
theorem reads (os : Os) {H : Type} (enc : TypeId × Value → H) : ∃ places, DataW.whole enc Tryz.prog ((laidWorld os).forCall (fun _ _ => 0) ⟨#[], #[.agg #[.bool false, .bool false, .bool false], .slice none 0 0, .agg #[.int .i64 0, .int .i64 0, .int .i64 0, .int .i64 0, .int .i64 0, .int .i64 0, .string ByteArray.empty, .string ByteArray.empty, .string ByteArray.empty, .slice none 0 0]], []⟩).memory Tryz.f6.params.toList Rows.deqNoneSpec.vars false (#[.agg #[.bool false, .bool false, .bool false], .slice none 0 0, .agg #[.int .i64 0, .int .i64 0, .int .i64 0, .int .i64 0, .int .i64 0, .int .i64 0, .string ByteArray.empty, .string ByteArray.empty, .string ByteArray.empty, .slice none 0 0]] : Array Value).toList 16 = some ([.agg [.lit (.bool false), .lit (.bool false), .lit (.bool false)], .nil, .agg [.lit (.int .i64 0), .lit (.int .i64 0), .lit (.int .i64 0), .lit (.int .i64 0), .lit (.int .i64 0), .lit (.int .i64 0), .lit (.string []), .lit (.string []), .lit (.string []), .nil]], [], places) :=
    ⟨[], by kernel_rfl⟩
  theorem shaped (os : Os) : ((laidWorld os).forCall (fun _ _ => 0) ⟨#[], #[.agg #[.bool false, .bool false, .bool false], .slice none 0 0, .agg #[.int .i64 0, .int .i64 0, .int .i64 0, .int .i64 0, .int .i64 0, .int .i64 0, .string ByteArray.empty, .string ByteArray.empty, .string ByteArray.empty, .slice none 0 0]], []⟩).Shaped Tryz.checked.prog := World.shaped_of_ZipB (by kernel_rfl) (by kernel_rfl)
  
  set_option maxRecDepth 100000 in
  theorem lifted (os : Os) (started : os.Started) (H : Type) (enc : TypeId × Value → H) (F : Stop.Interp) :
      ReturnsInHanded {} Tryz.checked os 6 .any ((OpenSpec.ofChange Rows.deqNoneSpec).preRow enc Tryz.prog Tryz.f6 Rows.deqNoneRow.domain false Rows.deqNoneRow.laid) (((OpenSpec.ofChange Rows.deqNoneSpec).at F).post enc Tryz.prog Tryz.f6 false true false false) := by
    obtain ⟨places, hx⟩ := reads os enc
    refine returnsInHanded_of_row (C := Tryz.checked) (s := OpenSpec.ofChange Rows.deqNoneSpec) own started (by kernel_rfl) Tryz.func6
      (witness_laid (enc := enc) (C := Tryz.checked) (laidWorld os) #[.agg #[.bool false, .bool false, .bool false], .slice none 0 0, .agg #[.int .i64 0, .int .i64 0, .int .i64 0, .int .i64 0, .int .i64 0, .int .i64 0, .string ByteArray.empty, .string ByteArray.empty, .string ByteArray.empty, .slice none 0 0]] (World.laidAll_os _ _ _) (shaped os) (by kernel_rfl)
        (OpenSpec.preRow_of_cond 16 hx rfl (fun k hk => by cases hk) (by kernel_rfl) (laid_met os _))) ?_
    intro W base args ds gs before hval hW _ _ _ hL hsh _
    exact contract H enc W base args ds gs before hval hW hL hsh
  
  theorem hunf : Tryz.prog.unfollowed 6 = true := by kernel_rfl
  theorem hplace : (Rows.deqNoneRow.inPlace == Tryz.prog.inPlace 6) = true := by kernel_rfl
  theorem hnamed : (Rows.deqNoneRow.named == Tryz.prog.varsNamed 6) = true := by kernel_rfl
  theorem hrec : Tryz.prog.recurses 6 = true := by unfold Program.recurses; rw [hunf]; rfl
  theorem closed : joinedFacts Tryz.prog 6 Tryz.f6 Rows.deqNoneSpec Rows.deqNoneRow = true := by
    unfold joinedFacts
    rw [hplace, hnamed, hunf, hrec]
    kernel_rfl
  
  set_option maxRecDepth 100000 in
  theorem said : Rows.DeqNoneSaid :=
    OpenClaim.holds_of_cond 6 Tryz.f6 rfl rfl rfl rfl rfl rfl rfl ⟨rfl, rfl, rfl, rfl, rfl⟩ rfl rfl rfl rfl rfl (by kernel_rfl) Tryz.func6 closed
      (of_decide_eq_true (by kernel_rfl)) (by unfold Func.isWrapper; first | (rw [if_pos (by decide +kernel)]; kernel_rfl) | (rw [if_neg (by decide +kernel)]; exact ⟨rfl, rfl⟩))
      (fun os started H enc _ F => by rw [OpenClaim.pre_eq_preRow]; exact lifted os started H enc F)
  
  theorem plain (f : FuncId) (fn : Func) (hf : Tryz.pinned.checked.prog.funcNamed "reveille/reveillelaw20.DeqNone" = some f) (hfn : Tryz.pinned.checked.prog.funcs[f]? = some fn) :
      true = Tryz.pinned.checked.prog.looks [] ∧ ∀ (j : Nat) t, fn.params[j]? = some t → Tryz.pinned.checked.prog.wantsStandIn t = false := by
    obtain rfl : f = 6 := Option.some.inj ((show Tryz.prog.funcNamed "reveille/reveillelaw20.DeqNone" = some 6 by kernel_rfl).symm.trans hf) |>.symm
    obtain rfl : fn = Tryz.f6 := (Option.some.inj (Tryz.func6.symm.trans hfn)).symm
    refine ⟨by kernel_rfl, fun j t ht => ?_⟩
    rw [Tryz.params6] at ht
    have hm : t ∈ [22, 43, 46] := by simpa using Array.mem_of_getElem? ht
    have hall : ([22, 43, 46].all fun u => !Tryz.prog.wantsStandIn u) = true := by kernel_rfl
    exact (show Tryz.prog.wantsStandIn t = false by simpa using List.all_eq_true.1 hall t hm)
  
  set_option maxRecDepth 100000 in
  theorem card : Rows.DeqNoneCardSaid :=
    Claim7.holds_tied_plain_at .later [] _ _ _ _ said (fun _ h => by cases h) (by kernel_rfl) (fun _ h => by cases h) deqNone_row_tie rfl ⟨rfl, rfl⟩ (by kernel_rfl) rfl plain (goes_of _ rfl)
  #print axioms card
end Go.Proofs.YtljgifbnmgpdbaaGreatDoor.deqNone
