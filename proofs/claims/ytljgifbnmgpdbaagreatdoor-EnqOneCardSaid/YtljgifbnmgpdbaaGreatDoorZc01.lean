/- Layer 4 (disk): Write. (Here too: Words on worlds: what a call leaves of the heap, blocks and their cells, maps that are known whole. Plain lemmas; no program. Layer 4 (disk): what a disk is in memory, and the contracts of its small calls: bars, burn, done, Down. Ranging over a map that is known whole, in whatever order; a map's length; delete. Plain lemmas; no program. Layer 4 (disk): how many bytes all files have (Size), and how many more go in (Room). Rows of bytes: stores into a row whose cells are free, append of zeros, copy out of a text. Plain lemmas; no program. Layer 4 (disk): Room.) -/
import Derived.WalkKit
import Derived.WalkSpells
import Derived.BigQuiet
import Derived.Deep.RegionHeld3
import Derived.Lib.Hide
import Derived.KernelRfl
import Derived.Test.YtljgifbnmgpdbaaGreatDoorProg
import Derived.Maps.RangeWalk
import Derived.Deep.LoopGhost
import Derived.Lib.AppendZerosOnto
import Derived.Lib.ConvBytes
import Derived.Laws.CopyOwn
import Derived.Deep.AppendLies
import Derived.Deep.Cut
import Derived.Deep.DeepCutAuto
import Derived.Deep.CutBlock
set_option linter.unusedSimpArgs false
set_option linter.unusedVariables false
set_option linter.unnecessarySimpa false
namespace Go.Proofs.YtljgifbnmgpdbaaGreatDoor
open Go Go.RowKit

/-- Behind a call that may write the blocks F and make new ones. -/
structure Touch (F : List Nat) (w w' : World) : Prop where
  os : w'.os = w.os
  tape : w'.tape = w.tape
  output : w'.output = w.output
  size : w.heap.size ≤ w'.heap.size
  block : ∀ k, k < w.heap.size → k ∉ F → w'.heap[k]? = w.heap[k]?

theorem Touch.refl (F : List Nat) (w : World) : Touch F w w := ⟨rfl, rfl, rfl, Nat.le_refl _, fun _ _ _ => rfl⟩

theorem Touch.trans {F G : List Nat} {a b c : World} (h : Touch F a b) (k : Touch G b c) (hG : ∀ x ∈ G, x ∈ F ∨ a.heap.size ≤ x) : Touch F a c :=
  ⟨k.os.trans h.os, k.tape.trans h.tape, k.output.trans h.output, Nat.le_trans h.size k.size, fun i hi hF =>
    (k.block i (Nat.lt_of_lt_of_le hi h.size) (fun hg => by rcases hG i hg with h1 | h1; exact hF h1; omega)).trans (h.block i hi hF)⟩

theorem Touch.trans' {F : List Nat} {a b c : World} (h : Touch F a b) (k : Touch F b c) : Touch F a c := h.trans k fun _ hx => .inl hx

theorem Touch.mono {F G : List Nat} {a b : World} (h : Touch F a b) (hG : ∀ x ∈ F, x ∈ G) : Touch G a b :=
  ⟨h.os, h.tape, h.output, h.size, fun i hi hF => h.block i hi fun hx => hF (hG i hx)⟩

theorem Touch.nil {G : List Nat} {a b : World} (h : Touch [] a b) : Touch G a b := h.mono fun _ hx => by cases hx

theorem Touch.drew {F : List Nat} {a w : World} (h : Touch F a w) : Touch F a w.drew := ⟨h.os, h.tape, h.output, h.size, h.block⟩
theorem Touch.drewN {F : List Nat} {a w : World} (h : Touch F a w) (n : Nat) : Touch F a (w.drewN n) := ⟨h.os, h.tape, h.output, h.size, h.block⟩
theorem Touch.of_drew {F : List Nat} {a w : World} (h : Touch F a.drew w) : Touch F a w := ⟨h.os, h.tape, h.output, h.size, h.block⟩
theorem Touch.of_drewN {F : List Nat} {a w : World} {n : Nat} (h : Touch F (a.drewN n) w) : Touch F a w := ⟨h.os, h.tape, h.output, h.size, h.block⟩

theorem Touch.alloc {F : List Nat} {a w : World} (h : Touch F a w) (o : Obj) : Touch F a (w.alloc o) :=
  h.trans (G := F) ⟨rfl, rfl, rfl, by simp, fun k hk _ => Below.heap_alloc _ _ _ hk⟩ fun _ hx => .inl hx

theorem Touch.setCell {F : List Nat} {a w : World} (h : Touch F a w) (b i : Nat) (s : Option Nat) (u : Value) (hb : b ∈ F ∨ a.heap.size ≤ b) : Touch F a (w.setCell ⟨b, i, s⟩ u) :=
  h.trans (G := [b]) ⟨rfl, rfl, rfl, by simp, fun k hk hx => Below.heap_setCell _ _ _ _ (by simpa using hx)⟩ fun x hx => by
    simp at hx; subst hx; exact hb

theorem Touch.grown {F : List Nat} {a w w' : World} {row : Option Nat} (h : Touch F a w) (hg : w.grownBy w' row) (hr : ∀ b, row = some b → b ∈ F ∨ a.heap.size ≤ b) : Touch F a w' :=
  h.trans (G := row.toList) ⟨hg.os, hg.tape, hg.output, hg.size, fun k hk hx => hg.block k hk (fun e => hx (by simp [← e]))⟩ fun x hx => hr x (by simpa using hx)

theorem Touch.of_below {w w' : World} (h : Below w.heap.size w w') : Touch [] w w' := ⟨h.os, h.tape, h.output, h.size, fun k hk _ => h.block k hk⟩
theorem Touch.below {w w' : World} (h : Touch [] w w') : Below w.heap.size w w' := ⟨h.os, h.tape, h.output, h.size, fun k hk => h.block k hk (by simp)⟩

theorem lt_of_heap {w : World} {b : Nat} {o : Obj} (h : w.heap[b]? = some o) : b < w.heap.size := lt_of_block h

theorem Touch.heap {F : List Nat} {w w' : World} (h : Touch F w w') {b : Nat} {o : Obj} (hb : w.heap[b]? = some o) (hF : b ∉ F) : w'.heap[b]? = some o :=
  (h.block b (lt_of_heap hb) hF).trans hb
theorem Touch.cell {F : List Nat} {w w' : World} (h : Touch F w w') {b i : Nat} {v : Value} (hb : w.cell? ⟨b, i, none⟩ = some v) (hF : b ∉ F) : w'.cell? ⟨b, i, none⟩ = some v :=
  (World.cell?_of_block (h.block b (World.block_lt_of_cell? w _ hb) hF)).trans hb

/-- The cells of a block that is known. -/
theorem cell_of {w : World} {b : Nat} {c : Array Value} {t : TypeId} {f : Nat × Nat} (h : w.heap[b]? = some (.cells c t f)) (i : Nat) (v : Value) (hi : c[i]? = some v) : w.cell? ⟨b, i, none⟩ = some v := by
  simp [World.cell?, h, hi]
theorem free_of {w : World} {b : Nat} {c : Array Value} {t : TypeId} (h : w.heap[b]? = some (.cells c t (0, 0))) (i : Nat) : w.frozen? ⟨b, i, none⟩ = false := by
  simp [World.frozen?, h]
theorem heap_setCell_at {w : World} {b : Nat} {c : Array Value} {t : TypeId} {f : Nat × Nat} (h : w.heap[b]? = some (.cells c t f)) (i : Nat) (v : Value) : (w.setCell ⟨b, i, none⟩ v).heap[b]? = some (.cells (c.setIfInBounds i v) t f) := by
  simp only [World.setCell, Array.getElem?_modify, ↓reduceIte, h, Option.map_some]; simp
theorem heap_setCell_ne (w : World) (b i : Nat) (s : Option Nat) (u : Value) (k : Nat) (h : k ≠ b) : (w.setCell ⟨b, i, s⟩ u).heap[k]? = w.heap[k]? := Below.heap_setCell _ _ _ _ h
theorem heap_alloc_lt {w : World} {b : Nat} {o : Obj} (h : w.heap[b]? = some o) (x : Obj) : (w.alloc x).heap[b]? = some o := (Below.heap_alloc _ _ _ (lt_of_heap h)).trans h
theorem heap_alloc_at (w : World) (o : Obj) : (w.alloc o).heap[w.heap.size]? = some o := heap_alloc_new w o

/-! ### a map that is known whole: keys and elements in the order of their entries -/
structure MapAt (w : World) (m : Nat) (l : List (Value × Value)) : Prop where
  ex : ∃ es clock, w.heap[m]? = some (.map es clock) ∧ es.toList.map (fun e => (e.key, e.val)) = l ∧ (es.toList.map (·.born)).Nodup ∧ ∀ e ∈ es.toList, e.born < clock

theorem MapAt.lt {w : World} {m : Nat} {l : List (Value × Value)} (h : MapAt w m l) : m < w.heap.size := by
  obtain ⟨es, c, h1, _⟩ := h.ex; exact lt_of_heap h1
theorem MapAt.same {w w' : World} {m : Nat} {l : List (Value × Value)} (h : MapAt w m l) (e : w'.heap[m]? = w.heap[m]?) : MapAt w' m l := by
  obtain ⟨es, c, h1, h2⟩ := h.ex; exact ⟨es, c, e.trans h1, h2⟩
theorem MapAt.touch {F : List Nat} {w w' : World} {m : Nat} {l : List (Value × Value)} (h : MapAt w m l) (hT : Touch F w w') (hF : m ∉ F) : MapAt w' m l :=
  h.same (hT.block m h.lt hF)
theorem MapAt.made (w : World) : MapAt (w.alloc (.map #[] 0)) w.heap.size [] := ⟨#[], 0, heap_alloc_at w _, by simp, by simp, by simp⟩

/-- How a type's keys are sought: 'enc' is one to one, and the search finds the first that is it. -/
structure Keys {κ : Type} [DecidableEq κ] (P : Program) (K : TypeId) (enc : κ → Value) : Prop where
  check : ∀ (w : World) (b : Bool) (k : κ), (Instr.checkKey b 10000 K (enc k)).run P w = .ok () w
  find : ∀ (w : World) (k : κ) (es : List MapEntry) (ks : List κ), es.map (·.key) = ks.map enc →
    (Instr.findKey K (enc k) es).run P w = .ok ((ks.findIdx? (· == k)).bind fun i => (es[i]?).map fun e => (i, e.val)) w
  stays : ∀ (k : κ), Instr.sameBits 10000 (enc k) (enc k) = true

def MapOf {κ : Type} (enc : κ → Value) (w : World) (m : Nat) (l : List (κ × Value)) : Prop := MapAt w m (l.map fun x => (enc x.1, x.2))

section
variable {P : Program} {κ : Type} [DecidableEq κ] {enc : κ → Value} {K : TypeId}

/-- What a list of keys and elements holds at a key. -/
def getK (l : List (κ × Value)) (k : κ) : Option Value := (l.find? fun x => decide (x.1 = k)).map (·.2)

theorem lookup_of_find {l : List (κ × Value)} {es : List MapEntry} (h : es.map (fun e => (e.key, e.val)) = l.map fun x => (enc x.1, x.2)) (k : κ) :
    (((l.map (·.1)).findIdx? (· == k)).bind fun i => (es[i]?).map fun e => (i, e.val)).map (·.2) = getK l k := by
  unfold getK
  induction l generalizing es with
  | nil => simp
  | cons x l ih =>
    match es, h with
    | [], h => simp at h
    | e :: es, h =>
      simp only [List.map_cons, List.cons.injEq, Prod.mk.injEq] at h
      obtain ⟨⟨h1, h2⟩, h3⟩ := h
      simp only [List.map_cons, List.findIdx?_cons, List.find?_cons]
      by_cases hk : x.1 = k
      · simp [hk, h2]
      · have e1 : (x.1 == k) = false := by simpa using hk
        simp only [e1, hk, decide_false]
        rw [← ih h3]
        cases hf : List.findIdx? (fun x => x == k) (l.map (·.1)) with
        | none => simp
        | some i => cases hx : es[i]? <;> simp [hx]

/-- 'm[k]'. -/
theorem run_lookup_of (hK : Keys P K enc) {E T : TypeId} (ht : P.underlying T = some (.map K E)) {w : World} {m : Nat} {l : List (κ × Value)} (h : MapOf enc w m l) (k : κ)
    {z : Value} (hz : (zeroValue E).run P w = .ok z w) : (Instr.lookup T (.map (some m)) (enc k) false).run P w = .ok ((getK l k).getD z) w := by
  obtain ⟨es, c, h1, h2, _⟩ := h.ex
  have hf := hK.find w k es.toList (l.map (·.1)) (by
    have := congrArg (List.map Prod.fst) h2
    simpa [List.map_map, Function.comp_def] using this)
  have hl := lookup_of_find h2 k
  cases hx : ((List.map (fun x => x.fst) l).findIdx? fun x => x == k).bind fun i => Option.map (fun e => (i, e.val)) es.toList[i]? with
  | none =>
    rw [hx] at hl hf
    simp only [Option.map_none] at hl
    simp [Instr.lookup, run_underlying ht, MapKept.run_getObj_map h1, hK.check, hf, hz, ← hl, Result.andThen]
  | some p =>
    rw [hx] at hl hf
    simp only [Option.map_some] at hl
    simp [Instr.lookup, run_underlying ht, MapKept.run_getObj_map h1, hK.check, hf, ← hl, Result.andThen]

/-- The map behind 'm[k] = v'. -/
def upd (l : List (κ × Value)) (k : κ) (v : Value) : List (κ × Value) :=
  if k ∈ l.map (·.1) then l.map fun x => if x.1 = k then (k, v) else x else l ++ [(k, v)]

theorem modify_first {l : List (κ × Value)} (hn : (l.map (·.1)).Nodup) {es : List MapEntry} (h : es.map (fun e => (e.key, e.val)) = l.map fun x => (enc x.1, x.2)) {k : κ} {i : Nat} (hi : (l.map (·.1)).findIdx? (· == k) = some i) (v : Value) :
    (es.modify i fun e => { e with key := enc k, val := v }).map (fun e => (e.key, e.val)) = (l.map fun x => if x.1 = k then (k, v) else x).map fun x => (enc x.1, x.2) := by
  induction l generalizing es i with
  | nil => simp at hi
  | cons x l ih =>
    match es, h with
    | [], h => simp at h
    | e :: es, h =>
      simp only [List.map_cons, List.cons.injEq, Prod.mk.injEq] at h
      obtain ⟨⟨h1, h2⟩, h3⟩ := h
      simp only [List.map_cons, List.nodup_cons] at hn
      simp only [List.map_cons, List.findIdx?_cons] at hi
      by_cases hk : x.1 = k
      · simp [hk] at hi
        subst hi
        have hnot : ∀ y ∈ l, y.1 ≠ k := fun y hy e => hn.1 (by rw [hk, ← e]; exact List.mem_map_of_mem hy)
        have e1 : (l.map fun x => if x.1 = k then (k, v) else x) = l := by
          conv => rhs; rw [← List.map_id l]
          exact List.map_congr_left fun y hy => by simp [hnot y hy]
        simp [hk, h3]
        intro y z hy
        simp [hnot _ hy]
      · have e1 : (x.1 == k) = false := by simpa using hk
        simp only [e1] at hi
        simp only [Bool.false_eq_true, if_false, Option.map_eq_some_iff] at hi
        obtain ⟨i', hi', rfl⟩ := hi
        have := ih hn.2 h3 (i := i') hi'
        simp only [List.modify_succ_cons, List.map_cons, hk, if_false, h1, h2]
        rw [this]

theorem run_mapUpdate_of (hK : Keys P K enc) {E T : TypeId} (ht : P.underlying T = some (.map K E)) {w : World} {m : Nat} {l : List (κ × Value)} (h : MapOf enc w m l) (hn : (l.map (·.1)).Nodup) (k : κ) (v : Value) :
    ∃ w', (Instr.mapUpdate T (.map (some m)) (enc k) v).run P w = .ok () w' ∧ MapOf enc w' m (upd l k v) ∧ Touch [m] w w' ∧ w'.heap.size = w.heap.size := by
  obtain ⟨es, c, h1, h2, h3, h4⟩ := h.ex
  have hks : es.toList.map (·.key) = (l.map (·.1)).map enc := by
    have := congrArg (List.map Prod.fst) h2
    simpa [List.map_map, Function.comp_def] using this
  have hf := hK.find w k es.toList (l.map (·.1)) hks
  have hlen : es.toList.length = l.length := by have := congrArg List.length h2; simpa using this
  have touch : ∀ o, Touch [m] w (ChangeMaps.setBlock w m o) := fun o => ⟨rfl, rfl, rfl, by simp [ChangeMaps.setBlock], fun i _ hi => ChangeMaps.heap_setBlock_other h1 o (by simpa using hi)⟩
  cases hx : (l.map (·.1)).findIdx? (· == k) with
  | none =>
    rw [hx] at hf
    simp only [Option.bind_none] at hf
    have hnot : k ∉ l.map (·.1) := by
      intro hm
      rw [List.findIdx?_eq_none_iff] at hx
      have := hx k hm
      simp at this
    refine ⟨ChangeMaps.setBlock w m (.map (es.push ⟨enc k, v, c⟩) (c + 1)), ?_, ⟨_, _, ChangeMaps.heap_setBlock_same h1 _, ?_, ?_, ?_⟩, touch _, by simp [ChangeMaps.setBlock]⟩
    · simp [Instr.mapUpdate, run_underlying ht, MapKept.run_getObj_map h1, hK.check, hf, MapKept.run_setObj_map _ h1, Result.andThen, ChangeMaps.setBlock]
    · simp [h2, upd, if_neg hnot]
    · simp only [Array.toList_push, List.map_append, List.map_cons, List.map_nil]
      rw [List.nodup_append]
      refine ⟨h3, by simp, ?_⟩
      intro a ha b hb
      simp at hb
      subst hb
      obtain ⟨e, he, rfl⟩ := List.mem_map.1 ha
      have := h4 e he
      omega
    · intro e he
      simp only [Array.toList_push, List.mem_append, List.mem_singleton] at he
      rcases he with he | rfl
      · have := h4 e he; omega
      · simp
  | some i =>
    have hil : i < es.toList.length := by
      have := (List.findIdx?_eq_some_iff_findIdx_eq.1 hx).1
      rw [hlen]; simpa only [List.length_map] using this
    have hei : es.toList[i]? = some es.toList[i] := List.getElem?_eq_getElem hil
    have hkey : es.toList[i].key = enc k := by
      have hi2 : ((l.map (·.1)))[i]? = some k := by
        obtain ⟨hlt, hp, _⟩ := List.findIdx?_eq_some_iff_getElem.1 hx
        rw [List.getElem?_eq_getElem hlt]
        simpa using hp
      have := congrArg (fun l => l[i]?) hks
      simp only [List.getElem?_map, hei, hi2, Option.map_some] at this
      have h7 : (List.map (fun x => x.fst) l)[i]? = some k := hi2
      simp only [List.getElem?_map] at h7
      simpa [h7] using this
    rw [hx] at hf
    simp only [Option.bind_some, hei, Option.map_some] at hf
    have hmem : k ∈ l.map (·.1) := by
      obtain ⟨hlt, hp, _⟩ := List.findIdx?_eq_some_iff_getElem.1 hx
      have : (l.map (·.1))[i] = k := by simpa using hp
      rw [← this]; exact List.getElem_mem _
    have hei' : es[i]? = some es.toList[i] := by simpa using hei
    refine ⟨ChangeMaps.setBlock w m (.map (es.modify i fun e => { e with key := enc k, val := v }) c), ?_, ⟨_, _, ChangeMaps.heap_setBlock_same h1 _, ?_, ?_, ?_⟩, touch _, by simp [ChangeMaps.setBlock]⟩
    · have hst : (Instr.keyThatStays (enc k) (enc k)).run P w = .ok (enc k) w := by simp [Instr.keyThatStays, hK.stays]
      simp only [Instr.mapUpdate, run_underlying ht, MapKept.run_getObj_map h1, hK.check, hf, Result.andThen, hei', hkey, Sem.run_bind, Option.map_some, Option.getD_some, hst, MapKept.run_setObj_map _ h1, ChangeMaps.setBlock]
    · rw [Array.toList_modify, modify_first hn h2 hx v, upd, if_pos hmem]
    · have : (es.toList.modify i fun e => { e with key := enc k, val := v }).map (·.born) = es.toList.map (·.born) := by
        apply List.ext_getElem?
        intro j
        simp only [List.getElem?_map, List.getElem?_modify]
        cases es.toList[j]? <;> simp
        split <;> rfl
      rw [Array.toList_modify, this]; exact h3
    · intro e he
      rw [Array.toList_modify] at he
      obtain ⟨j, hj, rfl⟩ := List.getElem_of_mem he
      rw [List.getElem_modify]
      have hj' : j < es.toList.length := by simpa using hj
      have := h4 _ (List.getElem_mem hj')
      split <;> exact this
end

theorem findNow_of {κ : Type} [DecidableEq κ] {enc : κ → Value} {d : TypeDesc} (h : ∀ a b, Instr.sameNow d (enc a) (enc b) = some (decide (a = b))) (k : κ) : ∀ (es : List MapEntry) (ks : List κ) (n : Nat), es.map (·.key) = ks.map enc →
    Instr.findNow d (enc k) es n = some ((ks.findIdx? (· == k)).bind fun i => (es[i]?).map fun e => (n + i, e.val))
  | [], ks, n, he => by
    have : ks = [] := by simpa using he.symm
    subst this; simp [Instr.findNow]
  | e :: es, ks, n, he => by
    match ks, he with
    | [], he => simp at he
    | x :: ks, he =>
      simp only [List.map_cons, List.cons.injEq] at he
      obtain ⟨h1, h2⟩ := he
      simp only [Instr.findNow, h1, h]
      by_cases hk : k = x
      · simp [hk, List.findIdx?_cons]
      · have e2 : (x == k) = false := by simpa using fun e => hk e.symm
        simp only [hk, decide_false, findNow_of h k es ks (n + 1) h2, List.findIdx?_cons, e2]
        cases hf : List.findIdx? (fun x => x == k) ks with
        | none => simp
        | some i => cases hx : es[i]? <;> simp [hx]; omega

theorem keys_string {P : Program} {K : TypeId} (hk : P.underlying K = some .string) : Keys P K (fun s : ByteArray => Value.string s) where
  check w b k := MapKept.run_checkKey hk (by simp [MapKept.IsKey]) b 9999
  find w k es ks h := by
    have := findNow_of (d := .string) (enc := fun s : ByteArray => Value.string s) (fun a b => by
      simp only [Instr.sameNow, Option.some.injEq]; rw [Bool.eq_iff_iff, MapKept.bytes_beq]; simp) k es ks 0 h
    simp only [Nat.zero_add] at this
    simp [Instr.findKey, run_underlying hk, this, Result.andThen]
  stays k := by simp [Instr.sameBits, MapKept.bytes_beq]

theorem keys_int {P : Program} {K : TypeId} {q : IntKind} (hk : P.underlying K = some (.int q)) : Keys P K (fun n : Int => Value.int q n) where
  check w b k := MapKept.run_checkKey hk (by simp [MapKept.IsKey]) b 9999
  find w k es ks h := by
    have := findNow_of (d := .int q) (enc := fun n : Int => Value.int q n) (fun a b => by simp [Instr.sameNow]; rfl) k es ks 0 h
    simp only [Nat.zero_add] at this
    simp [Instr.findKey, run_underlying hk, this, Result.andThen]
  stays k := by simp [Instr.sameBits]


/-! ### texts -/
theorem bytes_nil {s : ByteArray} (h : s.size = 0) : s.toList = [] := by rw [ByteArray.toList_eq]; exact List.eq_nil_of_length_eq_zero h
theorem bytes_not_nil {s : ByteArray} (h : s.size ≠ 0) : ¬ s.toList = [] := by
  rw [ByteArray.toList_eq]; intro e; exact h (show s.data.toList.length = 0 by rw [e]; rfl)
theorem bytes_len (s : ByteArray) : s.data.toList.length = s.size := rfl
theorem bytes_ext {s t : ByteArray} (h : s.data.toList = t.data.toList) : s = t := by
  cases s; cases t; congr 1; exact Array.toList_inj.1 h

/-! ### cuts of slices: as equations on the run, for the walk to take -/
theorem addr_add (b o k : Nat) : (⟨b, o, none⟩ : Addr).add k = ⟨b, o + k, none⟩ := by unfold Addr.add; split <;> simp_all

theorem run_cut_from {P : Program} {t e : TypeId} (ht : P.underlying t = some (.slice e)) {i : TypeInfo} (hi : P.info? e = some i) {s : Nat} (hs : i.size = s) (w : World) (b o len cap l : Nat) (hl : l ≤ len) (hc : l < cap) (k : IntKind) :
    (Instr.slice t (.slice (some ⟨b, o, none⟩) len cap) (some (.int k (l : Int))) none none).run P w = .ok (.slice (some ⟨b, o + l * s, none⟩) (len - l) (cap - l)) w := by
  have ht' : P.underlying t = some (.slice (P.elem t)) := by simp [Program.elem, ht]
  have he : P.elem t = e := by simp [Program.elem, ht]
  rw [run_slice_l w t _ _ _ ht' k _ (by omega) (by omega), he]
  have hne : ¬ cap = l := by omega
  simp [sizeOf, typeInfo, hi, hs, Result.andThen, sliced, hne, addr_add]

theorem run_cut_to {P : Program} {t e : TypeId} (ht : P.underlying t = some (.slice e)) {i : TypeInfo} (hi : P.info? e = some i) (w : World) (a : Option Addr) (len cap h : Nat) (hc : h ≤ cap) (k : IntKind) :
    (Instr.slice t (.slice a len cap) none (some (.int k (h : Int))) none).run P w = .ok (.slice a h cap) w := by
  have ht' : P.underlying t = some (.slice (P.elem t)) := by simp [Program.elem, ht]
  have he : P.elem t = e := by simp [Program.elem, ht]
  rw [run_slice_h w t _ _ _ ht' k _ (by omega) (by omega), he]
  cases a with
  | none => simp [sizeOf, typeInfo, hi, Result.andThen, sliced]
  | some x => obtain ⟨b, o, s⟩ := x; simp [sizeOf, typeInfo, hi, Result.andThen, sliced, Addr.add]


theorem wrap64_small {x : Int} (h0 : -4611686018427387904 ≤ x) (h1 : x ≤ 4611686018427387904) : wrap64 x = x := by unfold wrap64; omega
theorem ret_int {k : IntKind} {a b : Int} (h : a = b) : Ending.returned (.int k a) = .returned (.int k b) := by rw [h]
end Go.Proofs.YtljgifbnmgpdbaaGreatDoor

namespace Go.Proofs.YtljgifbnmgpdbaaGreatDoor
open Go Go.RowKit

structure FileM where
  name : ByteArray
  blk : Nat
  image : ByteArray
  now : ByteArray
structure WaitM where
  blk : Nat
  at_ : Int
  s : ByteArray
structure DiskM where
  files : List FileM
  waits : List WaitM
  cap : Int

def strKey (s : ByteArray) : Value := .string s
def fileObj (f : FileM) : Obj := .cells #[.string f.image, .string f.now] 268 (0, 0)
def waitCells (x : WaitM) : List Value := [.pointer (some ⟨x.blk, 0, none⟩), .int .i64 x.at_, .string x.s]
def filePtr (f : FileM) : Value := .pointer (some ⟨f.blk, 0, none⟩)
def fileMap (D : DiskM) : List (ByteArray × Value) := D.files.map fun f => (f.name, filePtr f)
def DiskM.look (D : DiskM) (s : ByteArray) : Option FileM := D.files.find? fun f => f.name = s
def filePtr? : Option FileM → Value
  | some f => filePtr f
  | none => .pointer none
def diskFoot (d m : Nat) (wv : Value) (D : DiskM) : List Nat := d :: m :: (wv.ownBlock.toList ++ D.files.map (·.blk))

structure DiskIn (w : World) (d m : Nat) (wv : Value) (D : DiskM) : Prop where
  head : w.heap[d]? = some (.cells #[.int .i64 (-1), .bool false, .map (some m), wv, .int .i64 D.cap] 204 (0, 0))
  map : MapOf strKey w m (fileMap D)
  files : ∀ f ∈ D.files, w.heap[f.blk]? = some (fileObj f)
  waits : w.ownsRow 0 271 3 wv D.waits.length (D.waits.flatMap waitCells)
  names : (D.files.map (·.name)).Nodup
  apart : (diskFoot d m wv D).Nodup
  held : ∀ x ∈ D.waits, ∃ f ∈ D.files, f.blk = x.blk
  low : ∀ b ∈ diskFoot d m wv D, 8 ≤ b

def DiskAt (w : World) (d : Nat) (F : List Nat) (D : DiskM) : Prop := ∃ m wv, DiskIn w d m wv D ∧ F = diskFoot d m wv D

theorem DiskIn.cells {w : World} {d m : Nat} {wv : Value} {D : DiskM} (h : DiskIn w d m wv D) : w.cell? ⟨d, 0, none⟩ = some (.int .i64 (-1)) ∧ w.cell? ⟨d, 1, none⟩ = some (.bool false) ∧
    w.cell? ⟨d, 2, none⟩ = some (.map (some m)) ∧ w.cell? ⟨d, 3, none⟩ = some wv ∧ w.cell? ⟨d, 4, none⟩ = some (.int .i64 D.cap) :=
  ⟨cell_of h.head 0 _ rfl, cell_of h.head 1 _ rfl, cell_of h.head 2 _ rfl, cell_of h.head 3 _ rfl, cell_of h.head 4 _ rfl⟩
theorem DiskIn.file {w : World} {d m : Nat} {wv : Value} {D : DiskM} (h : DiskIn w d m wv D) {f : FileM} (hf : f ∈ D.files) : w.cell? ⟨f.blk, 0, none⟩ = some (.string f.image) ∧ w.cell? ⟨f.blk, 1, none⟩ = some (.string f.now) :=
  ⟨cell_of (h.files f hf) 0 _ rfl, cell_of (h.files f hf) 1 _ rfl⟩

theorem DiskIn.lt {w : World} {d m : Nat} {wv : Value} {D : DiskM} (h : DiskIn w d m wv D) : ∀ b ∈ diskFoot d m wv D, b < w.heap.size := by
  intro b hb
  simp only [diskFoot, List.mem_cons, List.mem_append, List.mem_map, Option.mem_toList] at hb
  rcases hb with rfl | rfl | hb | ⟨f, hf, rfl⟩
  · exact lt_of_heap h.head
  · exact h.map.lt
  · exact (h.waits.lt b hb).2
  · exact lt_of_heap (h.files f hf)

theorem DiskIn.same {w w' : World} {d m : Nat} {wv : Value} {D : DiskM} (h : DiskIn w d m wv D) (hs : ∀ b ∈ diskFoot d m wv D, w'.heap[b]? = w.heap[b]?) : DiskIn w' d m wv D := by
  refine ⟨(hs d (by simp [diskFoot])).trans h.head, h.map.same (hs m (by simp [diskFoot])), fun f hf => (hs _ ?_).trans (h.files f hf), ?_, h.names, h.apart, h.held, h.low⟩
  · simp [diskFoot]; exact .inr (.inr (.inr ⟨f, hf, rfl⟩))
  · obtain ⟨h1, h2⟩ := h.waits
    refine ⟨h1, ?_⟩
    rcases h2 with h2 | ⟨g, cap, cur, rfl, hb, hg, rest⟩
    · exact .inl h2
    · exact .inr ⟨g, cap, cur, rfl, hb, (hs g (by simp [diskFoot, Value.ownBlock])).trans hg, rest⟩

theorem DiskIn.touch {w w' : World} {d m : Nat} {wv : Value} {D : DiskM} {F : List Nat} (h : DiskIn w d m wv D) (hT : Touch F w w') (hF : ∀ b ∈ diskFoot d m wv D, b ∉ F) : DiskIn w' d m wv D :=
  h.same fun b hb => hT.block b (h.lt b hb) (hF b hb)

theorem DiskAt.lt {w : World} {d : Nat} {F : List Nat} {D : DiskM} (h : DiskAt w d F D) : ∀ b ∈ F, b < w.heap.size := by
  obtain ⟨m, wv, h, rfl⟩ := h; exact h.lt
theorem DiskAt.touch {w w' : World} {d : Nat} {F G : List Nat} {D : DiskM} (h : DiskAt w d F D) (hT : Touch G w w') (hF : ∀ b ∈ F, b ∉ G) : DiskAt w' d F D := by
  obtain ⟨m, wv, h, rfl⟩ := h; exact ⟨m, wv, h.touch hT hF, rfl⟩
theorem DiskAt.quiet {w w' : World} {d : Nat} {F : List Nat} {D : DiskM} (h : DiskAt w d F D) (hT : Touch [] w w') : DiskAt w' d F D := h.touch hT (by simp)
theorem DiskAt.self {w : World} {d : Nat} {F : List Nat} {D : DiskM} (h : DiskAt w d F D) : d ∈ F := by
  obtain ⟨m, wv, h, rfl⟩ := h; simp [diskFoot]

theorem look_files {D : DiskM} {s : ByteArray} : (getK (fileMap D) s).getD (.pointer none) = filePtr? (D.look s) := by
  unfold fileMap DiskM.look getK
  induction D.files with
  | nil => simp [filePtr?]
  | cons f l ih =>
    simp only [List.map_cons, List.find?_cons]
    by_cases h : f.name = s
    · simp [h, filePtr?]
    · simp only [h, decide_false]; exact ih

theorem zero_ptr (w : World) : (zeroValue 263).run Tryz.prog w = .ok (.pointer none) w := by kernel_rfl

theorem keysS : Keys Tryz.prog 9 strKey := keys_string Tryz.underlying9

theorem DiskIn.lookup {w : World} {d m : Nat} {wv : Value} {D : DiskM} (h : DiskIn w d m wv D) (s : ByteArray) :
    (Instr.lookup 201 (.map (some m)) (.string s) false).run Tryz.prog w = .ok (filePtr? (D.look s)) w := by
  have := run_lookup_of keysS Tryz.underlying201 h.map s (zero_ptr w)
  rw [look_files] at this
  exact this

theorem DiskM.look_mem {D : DiskM} {s : ByteArray} {f : FileM} (h : D.look s = some f) : f ∈ D.files ∧ f.name = s := by
  unfold DiskM.look at h
  exact ⟨List.mem_of_find?_eq_some h, by simpa using List.find?_some h⟩

set_option maxHeartbeats 400000 in
theorem burn_ok (w : World) (d m : Nat) (wv : Value) (D : DiskM) (h : DiskIn w d m wv D) :
    Calls Tryz.prog 232 #[.pointer (some ⟨d, 0, none⟩)] w fun e w' => e = .returned (.bool true) ∧ w = w' := by
  have c0 := cell_of h.head 0 _ rfl
  go_enter Tryz.func232, Tryz.ntmps232
  go_wp2
  go_ret
  exact ⟨rfl, rfl⟩

set_option maxHeartbeats 400000 in
theorem done_ok (w : World) (d m : Nat) (wv : Value) (D : DiskM) (h : DiskIn w d m wv D) :
    Calls Tryz.prog 178 #[.pointer (some ⟨d, 0, none⟩)] w fun e w' => e = .returned (.int .i64 0) ∧ w = w' := by
  go_enter Tryz.func178, Tryz.ntmps178
  go_wp2_with (go_at_call 232; refine (burn_ok _ d m wv D h).mono ?_; rintro e w' ⟨rfl, rfl⟩)
  go_ret
  exact ⟨rfl, rfl⟩

set_option maxHeartbeats 400000 in
theorem down_ok (w : World) (d m : Nat) (wv : Value) (D : DiskM) (h : DiskIn w d m wv D) :
    Calls Tryz.prog 75 #[.pointer (some ⟨d, 0, none⟩)] w fun e w' => e = .returned (.bool false) ∧ w = w' := by
  have c1 := cell_of h.head 1 _ rfl
  go_enter Tryz.func75, Tryz.ntmps75
  go_wp2
  go_ret
  exact ⟨rfl, rfl⟩

/-- A list of texts that is read. -/
def Strs (w : World) (v : Value) (ss : List ByteArray) : Prop :=
  (v = .slice none 0 0 ∧ ss = []) ∨ ∃ b off cap, v = .slice (some ⟨b, off, none⟩) ss.length cap ∧ ∀ i s, ss[i]? = some s → w.cell? ⟨b, off + i, none⟩ = some (.string s)

set_option maxHeartbeats 1000000 in
theorem bars_some (w : World) (d m : Nat) (wv : Value) (D : DiskM) (h : DiskIn w d m wv D) (b off cap : Nat) (ss : List ByteArray) (hcell : ∀ i s, ss[i]? = some s → w.cell? ⟨b, off + i, none⟩ = some (.string s)) (hl : ss.length < 4611686018427387904)
    (hin : ∀ s ∈ ss, ∃ f, D.look s = some f) :
    Calls Tryz.prog 177 #[.pointer (some ⟨d, 0, none⟩), .slice (some ⟨b, off, none⟩) ss.length cap] w fun e w' => e = .returned (.int .i64 0) ∧ w = w' := by
  have c1 := cell_of h.head 1 _ rfl
  have c2 := cell_of h.head 2 _ rfl
  have hlk := h.lookup
  go_enter Tryz.func177, Tryz.ntmps177
  go_wp2
  go_loop [18] (fun i => ∃ k : Nat, k ≤ ss.length ∧ i = .int .i64 k) (fun i => ss.length - (intOf i).toNat)
  case atStart => exact ⟨0, Nat.zero_le _, rfl⟩
  case round =>
    obtain ⟨k, hk, rfl⟩ := hrel
    by_cases hlt : k < ss.length
    · have hs : ss[k]? = some ss[k] := List.getElem?_eq_getElem hlt
      have hc := hcell k _ hs
      obtain ⟨f, hf⟩ := hin ss[k] (List.getElem_mem hlt)
      have hlf := hlk ss[k]
      rw [hf] at hlf
      simp only [filePtr?, filePtr] at hlf
      clear hlk hcell hin hf hs
      generalize ss[k] = s at *
      go_wp2
      go_round
      case rel => exact ⟨k + 1, by omega, by go_num⟩
      case measure => simp [intOf]; omega
    · clear hlk hcell hin
      go_wp2
      go_ret
      exact ⟨rfl, rfl⟩

set_option maxHeartbeats 1000000 in
theorem bars_none (w : World) (d m : Nat) (wv : Value) (D : DiskM) (h : DiskIn w d m wv D) :
    Calls Tryz.prog 177 #[.pointer (some ⟨d, 0, none⟩), .slice none 0 0] w fun e w' => e = .returned (.int .i64 0) ∧ w = w' := by
  have c1 := cell_of h.head 1 _ rfl
  go_enter Tryz.func177, Tryz.ntmps177
  go_wp2
  go_loop [18] (fun i => i = .int .i64 0) (fun i => 0)
  case atStart => exact rfl
  case round =>
    obtain rfl := hrel
    go_wp2
    go_ret
    exact ⟨rfl, rfl⟩


/-- bars at one name that is there, its list just made. -/
theorem bars_one (w : World) (d m : Nat) (wv : Value) (D : DiskM) (h : DiskIn w d m wv D) (s : ByteArray) (hin : ∃ f, D.look s = some f) :
    Calls Tryz.prog 177 #[.pointer (some ⟨d, 0, none⟩), .slice (some ⟨w.heap.size, 0, none⟩) 1 1] (w.alloc (.cells #[.string s] 9)) fun e w' => e = .returned (.int .i64 0) ∧ DiskIn w' d m wv D ∧ Touch [] w w' := by
  have hT : Touch [] w (w.alloc (.cells #[.string s] 9)) := (Touch.refl [] w).alloc _
  have h1 := h.touch hT (by simp)
  refine (bars_some _ d m wv D h1 w.heap.size 0 1 [s] ?_ (by simp) (by simpa using hin)).mono ?_
  · intro i s' hs'
    match i with
    | 0 => simp at hs'; subst hs'; exact cell_of (heap_alloc_at _ _) 0 _ rfl
    | n + 1 => simp at hs'
  · rintro e w' ⟨rfl, rfl⟩
    exact ⟨rfl, h1, hT⟩
end Go.Proofs.YtljgifbnmgpdbaaGreatDoor

namespace Go.Proofs.YtljgifbnmgpdbaaGreatDoor
open Go Go.RowKit Go.ChangeMaps

def kv (e : MapEntry) : Value × Value := (e.key, e.val)

/-- Block r is an iterator over the map m, that is l: 'done' came already, 'left' are to come. -/
structure IterAt (w : World) (r m : Nat) (l done left : List (Value × Value)) : Prop where
  ex : ∃ (es : Array MapEntry) (clock : Nat) (seen : Array Nat) (de le : List MapEntry), w.heap[r]? = some (.mapIter (some m) clock seen clock) ∧ w.heap[m]? = some (.map es clock) ∧
    es.toList.map kv = l ∧ (es.toList.map (·.born)).Nodup ∧ (∀ e ∈ es.toList, e.born < clock) ∧ done = de.map kv ∧ left = le.map kv ∧ (de ++ le).Perm es.toList ∧
    (∀ e ∈ de, e.born ∈ seen) ∧ (∀ e ∈ le, e.born ∉ seen)

theorem IterAt.perm {w : World} {r m : Nat} {l done left : List (Value × Value)} (h : IterAt w r m l done left) : (done ++ left).Perm l := by
  obtain ⟨es, clock, seen, de, le, h1, h2, rfl, h4, h5, rfl, rfl, h8, _⟩ := h.ex
  rw [← List.map_append]
  exact h8.map kv
theorem IterAt.lt {w : World} {r m : Nat} {l done left : List (Value × Value)} (h : IterAt w r m l done left) : r < w.heap.size := by
  obtain ⟨es, clock, seen, de, le, h1, _⟩ := h.ex; exact lt_of_heap h1
theorem IterAt.same {w w' : World} {r m : Nat} {l done left : List (Value × Value)} (h : IterAt w r m l done left) (hr : w'.heap[r]? = w.heap[r]?) (hm : w'.heap[m]? = w.heap[m]?) : IterAt w' r m l done left := by
  obtain ⟨es, clock, seen, de, le, h1, h2, rest⟩ := h.ex
  exact ⟨es, clock, seen, de, le, hr.trans h1, hm.trans h2, rest⟩
theorem IterAt.touch {F : List Nat} {w w' : World} {r m : Nat} {l done left : List (Value × Value)} (h : IterAt w r m l done left) (hT : Touch F w w') (hr : r ∉ F) (hm : m ∉ F) : IterAt w' r m l done left := by
  have h2 := h.lt
  refine h.same (hT.block r h2 hr) ?_
  obtain ⟨es, clock, seen, de, le, _, h2, rest⟩ := h.ex
  exact hT.block m (lt_of_heap h2) hm

section
variable {P : Program}

theorem run_range_iter {T K E : TypeId} (ht : P.underlying T = some (.map K E)) {w : World} {m : Nat} {l : List (Value × Value)} (h : MapAt w m l) :
    ∃ w', (Instr.range T (.map (some m))).run P w = .ok (.pointer (some ⟨w.heap.size, 0, none⟩)) w' ∧ IterAt w' w.heap.size m l [] l ∧ Touch [] w w' ∧ w'.heap.size = w.heap.size + 1 ∧ MapAt w' m l := by
  obtain ⟨es, clock, h1, h2, h3, h4⟩ := h.ex
  have hh : (w.alloc (.mapIter (some m) clock #[] clock)).heap[m]? = some (.map es clock) := heap_alloc_lt h1 _
  refine ⟨w.alloc (.mapIter (some m) clock #[] clock), ?_, ⟨es, clock, #[], [], es.toList, heap_alloc_at _ _, hh, h2, h3, h4, rfl, h2.symm, by simp, by simp, by simp⟩, (Touch.refl _ _).alloc _, by simp, ⟨es, clock, hh, h2, h3, h4⟩⟩
  simp [Instr.range, run_underlying ht, MapKept.run_getObj_map h1, Result.andThen]

theorem leftOf_iter {es : Array MapEntry} {seen : Array Nat} {de le : List MapEntry} (h8 : (de ++ le).Perm es.toList) (h9 : ∀ e ∈ de, e.born ∈ seen) (h10 : ∀ e ∈ le, e.born ∉ seen) : (leftOf es seen).toList.Perm le := by
  have e1 : (leftOf es seen).toList = es.toList.filter fun e => !seen.contains e.born := by simp [leftOf]
  rw [e1]
  refine (h8.symm.filter _).trans ?_
  rw [List.filter_append]
  have a1 : de.filter (fun e => !seen.contains e.born) = [] := by
    rw [List.filter_eq_nil_iff]
    intro e he
    simp [h9 e he]
  have a2 : le.filter (fun e => !seen.contains e.born) = le := by
    rw [List.filter_eq_self]
    intro e he
    simp [h10 e he]
  rw [a1, a2]
  simp

theorem run_next_iter (ty : TypeId) {w : World} {r m : Nat} {l done left : List (Value × Value)} (h : IterAt w r m l done left) (hrm : r ≠ m) :
    (left = [] ∧ (Instr.next (.pointer (some ⟨r, 0, none⟩)) false ty).run P w = .ok (.tuple #[.bool false]) w) ∨
    ∃ k v left' w', (Instr.next (.pointer (some ⟨r, 0, none⟩)) false ty).run P w = .ok (.tuple #[.bool true, k, v]) w' ∧ left.Perm ((k, v) :: left') ∧ (k, v) ∈ l ∧ IterAt w' r m l (done ++ [(k, v)]) left' ∧ Touch [r] w w' ∧ w'.heap.size = w.heap.size ∧
      (Instr.entry (.pointer (some ⟨r, 0, none⟩))).run P w' = .ok (.tuple #[k, v]) w' := by
  obtain ⟨es, clock, seen, de, le, h1, h2, rfl, h4, h5, rfl, rfl, h8, h9, h10⟩ := h.ex
  have hp := leftOf_iter h8 h9 h10
  rcases run_next_at (P := P) w ty r m clock clock seen es clock h1 h2 h5 (Nat.le_refl _) with ⟨h0, hrun⟩ | ⟨e, he, w1, hw1, hrun⟩
  · left
    refine ⟨?_, hrun⟩
    have hl : le.length = 0 := by rw [← hp.length_eq]; simpa using h0
    simp [List.eq_nil_of_length_eq_zero hl]
  · right
    have hele : e ∈ le := hp.mem_iff.1 he
    have hees : e ∈ es.toList := h8.mem_iff.1 (List.mem_append_right _ hele)
    obtain ⟨l1, l2, hl12⟩ := List.append_of_mem hele
    have hpl : le.Perm (e :: (l1 ++ l2)) := by rw [hl12]; exact List.perm_middle
    have hheap : w1.heap = w.heap := by rcases hw1 with rfl | rfl <;> rfl
    have hr1 : w1.heap[r]? = some (.mapIter (some m) clock seen clock) := by rw [hheap]; exact h1
    have hrlt : r < w.heap.size := lt_of_heap h1
    have hset : ∀ i, (setBlock w1 r (.mapIter (some m) clock (seen.push e.born) clock)).heap[i]? = if i = r then some (.mapIter (some m) clock (seen.push e.born) clock) else w.heap[i]? := by
      intro i
      simp only [setBlock, hheap, Array.getElem?_setIfInBounds]
      by_cases hi : r = i
      · subst hi; simp [hrlt]
      · have : i ≠ r := fun e => hi e.symm
        simp [hi, this]
    have a1 : (setBlock w1 r (.mapIter (some m) clock (seen.push e.born) clock)).heap[r]? = some (.mapIter (some m) clock (seen.push e.born) clock) := by rw [hset]; simp
    have a2 : (setBlock w1 r (.mapIter (some m) clock (seen.push e.born) clock)).heap[m]? = some (.map es clock) := by rw [hset, if_neg (Ne.symm hrm)]; exact h2
    have hnd : ((de ++ le).map (·.born)).Nodup := (h8.map _).nodup_iff.2 h4
    have hlen : ∀ x ∈ l1 ++ l2, x.born ≠ e.born := by
      have hp2 : ((de ++ le).map (·.born)).Perm (e.born :: (de ++ (l1 ++ l2)).map (·.born)) := by
        have : (de ++ le).Perm (e :: (de ++ (l1 ++ l2))) := by
          refine (List.Perm.append_left de hpl).trans ?_
          exact List.perm_middle
        exact (this.map _)
      have hnd2 := hp2.nodup_iff.1 hnd
      simp only [List.nodup_cons] at hnd2
      intro x hx hb
      exact hnd2.1 (List.mem_map.2 ⟨x, List.mem_append_right _ hx, hb⟩)
    refine ⟨e.key, e.val, (l1 ++ l2).map kv, _, hrun, ?_, List.mem_map.2 ⟨e, hees, rfl⟩, ⟨es, clock, seen.push e.born, de ++ [e], l1 ++ l2, a1, a2, rfl, h4, h5, by simp [kv], rfl, ?_, ?_, ?_⟩, ?_, ?_, run_entry_at _ r m clock seen es clock e a1 a2 hees h4⟩
    · exact hpl.map kv
    · refine List.Perm.trans ?_ h8
      rw [List.append_assoc]
      exact List.Perm.append_left de hpl.symm
    · intro x hx
      rcases List.mem_append.1 hx with hx | hx
      · exact Array.mem_push.2 (.inl (h9 x hx))
      · simp at hx; subst hx; exact Array.mem_push.2 (.inr rfl)
    · intro x hx hm
      rcases Array.mem_push.1 hm with hm | hm
      · exact h10 x (hpl.mem_iff.2 (List.mem_cons_of_mem _ hx)) hm
      · exact hlen x hx hm
    · refine ⟨?_, ?_, ?_, by simp [setBlock, hheap], fun i hi hx => by rw [hset, if_neg (by simpa using hx)]⟩ <;> (rcases hw1 with rfl | rfl <;> rfl)
    · simp [setBlock, hheap]

variable {ops : Array Oper} {rest : List Oper} {o : Oper} {a : Act} {Q : Exit → Act → World → Prop}

theorem wpList_next_iter {w : World} (hg : o.guard = none) (it : Operand) (hop : o.op = Op.next it false) {r m : Nat} {l done left : List (Value × Value)} (hit : a.eval it = .pointer (some ⟨r, 0, none⟩)) (h : IterAt w r m l done left) (hrm : r ≠ m)
    (hDone : left = [] → wpList P ops Q rest (a.put o.dst (.tuple #[.bool false])) w)
    (hMore : ∀ k v left' w', left.Perm ((k, v) :: left') → (k, v) ∈ l → IterAt w' r m l (done ++ [(k, v)]) left' → Touch [r] w w' → w'.heap.size = w.heap.size →
      (Instr.entry (.pointer (some ⟨r, 0, none⟩))).run P w' = .ok (.tuple #[k, v]) w' → wpList P ops Q rest (a.put o.dst (.tuple #[.bool true, k, v])) w') :
    wpList P ops Q (o :: rest) a w := by
  refine wpList_plain hg fun K' hK' => ?_
  unfold Oper.wp
  rcases run_next_iter (P := P) o.type h hrm with ⟨h0, hrun⟩ | ⟨k, v, left', w', hrun, h1, h2, h3, h4, h5, h6⟩
  · simp [execOp, hop, hit, hrun, Result.andThen]
    exact hK' _ _ (hDone h0)
  · simp [execOp, hop, hit, hrun, Result.andThen]
    exact hK' _ _ (hMore k v left' w' h1 h2 h3 h4 h5 h6)
end

/-- A class of worlds that no walk opens. -/
def Cls (p : World → Prop) (w : World) : Prop := p w
theorem Cls.out {p : World → Prop} {w : World} (h : Cls p w) : p w := h

/-- A region whose operations leave a world of the class C: one walk in the order of the text serves every order. -/
theorem region_class {P : Program} {id : Nat} {Q : Exit → Act → World → Prop} {a : Act} {w : World} {l : List Oper} (C : World → Prop) (hm : P.follows .mixedOrders = true) (hB : Region.lexB .any l.toArray = true) (hC : C w.drew)
    (h : wpQuiet P l.toArray (Cls C) (fun a' => ∀ w', C w' → Q .normal a' w') l a) : (Code.region id l.toArray true).wp P Q a w :=
  wp_region_quiet (C := Cls C) hm hB hC (by simpa [Cls] using h)

theorem quiet_of_run {P : Program} {o : Oper} {a : Act} {C : World → Prop} {K : Act → Prop} (v : Value) (h : ∀ w, C w → (execOp a.eval o).run P w = .ok (.value v) w) (hK : K (a.put o.dst v)) : o.quiet P a C K :=
  ⟨v, fun w hw => by unfold Oper.quietAt; rw [h w hw]; exact ⟨rfl, rfl⟩, hK⟩
end Go.Proofs.YtljgifbnmgpdbaaGreatDoor

namespace Go.Proofs.YtljgifbnmgpdbaaGreatDoor
open Go Go.RowKit

def DiskM.total (D : DiskM) : Nat := (D.files.map (·.now.size)).sum

def nowOf (D : DiskM) : Value → Nat
  | .pointer (some a) => ((D.files.find? fun f => f.blk = a.block).map (·.now.size)).getD 0
  | _ => 0
def nowSum (D : DiskM) (l : List (Value × Value)) : Nat := (l.map fun x => nowOf D x.2).sum

theorem nowOf_file {D : DiskM} (hn : (D.files.map (·.blk)).Nodup) {f : FileM} (hf : f ∈ D.files) : nowOf D (filePtr f) = f.now.size := by
  unfold nowOf filePtr
  have : D.files.find? (fun g => decide (g.blk = f.blk)) = some f := by
    generalize D.files = l at *
    induction l with
    | nil => cases hf
    | cons g l ih =>
      simp only [List.map_cons, List.nodup_cons] at hn
      simp only [List.find?_cons]
      rcases List.mem_cons.1 hf with rfl | hf'
      · simp
      · have : g.blk ≠ f.blk := fun e => hn.1 (by rw [e]; exact List.mem_map_of_mem hf')
        simp [this, ih hn.2 hf']
  simp [this]

def rawMap (D : DiskM) : List (Value × Value) := (fileMap D).map fun x => (strKey x.1, x.2)
theorem rawMap_mem {D : DiskM} {k v : Value} (h : (k, v) ∈ rawMap D) : ∃ f ∈ D.files, k = .string f.name ∧ v = filePtr f := by
  unfold rawMap fileMap strKey at h
  simp only [List.map_map, List.mem_map, Function.comp_apply, Prod.mk.injEq] at h
  obtain ⟨f, hf, rfl, rfl⟩ := h
  exact ⟨f, hf, rfl, rfl⟩

theorem nowSum_all {D : DiskM} (hn : (D.files.map (·.blk)).Nodup) : nowSum D (rawMap D) = D.total := by
  unfold nowSum rawMap fileMap DiskM.total
  rw [List.map_map, List.map_map]
  congr 1
  exact List.map_congr_left fun f hf => nowOf_file hn hf

theorem nowSum_perm {D : DiskM} {l l' : List (Value × Value)} (h : l.Perm l') : nowSum D l = nowSum D l' := (h.map _).sum_nat
theorem nowSum_append (D : DiskM) (l l' : List (Value × Value)) : nowSum D (l ++ l') = nowSum D l + nowSum D l' := by simp [nowSum]

theorem DiskIn.blks {w : World} {d m : Nat} {wv : Value} {D : DiskM} (h : DiskIn w d m wv D) : (D.files.map (·.blk)).Nodup := by
  have := h.apart
  unfold diskFoot at this
  simp only [List.nodup_cons, List.nodup_append] at this
  exact this.2.2.2.1

set_option maxHeartbeats 1000000 in
theorem size_ok (w : World) (d m : Nat) (wv : Value) (D : DiskM) (h : DiskIn w d m wv D) (hb : D.total ≤ 4611686018427387904) :
    Calls Tryz.prog 132 #[.pointer (some ⟨d, 0, none⟩)] w fun e w' => e = .returned (.int .i64 D.total) ∧ Touch [] w w' := by
  have c2 := cell_of h.head 2 _ rfl
  have hmlt := h.map.lt
  obtain ⟨w0, hrun, hI0, hT0, hs0, hM0⟩ := run_range_iter (P := Tryz.prog) Tryz.underlying201 (show MapAt w m (rawMap D) from h.map)
  go_enter Tryz.func132, Tryz.ntmps132
  go_wp2
  try go_frame
  have hI0' := Lib.hid hI0
  clear hI0 hrun
  go_loopg [3] (rawMap D).length (fun k n wr => ∃ done left, IterAt wr w.heap.size m (rawMap D) done left ∧ left.length = k ∧ n = .int .i64 (nowSum D done : Nat) ∧ Touch [] w wr)
  case atStart => exact ⟨[], rawMap D, hI0'.out, rfl, by simp [nowSum], hT0⟩
  case round =>
    obtain ⟨done, left, hI, hlen, rfl, hT⟩ := hrel
    have HL := Lib.hid hlen
    clear hlen
    have hperm := hI.perm
    have hsum : nowSum D done + nowSum D left = D.total := by rw [← nowSum_append, nowSum_perm hperm, nowSum_all h.blks]
    have HS := Lib.hid hsum
    clear hsum
    have hP := Lib.hid hperm
    clear hperm hT0 hs0 hM0 c2
    go_wp2_with (at_next; refine wpList_next_iter rfl _ rfl rfl hI (by omega) ?_ ?_)
    · intro h0
      have H0 := Lib.hid h0
      clear h0
      go_wp2
      go_ret
      refine ⟨?_, hT⟩
      have h1 := HS.out
      rw [H0.out] at h1
      simp only [nowSum, List.map_nil, List.sum_nil, Nat.add_zero] at h1
      rw [nowSum, h1]; rfl
    · intro k v left' w1 hp hmem hI1 hT1 hsz hen
      have hT' : Touch [] w w1 := hT.trans hT1 (by simp)
      obtain ⟨f, hf, rfl, rfl⟩ := rawMap_mem hmem
      have c1 := hT'.cell (cell_of (h.files f hf) 1 _ rfl) (by simp)
      have hle : nowSum D done + f.now.size ≤ D.total := by
        have h1 := HS.out
        rw [nowSum_perm hp] at h1
        simp only [nowSum, List.map_cons, List.sum_cons] at h1
        have h2 := nowOf_file h.blks hf
        rw [h2] at h1
        have : nowSum D done = (List.map (fun x => nowOf D x.snd) done).sum := rfl
        omega
      have HI1 := Lib.hid hI1
      have HP := Lib.hid hp
      have hnow := Lib.hid (nowOf_file h.blks hf)
      clear hI1 hp hsz hI
      unfold filePtr at hen
      go_wp2_with (go_in)
      go_roundg left'.length
      case measure =>
        have h1 := HP.out.length_eq
        have h2 := HL.out
        simp at h1
        omega
      case rel =>
        refine ⟨_, _, HI1.out, rfl, ?_, hT'⟩
        have h3 : nowSum D (done ++ [(Value.string f.name, filePtr f)]) = nowSum D done + f.now.size := by
          rw [nowSum_append]; simp only [nowSum, List.map_cons, List.map_nil, List.sum_cons, List.sum_nil]; rw [hnow.out]; simp
        rw [h3]; go_num

end Go.Proofs.YtljgifbnmgpdbaaGreatDoor

namespace Go.Proofs.YtljgifbnmgpdbaaGreatDoor
open Go Go.RowKit

/-- Bytes as cells. -/
def bcells (l : List UInt8) : List Value := l.map fun b => .int .u8 b.toNat

theorem length_bcells (l : List UInt8) : (bcells l).length = l.length := by simp [bcells]
theorem bcells_append (l m : List UInt8) : bcells (l ++ m) = bcells l ++ bcells m := by simp [bcells]

/-- Row g holds the bytes l at its head, may be written all along, and has room for c. -/
def ByteRow (w : World) (e g c : Nat) (l : List UInt8) : Prop :=
  ∃ cur fr, w.heap[g]? = some (.cells cur e fr) ∧ (fr = (0, 0) ∨ cur.size ≤ fr.1) ∧ cur.size = c ∧ cur.toList.take l.length = bcells l ∧ l.length ≤ c

theorem ByteRow.lt {w : World} {e g c : Nat} {l : List UInt8} (h : ByteRow w e g c l) : g < w.heap.size := by
  obtain ⟨cur, fr, h1, _⟩ := h; exact lt_of_heap h1
theorem ByteRow.same {w w' : World} {e g c : Nat} {l : List UInt8} (h : ByteRow w e g c l) (hs : w'.heap[g]? = w.heap[g]?) : ByteRow w' e g c l := by
  obtain ⟨cur, fr, h1, h2⟩ := h; exact ⟨cur, fr, hs.trans h1, h2⟩
theorem ByteRow.touch {w w' : World} {e g c : Nat} {l : List UInt8} {F : List Nat} (h : ByteRow w e g c l) (hT : Touch F w w') (hF : g ∉ F) : ByteRow w' e g c l := h.same (hT.block g h.lt hF)

theorem ByteRow.cell {w : World} {e g c : Nat} {l : List UInt8} (h : ByteRow w e g c l) (j : Nat) (hj : j < l.length) : w.cell? ⟨g, j, none⟩ = some (.int .u8 (l[j].toNat : Int)) := by
  obtain ⟨cur, fr, h1, h2, h3, h4, h5⟩ := h
  have hlt : j < cur.size := by omega
  have e1 : (cur.toList.take l.length)[j]? = some (.int .u8 (l[j].toNat : Int)) := by rw [h4]; simp [bcells, hj]
  rw [List.getElem?_take, if_pos hj] at e1
  have : cur[j]? = some (.int .u8 (l[j].toNat : Int)) := by simpa using e1
  simp [World.cell?, h1, this]

section
variable {P : Program}

theorem run_storeCells_free (g o : Nat) (t : TypeId) (fr : Nat × Nat) : ∀ (vs : List Value) (i : Nat) (cur : Array Value) (w : World), w.heap[g]? = some (.cells cur t fr) → (fr = (0, 0) ∨ cur.size ≤ fr.1) → o + i + vs.length ≤ cur.size → (∀ v ∈ vs, v.oneCell' = true) →
    (storeCells ⟨g, o, none⟩ vs i).run P w = .ok () (w.setRow g (cur.toList.take (o + i) ++ vs ++ cur.toList.drop (o + i + vs.length)).toArray)
  | [], i, cur, w, hg, _, _, _ => by
    simp only [storeCells, List.append_nil, List.length_nil, Nat.add_zero, List.take_append_drop, Array.toArray_toList]
    rw [setRow_self w g cur t fr hg]
    rfl
  | v :: rest, i, cur, w, hg, hf, hl, h1 => by
    have hi : o + i < cur.size := by simp at hl; omega
    have hadd : (⟨g, o, none⟩ : Addr).add i = ⟨g, o + i, none⟩ := by unfold Addr.add; split <;> simp_all
    have hcell : w.cell? ⟨g, o + i, none⟩ = some cur[o + i] := by simp [World.cell?, hg, hi]
    have hfro : w.frozen? ⟨g, o + i, none⟩ = false := by
      simp only [World.frozen?, hg]
      rcases hf with rfl | hf
      · simp
      · have : ¬ fr.1 ≤ o + i := by omega
        simp [this]
    have hst : (store ((⟨g, o, none⟩ : Addr).add i) v).run P w = .ok () (w.setRow g (cur.setIfInBounds (o + i) v)) := by
      rw [hadd, run_store P w _ v _ (h1 v (by simp)), hcell]
      simp [hfro, setCell_eq_setRow w g (o + i) cur t fr v hg]
    have ih := run_storeCells_free g o t fr rest (i + 1) (cur.setIfInBounds (o + i) v) (w.setRow g (cur.setIfInBounds (o + i) v)) (setRow_heap w g cur _ t _ hg) (by simpa using hf) (by simp at hl ⊢; omega) (fun x hx => h1 x (by simp [hx]))
    simp only [storeCells, Sem.run_bind, hst, Result.andThen_ok, ih, setRow_setRow]
    congr 3
    have e := list_seg_step cur.toList (o + i) v rest (by simp at hl ⊢; omega)
    simpa [Array.toList_setIfInBounds, Nat.add_assoc] using e

theorem touch_setRow (w : World) (g : Nat) (cs : Array Value) : Touch [g] w (w.setRow g cs) :=
  ⟨rfl, rfl, rfl, by simp [World.setRow], fun k _ hk => setRow_other w g k cs (by simpa using hk)⟩

theorem bcells_one (l : List UInt8) : ∀ v ∈ bcells l, v.oneCell' = true := by
  intro v hv
  obtain ⟨b, _, rfl⟩ := List.mem_map.1 hv
  rfl

theorem zeroCells_u8 (m : Nat) : Builtin.zeroCells #[Value.int .u8 0] m = (bcells (List.replicate m 0)).toArray := by
  simp only [Builtin.zeroCells, bcells, List.map_replicate]
  apply Array.ext
  · simp
  · intro i h1 h2
    simp only [List.size_toArray, List.length_cons, List.length_nil, Nat.zero_add, Array.size_map, Array.size_range, Nat.mul_one] at h1 ⊢
    simp [Nat.mod_one]

/-- append(b, make([]byte, m)...), b over a row of bytes, m above 0. -/
theorem run_append_zeros_bytes (w : World) (t tn ty e : TypeId) (i : TypeInfo) (kn : IntKind) (ht : P.underlying t = some (.slice e)) (htn : P.underlying tn = some (.int kn)) (hi : P.info? e = some i) (hz : i.zero = some (.int .u8 0)) (hsz : i.size = 1) (hby : i.bytes = 1)
    (g c : Nat) (l : List UInt8) (h : ByteRow w e g c l) (m : Nat) (hm : 0 < m) (hmax : l.length + m ≤ 1073741824) :
    ∃ g' c' w', (Builtin.append_ #[t, tn] ty #[.slice (some ⟨g, 0, none⟩) l.length c, .int .i64 m]).run P w = .ok (.slice (some ⟨g', 0, none⟩) (l.length + m) c') w' ∧
      ByteRow w' e g' c' (l ++ List.replicate m 0) ∧ Touch [g] w w' ∧ (g' = g ∨ w.heap.size ≤ g') := by
  obtain ⟨cur, fr, h1, h2, h3, h4, h5⟩ := h
  have hw : IntKind.i64.wrap (m : Int) = m := by rw [IntKind.wrap_i64]; omega
  have hneg : ¬ ((m : Int) < 0) := by omega
  have hbig : ¬ (281474976710656 < (m : Int) * ((1 : Nat) : Int)) := by omega
  have hns : ¬ (m * 1 = 0) := by omega
  by_cases hroom : l.length + m ≤ c
  · have hst := run_storeCells_free (P := P) g l.length e fr (bcells (List.replicate m 0)) 0 cur w h1 h2 (by rw [length_bcells]; simp; omega) (bcells_one _)
    simp only [Nat.add_zero] at hst
    refine ⟨g, c, w.setRow g (cur.toList.take l.length ++ bcells (List.replicate m 0) ++ cur.toList.drop (l.length + (bcells (List.replicate m 0)).length)).toArray, ?_, ⟨_, fr, setRow_heap w g cur _ e fr h1, ?_, ?_, ?_, by simp; omega⟩, touch_setRow w g _, .inl rfl⟩
    · have hb2 : ¬ (281474976710656 < (m : Int)) := by omega
      have hm0 : m ≠ 0 := by omega
      simp [Builtin.append_, run_underlying ht, run_underlying htn, sizeOf, typeInfo, zeroValue, hi, hz, asInt, asIntOf, hw, hneg, hsz, hby, hroom, Value.cells, zeroCells_u8, Addr.add_lit, Result.andThen, hm0, hb2, hst]
    · rcases h2 with h2 | h2
      · exact .inl h2
      · right; simp [length_bcells]; omega
    · simp [length_bcells]; omega
    · have e1 : (List.take l.length cur.toList).length = l.length := by rw [h4, length_bcells]
      simp only [List.length_append, List.length_replicate, bcells_append]
      rw [← h4]
      have e2 : l.length + m = (List.take l.length cur.toList ++ bcells (List.replicate m 0)).length := by rw [List.length_append, e1, length_bcells]; simp
      rw [e2]
      exact List.take_left
  · have hold : (Builtin.firstCells i.size l.length (.slice (some ⟨g, 0, none⟩) l.length c)).run P w.drew = .ok (bcells l).toArray w.drew := by
      have h7 : ∀ j v, (bcells l)[j]? = some v → w.drew.cell? ((⟨g, 0, none⟩ : Addr).add j) = some v := by
        intro j v hj
        have hjl : j < l.length := by
          have := (List.getElem?_eq_some_iff.1 hj).1
          rwa [length_bcells] at this
        have hadd : (⟨g, 0, none⟩ : Addr).add j = ⟨g, j, none⟩ := by unfold Addr.add; split <;> simp_all
        rw [hadd, World.cell?_drew, ByteRow.cell ⟨cur, fr, h1, h2, h3, h4, h5⟩ j hjl]
        simp [bcells, List.getElem?_eq_getElem hjl] at hj
        rw [← hj]
      have h8 := run_loadCells_list (P := P) w.drew ⟨g, 0, none⟩ (bcells l) h7
      rw [length_bcells] at h8
      simpa [Builtin.firstCells, hsz] using h8
    have hcap : grownCap w (l.length + m) c e ≥ l.length + m := grownCap_ge w _ _ _
    have hr := Lib.run_append_grow_zeros (P := P) w t tn ty e i (.int .u8 0) .i64 kn ht htn hi hz (some ⟨g, 0, none⟩) l.length c (bcells l) hold m hm (by omega) (by omega) (by omega) (by rw [hby]; omega) (by
      rw [hby]
      have := growslice_fits (bytes := 1) (need := l.length + m) (old := c) (by omega) (by omega)
      simpa using this)
    refine ⟨_, _, _, hr, ⟨_, (0, 0), heap_alloc_new w.drew _, .inl rfl, ?_, ?_, by simp; omega⟩, (Touch.refl _ _).drew.alloc _, .inr (Nat.le_refl _)⟩
    · simp only [Array.size_append, List.size_toArray, length_bcells, size_zeroCells]
      simp [Value.cells]; omega
    · have e2 : (l ++ List.replicate m 0).length = (bcells (l ++ List.replicate m 0)).length := by rw [length_bcells]
      rw [e2, bcells_append]
      simp only [Array.toList_append, Value.cells, zeroCells_u8]
      exact List.take_left

/-- copy(b[o:], s): a text's bytes into a row of bytes. -/
theorem run_copy_text (w : World) (dT sT ty e : TypeId) (i : TypeInfo) (hd : P.underlying dT = some (.slice e)) (hi : P.info? e = some i) (hsz : i.size = 1)
    (g c : Nat) (l : List UInt8) (h : ByteRow w e g c l) (o dLen dCap : Nat) (s : ByteArray) (ho : o + s.size ≤ l.length) (hdl : dLen = l.length - o) :
    ∃ w', (Builtin.copy_ #[dT, sT] ty #[.slice (some ⟨g, o, none⟩) dLen dCap, .string s]).run P w = .ok (goInt s.size) w' ∧
      ByteRow w' e g c (l.take o ++ s.data.toList ++ l.drop (o + s.size)) ∧ Touch [g] w w' := by
  subst hdl
  obtain ⟨cur, fr, h1, h2, h3, h4, h5⟩ := h
  have hn : Nat.min s.size (l.length - o) = s.size := Nat.min_eq_left (by omega)
  have hc : ((s.extract 0 s.size).data.map fun b => Value.int .u8 b.toNat).toList = bcells s.data.toList := by
    simp [bcells]
  have hlen : (bcells s.data.toList).length = s.size := by rw [length_bcells, bytes_len]
  have hst := run_storeCells_free (P := P) g o e fr (bcells s.data.toList) 0 cur w h1 h2 (by rw [hlen]; omega) (bcells_one _)
  simp only [Nat.add_zero] at hst
  refine ⟨_, ?_, ⟨_, fr, setRow_heap w g cur (cur.toList.take o ++ bcells s.data.toList ++ cur.toList.drop (o + (bcells s.data.toList).length)).toArray e fr h1, ?_, ?_, ?_, ?_⟩, touch_setRow w g _⟩
  · simp only [Builtin.copy_, run_underlying hd, Builtin.lenOf, Builtin.firstCells, sizeOf, typeInfo, hi, hn, Sem.run_bind, Sem.run_pure, Result.andThen_ok, List.getElem?_toArray, List.getElem?_cons_zero, List.getElem?_cons_succ]
    simp [hn, Result.andThen, hi]
    have hb : List.map (fun b => Value.int .u8 b.toNat) s.data.toList = bcells s.data.toList := rfl
    rw [hb, hst]
    simp only [List.append_assoc]
  · rcases h2 with h2 | h2
    · exact .inl h2
    · right; simp [hlen]; omega
  · simp [hlen]; omega
  · have e1 : (l.take o ++ s.data.toList ++ l.drop (o + s.size)).length = l.length := by simp [bytes_len]; omega
    rw [e1]
    have hl : cur.toList.length = c := by simp [h3]
    have e2 : cur.toList.take o = bcells (l.take o) := by
      have := congrArg (List.take o) h4
      rw [List.take_take, Nat.min_eq_left (by omega)] at this
      rw [this]; simp [bcells, List.map_take]
    have e3 : (cur.toList.drop (o + s.size)).take (l.length - (o + s.size)) = bcells (l.drop (o + s.size)) := by
      have := congrArg (List.drop (o + s.size)) h4
      rw [List.drop_take] at this
      rw [this]; simp [bcells, List.map_drop]
    simp only [hlen]
    rw [e2, bcells_append, bcells_append, ← e3]
    have e4 : (bcells (List.take o l) ++ bcells s.data.toList).length = o + s.size := by
      rw [List.length_append, length_bcells, length_bcells, bytes_len, List.length_take]; omega
    have e5 : l.length = (bcells (List.take o l) ++ bcells s.data.toList).length + (l.length - (o + s.size)) := by rw [e4]; omega
    rw [e5, List.take_length_add_append, e4]
    congr 2; omega
  · simp [bytes_len]; omega

variable {ops : Array Oper} {rest : List Oper} {o : Oper} {a : Act} {Q : Exit → Act → World → Prop}

/-- An append whose run is known. -/
theorem wpList_append_run {w : World} (hg : o.guard = none) (s x : Operand) (t tx : TypeId) (ho : o.op = .call { callee := .builtin .append, args := #[s, x], argTypes := #[t, tx] })
    {vs vx v : Value} {w' : World} (hs : a.eval s = vs) (hx : a.eval x = vx) (hrun : (Builtin.append_ #[t, tx] o.type #[vs, vx]).run P w = .ok v w') (h : wpList P ops Q rest (a.put o.dst v) w') : wpList P ops Q (o :: rest) a w := by
  refine wpList_plain hg fun K hK => ?_
  unfold Oper.wp execOp
  simp only [ho, resolve, invoke, builtin, Sem.run_bind, Sem.run_pure, Result.andThen_ok, List.map_toArray, List.map_cons, List.map_nil, hs, hx, hrun]
  exact hK _ _ h

/-- A clear whose run is known. -/
theorem wpList_clear_run {w : World} (hg : o.guard = none) (s : Operand) (t : TypeId) (ho : o.op = .call { callee := .builtin .clear, args := #[s], argTypes := #[t] })
    {vs v : Value} {w' : World} (hs : a.eval s = vs) (hrun : (Builtin.clear_ #[t] o.type #[vs]).run P w = .ok v w') (h : wpList P ops Q rest (a.put o.dst v) w') : wpList P ops Q (o :: rest) a w := by
  refine wpList_plain hg fun K hK => ?_
  unfold Oper.wp execOp
  simp only [ho, resolve, invoke, builtin, Sem.run_bind, Sem.run_pure, Result.andThen_ok, List.map_toArray, List.map_cons, List.map_nil, hs, hrun]
  exact hK _ _ h

/-- A copy whose run is known. -/
theorem wpList_copy_run {w : World} (hg : o.guard = none) (s x : Operand) (t tx : TypeId) (ho : o.op = .call { callee := .builtin .copy, args := #[s, x], argTypes := #[t, tx] })
    {vs vx v : Value} {w' : World} (hs : a.eval s = vs) (hx : a.eval x = vx) (hrun : (Builtin.copy_ #[t, tx] o.type #[vs, vx]).run P w = .ok v w') (h : wpList P ops Q rest (a.put o.dst v) w') : wpList P ops Q (o :: rest) a w := by
  refine wpList_plain hg fun K hK => ?_
  unfold Oper.wp execOp
  simp only [ho, resolve, invoke, builtin, Sem.run_bind, Sem.run_pure, Result.andThen_ok, List.map_toArray, List.map_cons, List.map_nil, hs, hx, hrun]
  exact hK _ _ h
end
end Go.Proofs.YtljgifbnmgpdbaaGreatDoor

namespace Go.Proofs.YtljgifbnmgpdbaaGreatDoor
open Go Go.RowKit

set_option maxHeartbeats 1000000 in
theorem room_ok (w : World) (d m : Nat) (wv : Value) (D : DiskM) (h : DiskIn w d m wv D) (hb : D.total ≤ 4611686018427387904) (hc : -4611686018427387904 ≤ D.cap) (hc2 : D.cap ≤ 4611686018427387904) :
    Calls Tryz.prog 76 #[.pointer (some ⟨d, 0, none⟩)] w fun e w' => e = .returned (.int .i64 (D.cap - D.total)) ∧ Touch [] w w' := by
  have c3 := h.cells.2.2.2.2
  have hwr : IntKind.i64.wrap (D.cap - D.total) = D.cap - D.total := IntWalk.i64_in _ (by omega)
  go_enter Tryz.func76, Tryz.ntmps76
  go_wp2_with fail
  have HB := Lib.hid hb
  go_region_held3 (fun w' => w'.cell? ⟨d, 4, none⟩ = some (.int .i64 D.cap) ∧ Touch [] w w')
    (first
      | exact ⟨c3, (Touch.refl _ _).drew⟩
      | exact ⟨hT.cell ‹w.drew.cell? ⟨d, 4, none⟩ = _› (by simp), ‹Touch [] w w.drew›.trans' hT⟩)
    ((go_at_call 132; go_split_ands; refine (size_ok _ d m wv D (h.touch (F := []) (by assumption) (by simp)) HB.out).mono ?_; rintro e w1 ⟨rfl, hT⟩))
  go_split_ands
  go_wp2
  go_ret
  exact ⟨rfl, by assumption⟩

/-! ### laid: bytes laid over others, from a place on that lies within them -/
theorem info_u8 : (Tryz.prog.info? 5).map (fun i => (i.zero, i.size, i.bytes)) = some (some (.int .u8 0), 1, 1) := by kernel_rfl


theorem bytesRow_made (w : World) (e : TypeId) (s : ByteArray) : ByteRow (Lib.bytesWorld w e s) e w.heap.size (grownCap w s.size 0 e) s.data.toList ∧ Touch [] w (Lib.bytesWorld w e s) := by
  have hge := grownCap_ge w s.size 0 e
  have hsz : (Lib.bytesCells w e s).size = grownCap w s.size 0 e := by
    have h1 : (s.data.map fun b => Value.int .u8 b.toNat).size = s.size := by rw [Array.size_map]; rfl
    simp only [Lib.bytesCells, Array.size_append, h1, Array.size_replicate]; omega
  refine ⟨⟨_, _, Lib.bytesWorld_at_new w e s, .inr (Nat.le_refl _), hsz, ?_, hge⟩, ⟨rfl, rfl, rfl, by rw [Lib.bytesWorld_size]; omega, fun k hk _ => Lib.bytesWorld_at_old w e s k hk⟩⟩
  have e1 : s.data.toList.length = (bcells s.data.toList).length := by rw [length_bcells]
  rw [e1]
  simp only [Lib.bytesCells, Array.toList_append, Array.toList_map]
  exact List.take_left

/-- What 'laid' gives. -/
def laidB (s : ByteArray) (at_ : Nat) (over : ByteArray) : ByteArray := ⟨(s.data.toList.take at_ ++ over.data.toList ++ s.data.toList.drop (at_ + over.size)).toArray⟩

set_option maxHeartbeats 1000000 in
theorem laid_ok (w : World) (s over : ByteArray) (at_ : Nat) (ha : at_ ≤ s.size) (hs : s.size + over.size ≤ 1073741824) (h0 : over.size ≠ 0) :
    Calls Tryz.prog 180 #[.string s, .int .i64 at_, .string over] w fun e w' => e = .returned (.string (laidB s at_ over)) ∧ Touch [] w w' := by
  have ho : over.toList.isEmpty = false := by simpa using bytes_not_nil h0
  obtain ⟨i8, hi8, hz0, hz1, hz2⟩ := info_parts info_u8
  have hconv := Lib.run_convert_string_bytes (P := Tryz.prog) w 9 94 5 s Tryz.underlying9 Tryz.underlying94 Tryz.underlying5
  obtain ⟨hrow, hT1⟩ := bytesRow_made w 5 s
  generalize Lib.bytesWorld w 5 s = w1 at *
  generalize grownCap w s.size 0 5 = c1 at *
  have hg1 := hrow.lt
  have hlen := bytes_len s
  by_cases hgt : s.size < at_ + over.size
  · obtain ⟨m, hm⟩ : ∃ m, m = at_ + over.size - s.size := ⟨_, rfl⟩
    obtain ⟨g2, c2, w2, happ, hrow2, hT2, hg2⟩ := run_append_zeros_bytes (P := Tryz.prog) w1 94 3 94 5 i8 .i64 Tryz.underlying94 Tryz.underlying3 hi8 hz0 hz1 hz2 w.heap.size c1 s.data.toList hrow m (by omega) (by rw [hlen]; omega)
    rw [hlen] at happ
    have hl2 : (s.data.toList ++ List.replicate m 0).length = at_ + over.size := by simp [hlen]; omega
    obtain ⟨w3, hcopy, hrow3, hT3⟩ := run_copy_text (P := Tryz.prog) w2 94 9 3 5 i8 Tryz.underlying94 hi8 hz1 g2 c2 _ hrow2 at_ over.size (c2 - at_) over (by omega) (by omega)
    have hc2 : at_ + over.size ≤ c2 := by obtain ⟨_, _, _, _, _, _, h⟩ := hrow2; omega
    have hm' : ((at_ : Int) + (over.size : Int) - (s.size : Int)) = (m : Int) := by omega
    have e3 : (List.take at_ (s.data.toList ++ List.replicate m 0) ++ over.data.toList ++ List.drop (at_ + over.size) (s.data.toList ++ List.replicate m 0)) = s.data.toList.take at_ ++ over.data.toList ++ s.data.toList.drop (at_ + over.size) := by
      rw [List.take_append_of_le_length (by rw [hlen]; omega), List.drop_eq_nil_of_le (by omega), List.drop_eq_nil_of_le (by rw [hlen]; omega)]
    rw [e3] at hrow3
    have hl3 : (s.data.toList.take at_ ++ over.data.toList ++ s.data.toList.drop (at_ + over.size)).length = at_ + over.size := by
      simp [hlen, bytes_len]; omega
    have hback := run_convert_bytes_back (P := Tryz.prog) w3 94 9 5 ⟨g2, 0, none⟩ c2 _ Tryz.underlying94 Tryz.underlying5 Tryz.underlying9 (fun j hj => by
      have hadd : (⟨g2, 0, none⟩ : Addr).add j = ⟨g2, j, none⟩ := by unfold Addr.add; split <;> simp_all
      rw [hadd]; exact hrow3.cell j hj)
    rw [hl3] at hback
    have hT : Touch [] w w3 := (hT1.trans (G := [w.heap.size]) hT2 (by simp)).trans (G := [g2]) hT3 (by
      intro x hx
      simp at hx; subst hx
      rcases hg2 with rfl | h
      · exact .inr (Nat.le_refl _)
      · right; have := hT1.size; omega)
    have hfin : (ByteArray.mk (s.data.toList.take at_ ++ over.data.toList ++ s.data.toList.drop (at_ + over.size)).toArray) = laidB s at_ over := rfl
    rw [hfin] at hback
    have e1 : (s.size + m : Nat) = at_ + over.size := by omega
    rw [e1] at happ
    have e2 : (((at_ + over.size : Nat) : Int) - (at_ : Int)).toNat = at_ + over.size - at_ := by omega
    have hi8' := hi8
    have hz1' := hz1
    clear hrow hrow2 hrow3 hT1 hT2 hT3 e3 hl2 hl3 hfin hi8 hz0 hz1 hz2 hlen hg2 e1
    have HT := Lib.hid hT
    have hd0 : decide (0 < m) = true := by simp; omega
    have hsI : (s.size : Int) + (over.size : Int) ≤ 1073741824 := by omega
    clear hT hm hs
    go_enter Tryz.func180, Tryz.ntmps180
    have hsl := run_cut_from (P := Tryz.prog) Tryz.underlying94 hi8' hz1' w2 g2 0 (at_ + over.size) c2 at_ (by omega) (by omega) .i64
    simp only [Nat.mul_one, Nat.zero_add] at hsl
    rw [show at_ + over.size - at_ = over.size from by omega] at hsl
    have HA := Lib.hid happ
    have HC := Lib.hid hcopy
    clear happ hcopy hi8' hz1'
    go_wp2_with (first | (at_builtin; refine wpList_append_run rfl _ _ _ _ rfl rfl rfl HA.out ?_) | ((with_reducible refine wpList_copy_run (o := ⟨some 30, _, _, _, _, _⟩) (v := goInt over.size) (w' := w3) rfl (.tmp 28) (.tmp 29) 94 9 rfl rfl rfl ?hcp ?_); (case hcp => exact HC.out)))
    go_ret
    exact ⟨rfl, HT.out⟩
  · obtain ⟨w3, hcopy, hrow3, hT3⟩ := run_copy_text (P := Tryz.prog) w1 94 9 3 5 i8 Tryz.underlying94 hi8 hz1 w.heap.size c1 _ hrow at_ (s.size - at_) (c1 - at_) over (by omega) (by omega)
    have hc1 : s.size ≤ c1 := by obtain ⟨_, _, _, _, _, _, h⟩ := hrow; omega
    have hl3 : (s.data.toList.take at_ ++ over.data.toList ++ s.data.toList.drop (at_ + over.size)).length = s.size := by
      simp [hlen, bytes_len]; omega
    have hback := run_convert_bytes_back (P := Tryz.prog) w3 94 9 5 ⟨w.heap.size, 0, none⟩ c1 _ Tryz.underlying94 Tryz.underlying5 Tryz.underlying9 (fun j hj => by
      have hadd : (⟨w.heap.size, 0, none⟩ : Addr).add j = ⟨w.heap.size, j, none⟩ := by unfold Addr.add; split <;> simp_all
      rw [hadd]; exact hrow3.cell j hj)
    rw [hl3] at hback
    have hT : Touch [] w w3 := hT1.trans (G := [w.heap.size]) hT3 (by simp)
    have hfin : (ByteArray.mk (s.data.toList.take at_ ++ over.data.toList ++ s.data.toList.drop (at_ + over.size)).toArray) = laidB s at_ over := rfl
    rw [hfin] at hback
    have hsl := run_cut_from (P := Tryz.prog) Tryz.underlying94 hi8 hz1 w1 w.heap.size 0 s.size c1 at_ (by omega) (by omega) .i64
    simp only [Nat.mul_one, Nat.zero_add] at hsl
    have hd0 : decide ((s.size : Int) < (at_ : Int) + (over.size : Int)) = false := by simp; omega
    have hsI : (s.size : Int) + (over.size : Int) ≤ 1073741824 := by omega
    have HT := Lib.hid hT
    have HC := Lib.hid hcopy
    clear hrow hrow3 hT1 hT3 hl3 hfin hi8 hz0 hz1 hz2 hlen hT hs hcopy hgt
    go_enter Tryz.func180, Tryz.ntmps180
    go_wp2_with ((with_reducible refine wpList_copy_run (o := ⟨some 30, _, _, _, _, _⟩) (v := goInt over.size) (w' := w3) rfl (.tmp 28) (.tmp 29) 94 9 rfl rfl rfl ?hcp ?_); (case hcp => exact HC.out))
    go_ret
    exact ⟨rfl, HT.out⟩
end Go.Proofs.YtljgifbnmgpdbaaGreatDoor

namespace Go.Proofs.YtljgifbnmgpdbaaGreatDoor
open Go Go.RowKit

/-- A file's bytes are turned. -/
def DiskM.setNow (D : DiskM) (b : Nat) (x : ByteArray) : List FileM := D.files.map fun f => if f.blk = b then { f with now := x } else f

theorem DiskM.now_le (D : DiskM) {f : FileM} (hf : f ∈ D.files) : f.now.size ≤ D.total := by
  unfold DiskM.total
  generalize D.files = l at *
  induction l with
  | nil => cases hf
  | cons g l ih =>
    simp only [List.map_cons, List.sum_cons]
    rcases List.mem_cons.1 hf with rfl | h
    · omega
    · have := ih h; omega

/-- The disk behind Write. -/
def DiskM.write (D : DiskM) (f : FileM) (at_ : Nat) (s : ByteArray) : DiskM := { D with files := D.setNow f.blk (laidB f.now at_ s), waits := D.waits ++ [⟨f.blk, at_, s⟩] }

theorem DiskIn.apart_file {w : World} {d m : Nat} {wv : Value} {D : DiskM} (h : DiskIn w d m wv D) {f : FileM} (hf : f ∈ D.files) : d ≠ f.blk ∧ m ≠ f.blk ∧ ∀ b, wv.ownBlock = some b → b ≠ f.blk := by
  have := h.apart
  unfold diskFoot at this
  simp only [List.nodup_cons, List.nodup_append, List.mem_cons, List.mem_append, Option.mem_toList, not_or] at this
  have hm : f.blk ∈ D.files.map (·.blk) := List.mem_map_of_mem hf
  refine ⟨fun e => this.1.2.2 (e ▸ hm), fun e => this.2.1.2 (e ▸ hm), fun b hb e => this.2.2.2.2 b hb _ hm e⟩

theorem DiskIn.apart_waits {w : World} {d m : Nat} {wv : Value} {D : DiskM} (h : DiskIn w d m wv D) : d ≠ m ∧ ∀ b, wv.ownBlock = some b → b ≠ d ∧ b ≠ m := by
  have := h.apart
  unfold diskFoot at this
  simp only [List.nodup_cons, List.nodup_append, List.mem_cons, List.mem_append, Option.mem_toList, not_or] at this
  refine ⟨this.1.1, fun b hb => ⟨fun e => this.1.2.1 (e ▸ hb), fun e => this.2.1.1 (e ▸ hb)⟩⟩

theorem setNow_blks (D : DiskM) (b : Nat) (x : ByteArray) : (D.setNow b x).map (·.blk) = D.files.map (·.blk) := by
  simp only [DiskM.setNow, List.map_map]
  apply List.map_congr_left
  intro f _
  simp only [Function.comp_apply]
  split <;> rfl
theorem setNow_names (D : DiskM) (b : Nat) (x : ByteArray) : (D.setNow b x).map (·.name) = D.files.map (·.name) := by
  simp only [DiskM.setNow, List.map_map]
  apply List.map_congr_left
  intro f _
  simp only [Function.comp_apply]
  split <;> rfl

theorem ownsRow_other {w w' : World} {e : TypeId} {s : Nat} {v : Value} {n : Nat} {xs : List Value} (h : w.ownsRow 0 e s v n xs) (hs : ∀ b, v.ownBlock = some b → w'.heap[b]? = w.heap[b]?) : w'.ownsRow 0 e s v n xs := by
  obtain ⟨h1, h2⟩ := h
  refine ⟨h1, ?_⟩
  rcases h2 with h2 | ⟨g, cap, cur, rfl, hb, hg, rest⟩
  · exact .inl h2
  · exact .inr ⟨g, cap, cur, rfl, hb, (hs g rfl).trans hg, rest⟩

/-- A file's bytes are turned: the disk behind the store. -/
theorem DiskIn.setNow {w : World} {d m : Nat} {wv : Value} {D : DiskM} (h : DiskIn w d m wv D) {f : FileM} (hf : f ∈ D.files) (x : ByteArray) :
    DiskIn (w.setCell ⟨f.blk, 1, none⟩ (.string x)) d m wv { D with files := D.setNow f.blk x } := by
  obtain ⟨a1, a2, a3⟩ := h.apart_file hf
  refine ⟨?_, ?_, ?_, ?_, ?_, ?_, ?_, ?_⟩
  · rw [heap_setCell_ne _ _ _ _ _ _ a1]; exact h.head
  · have e1 : fileMap { D with files := D.setNow f.blk x } = fileMap D := by
      simp only [fileMap, DiskM.setNow, List.map_map]
      apply List.map_congr_left
      intro g _
      simp only [Function.comp_apply]
      split <;> simp [filePtr]
    rw [e1]
    exact h.map.same (heap_setCell_ne _ _ _ _ _ _ a2)
  · intro g hg
    simp only [DiskM.setNow, List.mem_map] at hg
    obtain ⟨g0, hg0, rfl⟩ := hg
    by_cases hb : g0.blk = f.blk
    · simp only [hb, if_true]
      have h0 := h.files g0 hg0
      rw [hb] at h0
      have := heap_setCell_at (i := 1) (v := .string x) h0
      simpa [fileObj] using this
    · simp only [hb, if_false]
      rw [heap_setCell_ne _ _ _ _ _ _ hb]; exact h.files g0 hg0
  · exact ownsRow_other h.waits fun b hb => heap_setCell_ne _ _ _ _ _ _ (a3 b hb)
  · show ((D.setNow f.blk x).map (·.name)).Nodup
    rw [setNow_names]; exact h.names
  · show (diskFoot d m wv _).Nodup
    have : diskFoot d m wv { D with files := D.setNow f.blk x } = diskFoot d m wv D := by simp only [diskFoot, setNow_blks]
    rw [this]; exact h.apart
  · intro y hy
    obtain ⟨g, hg, e⟩ := h.held y hy
    have : g.blk ∈ (D.setNow f.blk x).map (·.blk) := by rw [setNow_blks]; exact List.mem_map_of_mem hg
    obtain ⟨g', hg', e'⟩ := List.mem_map.1 this
    exact ⟨g', hg', e'.trans e⟩
  · have : diskFoot d m wv { D with files := D.setNow f.blk x } = diskFoot d m wv D := by simp only [diskFoot, setNow_blks]
    rw [this]; exact h.low

/-- The waits are turned: the disk behind the store. -/
theorem DiskIn.setWaits {w : World} {d m : Nat} {wv : Value} {D : DiskM} (h : DiskIn w d m wv D) {w1 : World} (hT : w.grownBy w1 wv.ownBlock) {v : Value} {l : List WaitM} (hown : w1.ownsRow 0 271 3 v l.length (l.flatMap waitCells))
    (hv : ∀ b, v.ownBlock = some b → wv.ownBlock = some b ∨ w.heap.size ≤ b) (hl : ∀ x ∈ l, ∃ f ∈ D.files, f.blk = x.blk) :
    DiskIn (w1.setCell ⟨d, 3, none⟩ v) d m v { D with waits := l } := by
  have hap := h.apart
  obtain ⟨b1, b2⟩ := h.apart_waits
  have hlt := h.lt
  have hd : d < w.heap.size := hlt d (by simp [diskFoot])
  have hm : m < w.heap.size := hlt m (by simp [diskFoot])
  have hdw : some d ≠ wv.ownBlock := fun e => (b2 d e.symm).1 rfl
  have hmw : some m ≠ wv.ownBlock := fun e => (b2 m e.symm).2 rfl
  have hnd : ∀ b, v.ownBlock = some b → b ≠ d ∧ b ≠ m ∧ ∀ f ∈ D.files, b ≠ f.blk := by
    intro b hb
    rcases hv b hb with h1 | h1
    · exact ⟨(b2 b h1).1, (b2 b h1).2, fun f hf => (h.apart_file hf).2.2 b h1⟩
    · refine ⟨by omega, by omega, fun f hf => ?_⟩
      have := hlt f.blk (by simp [diskFoot]; exact .inr (.inr (.inr ⟨f, hf, rfl⟩)))
      omega
  refine ⟨?_, ?_, ?_, ?_, h.names, ?_, hl, ?_⟩
  · have := heap_setCell_at (i := 3) (v := v) ((hT.block d hd hdw).trans h.head)
    simpa using this
  · exact h.map.same ((heap_setCell_ne _ _ _ _ _ _ b1.symm).trans (hT.block m hm hmw))
  · intro f hf
    obtain ⟨c1, c2, c3⟩ := h.apart_file hf
    rw [heap_setCell_ne _ _ _ _ _ _ c1.symm, hT.block f.blk (lt_of_heap (h.files f hf)) (fun e => c3 _ e.symm rfl)]
    exact h.files f hf
  · exact ownsRow_other hown fun b hb => heap_setCell_ne _ _ _ _ _ _ (hnd b hb).1
  · unfold diskFoot at hap ⊢
    simp only [List.nodup_cons, List.nodup_append, List.mem_cons, List.mem_append, Option.mem_toList, not_or] at hap ⊢
    refine ⟨⟨hap.1.1, fun e => (hnd d e).1 rfl, hap.1.2.2⟩, ⟨fun e => (hnd m e).2.1 rfl, hap.2.1.2⟩, ?_, hap.2.2.2.1, ?_⟩
    · cases v.ownBlock <;> simp
    · intro b hb c hc
      obtain ⟨f, hf, rfl⟩ := List.mem_map.1 hc
      exact (hnd b hb).2.2 f hf
  · intro b hb
    simp only [diskFoot, List.mem_cons, List.mem_append, Option.mem_toList] at hb
    have hlow := h.low
    simp only [diskFoot, List.mem_cons, List.mem_append, Option.mem_toList] at hlow
    rcases hb with rfl | rfl | hb | hb
    · exact hlow _ (.inl rfl)
    · exact hlow _ (.inr (.inl rfl))
    · rcases hv b hb with h1 | h1
      · exact hlow _ (.inr (.inr (.inl h1)))
      · have := hlow d (.inl rfl); omega
    · exact hlow _ (.inr (.inr (.inr hb)))

theorem info_write : (Tryz.prog.info? 271).map (fun i => (i.zero, i.size, i.bytes)) = some (some (.agg #[.pointer none, .int .i64 0, .string ⟨#[]⟩]), 3, 32) := by kernel_rfl

set_option maxRecDepth 100000 in
set_option maxHeartbeats 800000 in
theorem write_ok (w : World) (d m : Nat) (wv : Value) (D : DiskM) (h : DiskIn w d m wv D) (name s : ByteArray) (f : FileM) (hl : D.look name = some f) (at_ : Nat) (ha : at_ ≤ f.now.size)
    (hs : s.size ≠ 0) (hfit : (at_ : Int) + s.size - f.now.size ≤ D.cap - D.total) (hcap : D.cap ≤ 16777216) (htot : D.total ≤ 16777216) (hnw : D.waits.length < 1000000) (hs1 : s.size ≤ 16777216) (hc0 : (D.total : Int) ≤ D.cap) :
    Calls Tryz.prog 124 #[.pointer (some ⟨d, 0, none⟩), .string name, .int .i64 at_, .string s] w fun e w' => e = .returned (.int .i64 0) ∧
      ∃ wv', DiskIn w' d m wv' (D.write f at_ s) ∧ Touch (diskFoot d m wv D) w w' ∧ (wv'.ownBlock = wv.ownBlock ∨ ∃ b, wv'.ownBlock = some b ∧ w.heap.size ≤ b) := by
  obtain ⟨hf, hname⟩ := DiskM.look_mem hl
  have hns : f.now.size ≤ D.total := D.now_le hf
  go_enter Tryz.func124, Tryz.ntmps124
  go_wp2_with fail
  refine (bars_one w d m wv D h name ⟨f, hl⟩).mono ?_
  rintro e w1 ⟨rfl, h1, hT1⟩
  obtain ⟨-, -, c2, c3, c4⟩ := h1.cells
  obtain ⟨f0, f1⟩ := h1.file hf
  have hlk := h1.lookup name
  rw [hl] at hlk
  simp only [filePtr?, filePtr] at hlk
  have B1 : (at_ : Int) ≤ 16777216 := by omega
  have B2 : (s.size : Int) ≤ 16777216 := by omega
  have B3 : (f.now.size : Int) ≤ 16777216 := by omega
  have HX := Lib.hid (And.intro hfit (And.intro hcap (And.intro htot (And.intro hnw (And.intro hs1 (And.intro hc0 hns))))))
  clear hfit hcap htot hnw hs1 hc0 hns
  have ha' : (at_ : Int) ≤ f.now.size := by omega
  go_wp2_with fail
  have hsub : IntKind.i64.wrap ((at_ : Int) + s.size - f.now.size) = (at_ : Int) + s.size - f.now.size := IntWalk.i64_in _ (by omega)
  have hadd : IntKind.i64.wrap ((at_ : Int) + s.size) = (at_ : Int) + s.size := IntWalk.i64_in _ (by omega)
  have hdec : decide ((at_ : Int) + s.size - f.now.size > D.cap - D.total) = false := by have := HX.out; simp; omega
  have hdec2 : decide (D.cap - D.total < (at_ : Int) + s.size - f.now.size) = false := by have := HX.out; simp; omega
  refine region_class (fun w' => w'.cell? ⟨f.blk, 1, none⟩ = some (.string f.now) ∧ Touch [] w1 w') (by kernel_rfl) (by kernel_rfl) ⟨f1, (Touch.refl _ _).drew⟩ ?_
  repeat (first | go_big_quiet_skip | (go_big_quiet_want; go_big_quiet_op; first | go_big_quiet_on | (refine Exists.intro _ ⟨fun _ _ => rfl, ?_⟩; go_big_quiet_on) | (refine Exists.intro _ ⟨fun w' hC => by (first | rw [hC.out.1] | rw [hC.out.2.1] | rw [hC.out.2.2.1] | rw [hC.out.2.2.2.1]); exact ⟨rfl, rfl⟩, ?_⟩; go_big_quiet_on) | (refine Exists.intro _ ⟨fun w' hC => (room_ok w' d m wv D (h1.touch hC.out.2 (by simp)) (by have := HX.out; omega) (by have := HX.out; omega) (by have := HX.out; omega)).mono fun e w2 hh => ⟨hh.1, hh.2.cell hC.out.1 (by simp), hC.out.2.trans' hh.2⟩, ?_⟩; go_big_quiet_on)))
  refine wpQuiet_nil ?_
  rintro w2 ⟨f1', hT2⟩
  clear f1 hsub hadd hdec hdec2
  have h2 := h1.touch hT2 (by simp)
  have hne : s.toList.isEmpty = false := by simpa using bytes_not_nil hs
  have HT2 := Lib.hid (hT1.trans' hT2)
  have H2 := Lib.hid h2
  clear hT1 hT2 h1 h hlk c2 c3 c4 f0 f1' 
  go_wp2_with fail
  refine (done_ok _ d m wv D H2.out).mono ?_
  rintro e w' ⟨rfl, rfl⟩
  obtain ⟨-, -, c2, c3, c4⟩ := H2.out.cells
  obtain ⟨f0, f1⟩ := H2.out.file hf
  go_wp2_with fail
  refine (laid_ok _ f.now s at_ ha (by have := HX.out; omega) hs).mono ?_
  rintro e w3 ⟨rfl, hT3⟩
  have h3 := H2.out.touch hT3 (by simp)
  have h4 := h3.setNow hf (laidB f.now at_ s)
  have hfb : f.blk < w3.heap.size := lt_of_heap (h3.files f hf)
  obtain ⟨-, g1⟩ := h3.file hf
  have g1f : w3.frozen? ⟨f.blk, 1, none⟩ = false := free_of (h3.files f hf) 1
  clear f0 f1 c2 c3 c4
  obtain ⟨x, hx⟩ : ∃ x, x = laidB f.now at_ s := ⟨_, rfl⟩
  rw [← hx] at h4 ⊢
  have HXX := Lib.hid hx
  obtain ⟨w4, hw4⟩ : ∃ w4, w4 = w3.setCell ⟨f.blk, 1, none⟩ (.string x) := ⟨_, rfl⟩
  rw [← hw4] at h4
  have hsz4 : w4.heap.size = w3.heap.size := by rw [hw4]; simp
  have HSZ := Lib.hid hsz4
  have hT4 : Touch [f.blk] w3 w4 := by rw [hw4]; exact (Touch.refl _ _).setCell _ _ _ _ (by simp)
  obtain ⟨-, -, -, c3, -⟩ := h4.cells
  have c3f : w4.frozen? ⟨d, 3, none⟩ = false := free_of h4.head 3
  have hd4 : d < w4.heap.size := h4.lt d (by simp [diskFoot])
  obtain ⟨iw, hiw, hz0, hz1, hz2⟩ := info_parts info_write
  obtain ⟨g, cap, w5, hrun, hown, hgr, hlies, hlt⟩ := run_append_lies (P := Tryz.prog) (w4.alloc (.cells #[.pointer (some ⟨f.blk, 0, none⟩), .int .i64 at_, .string s] 271)) 202 202 0 271 iw _ 3 32 Tryz.underlying202 hiw hz0 hz1 hz2 rfl (by omega)
    wv D.waits.length (D.waits.flatMap waitCells) (h4.waits.alloc _) ⟨w4.heap.size, 0, none⟩ 1 1 [.pointer (some ⟨f.blk, 0, none⟩), .int .i64 at_, .string s] rfl (World.news_of_block (cs := #[.pointer (some ⟨f.blk, 0, none⟩), .int .i64 at_, .string s]) (heap_alloc_new w4 _)) (by simp [Value.oneCell']) (by omega)
    (by have := HX.out; simp only [maxLen]; simp; omega) (by have := HX.out; simp; omega) (by omega) _ rfl
  have hgr4 : w4.grownBy w5 wv.ownBlock := by
    have h0 := World.grownBy_alloc w4 (.cells #[.pointer (some ⟨f.blk, 0, none⟩), .int .i64 at_, .string s] 271) wv.ownBlock
    exact ⟨hgr.os.trans h0.os, hgr.tape.trans h0.tape, hgr.output.trans h0.output, Nat.le_trans h0.size hgr.size, fun k hk hr => (hgr.block k (Nat.lt_of_lt_of_le hk h0.size) hr).trans (h0.block k hk hr)⟩
  have hlies2 : wv.ownBlock = some g ∨ w4.heap.size ≤ g := by
    rcases hlies with h | h
    · exact .inl h
    · right; simp at h; omega
  have h5 := h4.setWaits hgr4 (v := .slice (some ⟨g, 0, none⟩) (D.waits.length + 1) cap) (l := D.waits ++ [⟨f.blk, at_, s⟩]) (by simpa [waitCells] using hown) (by
    intro b hb
    simp only [Value.ownBlock, Option.some.injEq] at hb
    subst hb
    rcases hlies2 with h | h
    · exact .inl h
    · exact .inr h) (by
    intro y hy
    rcases List.mem_append.1 hy with hy | hy
    · exact h4.held y hy
    · simp at hy; subst hy
      have : f.blk ∈ (D.setNow f.blk x).map (·.blk) := by rw [setNow_blks]; exact List.mem_map_of_mem hf
      obtain ⟨g', hg', e'⟩ := List.mem_map.1 this
      exact ⟨g', hg', e'⟩)
  have hd5c : w5.cell? ⟨d, 3, none⟩ = some wv := by
    refine hgr4.cell c3 ?_
    intro e; exact (h4.apart_waits.2 d e.symm).1 rfl
  have hd5f : w5.frozen? ⟨d, 3, none⟩ = false := by
    rw [World.frozen?_of_block (hgr4.block d hd4 fun e => (h4.apart_waits.2 d e.symm).1 rfl)]; exact c3f
  have HR := Lib.hid hrun
  have HG := Lib.hid hgr4
  have HO := Lib.hid hown
  have H5 := Lib.hid h5
  have H4 := Lib.hid h4
  have HW4 := Lib.hid hw4
  clear hrun hgr4 hgr hown h5 h4 h3 hlies hx
  clear hiw hz0 hz1 hz2 hlt hsz4
  have hset : w3.setCell ⟨f.blk, 1, none⟩ (.string x) = w4 := hw4.symm
  clear hw4
  go_wp2_with (at_builtin; refine wpList_append_run rfl _ _ _ _ rfl rfl rfl HR.out ?_)
  go_ret
  refine ⟨rfl, .slice (some ⟨g, 0, none⟩) (D.waits.length + 1) cap, ?_, ?_, ?_⟩
  · have h5 := H5.out
    rw [HXX.out] at h5
    exact h5
  · have hfin : f.blk ∈ diskFoot d m wv D := by simp only [diskFoot, List.mem_cons, List.mem_append, List.mem_map]; exact .inr (.inr (.inr ⟨f, hf, rfl⟩))
    have e1 : Touch (diskFoot d m wv D) w w4 := ((HT2.out.trans' hT3).nil (G := diskFoot d m wv D)).trans hT4 (by
      intro b hb; simp at hb; subst hb; exact .inl hfin)
    have e2 := e1.grown HG.out (by
      intro b hb
      exact .inl (by simp only [diskFoot, List.mem_cons, List.mem_append, Option.mem_toList]; exact .inr (.inr (.inl hb))))
    exact e2.setCell _ _ _ _ (.inl (by simp [diskFoot]))
  · rcases hlies2 with h | h
    · exact .inl h.symm
    · right
      refine ⟨g, rfl, ?_⟩
      have := HSZ.out
      have := HT2.out.size
      have := hT3.size
      omega
end Go.Proofs.YtljgifbnmgpdbaaGreatDoor
