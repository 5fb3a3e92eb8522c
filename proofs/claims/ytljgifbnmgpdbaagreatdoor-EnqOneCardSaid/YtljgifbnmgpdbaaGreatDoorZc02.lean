/- Layer 5 (seg): what a row is in memory, and its small calls: Begin, End, Synced, Room, of, Left. (Here too: Layer 4 (disk): Create, All, Read, New. Rows of elements of several cells: an element's cells, an element that is stored, a row that is cut short. Plain lemmas; no program. Layer 4 (disk): the waits of a file are struck (slices.DeleteFunc over writes). Layer 4 (disk): slices.DeleteFunc over writes. Layer 4 (disk): lasts, Sync. Layer 4 (disk): Sync, New.) -/
import Derived.Test.YtljgifbnmgpdbaaGreatDoorZc01
import Derived.LaidEqlPtr
set_option linter.unusedSimpArgs false
set_option linter.unusedVariables false
set_option linter.unnecessarySimpa false
namespace Go.Proofs.YtljgifbnmgpdbaaGreatDoor
open Go Go.RowKit

theorem foot_grow {w : World} {d m : Nat} {wv wv' : Value} {D : DiskM} (h : wv'.ownBlock = wv.ownBlock ∨ ∃ b, wv'.ownBlock = some b ∧ w.heap.size ≤ b) {D' : DiskM} (hf : ∀ f ∈ D'.files, (∃ g ∈ D.files, g.blk = f.blk) ∨ w.heap.size ≤ f.blk) :
    ∀ b ∈ diskFoot d m wv' D', b ∈ diskFoot d m wv D ∨ w.heap.size ≤ b := by
  intro b hb
  simp only [diskFoot, List.mem_cons, List.mem_append, Option.mem_toList, List.mem_map] at hb ⊢
  rcases hb with rfl | rfl | hb | ⟨f, hf', rfl⟩
  · simp
  · simp
  · rcases h with h | ⟨c, hc, hge⟩
    · rw [h] at hb; simp [hb]
    · rw [hc] at hb; cases hb; exact .inr hge
  · rcases hf f hf' with ⟨g, hg, e⟩ | h
    · exact .inl (.inr (.inr (.inr ⟨g, hg, e⟩)))
    · exact .inr h

def noBytes : ByteArray := ⟨#[]⟩

def DiskM.create (D : DiskM) (name : ByteArray) (b : Nat) : DiskM := { D with files := D.files ++ [⟨name, b, noBytes, noBytes⟩] }

theorem DiskM.look_none {D : DiskM} {s : ByteArray} (h : D.look s = none) : s ∉ D.files.map (·.name) := by
  unfold DiskM.look at h
  rw [List.find?_eq_none] at h
  intro hm
  obtain ⟨f, hf, rfl⟩ := List.mem_map.1 hm
  simpa using h f hf

set_option maxRecDepth 100000 in
set_option maxHeartbeats 800000 in
theorem create_ok (w : World) (d m : Nat) (wv : Value) (D : DiskM) (h : DiskIn w d m wv D) (name : ByteArray) (hl : D.look name = none) :
    Calls Tryz.prog 123 #[.pointer (some ⟨d, 0, none⟩), .string name] w fun e w' => e = .returned (.int .i64 0) ∧
      DiskIn w' d m wv (D.create name w.heap.size) ∧ Touch [m] w w' := by
  obtain ⟨-, -, c2, -, -⟩ := h.cells
  have hlk := h.lookup name
  rw [hl] at hlk
  simp only [filePtr?] at hlk
  have hnot := DiskM.look_none hl
  have hTa : Touch [] w (w.alloc (.cells #[.string noBytes, .string noBytes] 268)) := (Touch.refl _ _).alloc _
  have ha := h.touch hTa (by simp)
  have hfk : (fileMap D).map (·.1) = D.files.map (·.name) := by simp [fileMap]
  obtain ⟨w1, hrun, hM, hT, hsz⟩ := run_mapUpdate_of keysS Tryz.underlying201 ha.map (by rw [hfk]; exact h.names) name (.pointer (some ⟨w.heap.size, 0, none⟩))
  have hupd : upd (fileMap D) name (.pointer (some ⟨w.heap.size, 0, none⟩)) = fileMap (D.create name w.heap.size) := by
    unfold upd
    rw [if_neg (by rw [hfk]; exact hnot)]
    simp [fileMap, DiskM.create, filePtr]
  rw [hupd] at hM
  have hap := h.apart
  have hlt := h.lt
  have hfin : DiskIn w1 d m wv (D.create name w.heap.size) := by
    have hmd : d ≠ m := h.apart_waits.1
    refine ⟨hT.heap ha.head (by simpa using hmd), hM, ?_, ?_, ?_, ?_, ?_, ?_⟩
    · intro f hf
      simp only [DiskM.create, List.mem_append, List.mem_singleton] at hf
      rcases hf with hf | rfl
      · exact hT.heap (ha.files f hf) (by simpa using (h.apart_file hf).2.1.symm)
      · exact hT.heap (heap_alloc_at w _) (by have := hlt m (by simp [diskFoot]); simp; omega)
    · exact ownsRow_other ha.waits fun b hb => hT.block b (ha.waits.lt b hb).2 (by simpa using (h.apart_waits.2 b hb).2)
    · simp only [DiskM.create, List.map_append, List.map_cons, List.map_nil]
      rw [List.nodup_append]
      refine ⟨h.names, by simp, ?_⟩
      intro a ha b hb
      simp at hb; subst hb
      intro e; exact hnot (e ▸ ha)
    · have hnew : w.heap.size ∉ diskFoot d m wv D := fun e => by have := hlt _ e; omega
      have e1 : diskFoot d m wv (D.create name w.heap.size) = diskFoot d m wv D ++ [w.heap.size] := by simp [diskFoot, DiskM.create]
      rw [e1, List.nodup_append]
      refine ⟨hap, by simp, ?_⟩
      intro a ha b hb
      simp at hb; subst hb
      intro e; exact hnew (e ▸ ha)
    · intro x hx
      obtain ⟨f, hf, e⟩ := h.held x hx
      exact ⟨f, List.mem_append_left _ hf, e⟩
    · have e1 : diskFoot d m wv (D.create name w.heap.size) = diskFoot d m wv D ++ [w.heap.size] := by simp [diskFoot, DiskM.create]
      rw [e1]
      intro b hb
      rcases List.mem_append.1 hb with hb | hb
      · exact h.low b hb
      · simp at hb; subst hb
        have h1 := h.low d (by simp [diskFoot])
        have h2 := hlt d (by simp [diskFoot])
        omega
  have HF := Lib.hid hfin
  have HT := Lib.hid ((hTa.nil (G := [m])).trans hT (by simp))
  have HD := Lib.hid h
  clear hfin hap hT hsz hM hnot hfk hupd ha hlt hTa h
  unfold strKey at hrun
  unfold noBytes at hrun
  go_enter Tryz.func123, Tryz.ntmps123
  go_wp2_with (first | (go_at_call 177; refine (bars_none _ d m wv D HD.out).mono ?_; rintro e w' ⟨rfl, rfl⟩) | (go_at_call 178; refine (done_ok _ d m wv D HD.out).mono ?_; rintro e w' ⟨rfl, rfl⟩))
  go_ret
  exact ⟨rfl, HF.out, HT.out⟩

set_option maxRecDepth 100000 in
set_option maxHeartbeats 800000 in
theorem all_ok (w : World) (d m : Nat) (wv : Value) (D : DiskM) (h : DiskIn w d m wv D) (name : ByteArray) (f : FileM) (hl : D.look name = some f) :
    Calls Tryz.prog 193 #[.pointer (some ⟨d, 0, none⟩), .string name] w fun e w' => e = .returned (.tuple #[.string f.now, .int .i64 0]) ∧ Touch [] w w' := by
  obtain ⟨hf, hname⟩ := DiskM.look_mem hl
  go_enter Tryz.func193, Tryz.ntmps193
  go_wp2_with fail
  refine (bars_one w d m wv D h name ⟨f, hl⟩).mono ?_
  rintro e w1 ⟨rfl, h1, hT1⟩
  obtain ⟨-, -, c2, -, -⟩ := h1.cells
  obtain ⟨f0, f1⟩ := h1.file hf
  have hlk := h1.lookup name
  rw [hl] at hlk
  simp only [filePtr?, filePtr] at hlk
  clear hname hl h h1
  go_wp2_with fail
  go_ret2
  exact ⟨rfl, hT1⟩

set_option maxRecDepth 100000 in
set_option maxHeartbeats 800000 in
theorem read_ok (w : World) (d m : Nat) (wv : Value) (D : DiskM) (h : DiskIn w d m wv D) (name : ByteArray) (f : FileM) (hl : D.look name = some f) (at_ n : Nat) (ha : at_ + n ≤ f.now.size) (hs : f.now.size ≤ 16777216) :
    Calls Tryz.prog 138 #[.pointer (some ⟨d, 0, none⟩), .string name, .int .i64 at_, .int .i64 n] w fun e w' =>
      e = .returned (.tuple #[.string (f.now.extract at_ (at_ + n)), .int .i64 0]) ∧ Touch [] w w' := by
  go_enter Tryz.func138, Tryz.ntmps138
  go_wp2_with fail
  refine (all_ok w d m wv D h name f hl).mono ?_
  rintro e w1 ⟨rfl, hT1⟩
  have B1 : (at_ : Int) + (n : Int) ≤ f.now.size := by omega
  have B2 : (f.now.size : Int) ≤ 16777216 := by omega
  have B3 : (at_ : Int) ≤ f.now.size := by omega
  have B4 : (n : Int) ≤ f.now.size - at_ := by omega
  clear ha hs
  go_wp2_with fail
  go_ret2
  exact ⟨rfl, hT1⟩
end Go.Proofs.YtljgifbnmgpdbaaGreatDoor

namespace Go.Proofs.YtljgifbnmgpdbaaGreatDoor
open Go Go.RowKit

theorem flat_get {α : Type} {f : α → List Value} {s : Nat} (hf : ∀ x, (f x).length = s) : ∀ (l : List α) (j i : Nat) (hj : j < l.length), i < s → (l.flatMap f)[j * s + i]? = (f l[j])[i]?
  | [], j, i, hj, _ => by simp at hj
  | x :: l, 0, i, _, hi => by
    simp only [List.flatMap_cons, Nat.zero_mul, Nat.zero_add, List.getElem_cons_zero]
    rw [List.getElem?_append_left (by rw [hf]; exact hi)]
  | x :: l, j + 1, i, hj, hi => by
    simp only [List.flatMap_cons, List.getElem_cons_succ]
    rw [List.getElem?_append_right (by rw [hf, Nat.succ_mul]; omega)]
    have := flat_get hf l j i (by simpa using hj) hi
    rw [← this, hf]
    congr 1
    rw [Nat.succ_mul]; omega

theorem flat_length {α : Type} {f : α → List Value} {s : Nat} (hf : ∀ x, (f x).length = s) (l : List α) : (l.flatMap f).length = l.length * s := by
  induction l with
  | nil => simp
  | cons x l ih => simp only [List.flatMap_cons, List.length_append, hf, ih, List.length_cons, Nat.succ_mul]; omega

theorem row_cell {w : World} {e : TypeId} {s g n cap : Nat} {α : Type} {f : α → List Value} (hf : ∀ x, (f x).length = s) {l : List α} (h : w.ownsRow 0 e s (.slice (some ⟨g, 0, none⟩) n cap) n (l.flatMap f)) {j : Nat} (hj : j < l.length) {i : Nat} (hi : i < s) {v : Value} (hv : (f l[j])[i]? = some v) :
    w.cell? ⟨g, j * s + i, none⟩ = some v := by
  have := h.cells (g := g) rfl (j * s + i) v (by rw [flat_get hf l j i hj hi]; exact hv)
  rwa [addr_add, Nat.zero_add] at this

theorem row_cell? {w : World} {e : TypeId} {s g n cap : Nat} {α : Type} {f : α → List Value} (hf : ∀ x, (f x).length = s) {l : List α} (h : w.ownsRow 0 e s (.slice (some ⟨g, 0, none⟩) n cap) n (l.flatMap f)) {j : Nat} {x : α} (hj : l[j]? = some x) {i : Nat} (hi : i < s) {v : Value} (hv : (f x)[i]? = some v) :
    w.cell? ⟨g, j * s + i, none⟩ = some v := by
  obtain ⟨hlt, rfl⟩ := List.getElem?_eq_some_iff.1 hj
  exact row_cell hf h hlt hi hv

theorem row_free {w : World} {e : TypeId} {s g n cap : Nat} {xs : List Value} (h : w.ownsRow 0 e s (.slice (some ⟨g, 0, none⟩) n cap) n xs) (i : Nat) : w.frozen? ⟨g, i, none⟩ = false := by
  rcases h.2 with ⟨h1, _⟩ | ⟨g', cap', cur, hv, hb, hg, _⟩
  · cases h1
  · cases hv; exact free_of hg i

theorem row_heap {w : World} {e : TypeId} {s g n cap : Nat} {xs : List Value} (h : w.ownsRow 0 e s (.slice (some ⟨g, 0, none⟩) n cap) n xs) : ∃ cur, w.heap[g]? = some (.cells cur e (0, 0)) ∧ n ≤ cap ∧ cap ≤ maxLen ∧ cur.size = cap * s ∧ cur.toList.take (n * s) = xs := by
  rcases h.2 with ⟨h1, _⟩ | ⟨g', cap', cur, hv, hb, hg, h1, h2, h3, h4⟩
  · cases h1
  · cases hv; exact ⟨cur, hg, h1, h2, h3, h4⟩

theorem row_of_heap {w : World} {e : TypeId} {s g n cap : Nat} {xs : List Value} {cur : Array Value} (hg : w.heap[g]? = some (.cells cur e (0, 0))) (h1 : n ≤ cap) (h2 : cap ≤ maxLen) (h3 : cur.size = cap * s) (h4 : cur.toList.take (n * s) = xs) :
    w.ownsRow 0 e s (.slice (some ⟨g, 0, none⟩) n cap) n xs := by
  refine ⟨?_, .inr ⟨g, cap, cur, rfl, Nat.zero_le _, hg, h1, h2, h3, h4⟩⟩
  rw [← h4, List.length_take, Array.length_toList, h3]
  exact Nat.min_eq_left (Nat.mul_le_mul_right _ h1)

theorem take_set_list {α : Type} (l : List α) (n i : Nat) (x : α) : (l.set i x).take n = (l.take n).set i x := by
  apply List.ext_getElem?
  intro k
  simp only [List.getElem?_take, List.getElem?_set, List.length_take]
  by_cases hk : k < n
  · by_cases hi : i = k
    · subst hi; by_cases h3 : i < l.length
      · have : i < min n l.length := by omega
        simp [hk, h3, this]
      · have : ¬ i < min n l.length := by omega
        simp [hk, h3]; omega
    · simp [hk, hi]
  · by_cases hi : i = k
    · subst hi; simp [hk]; omega
    · simp [hk, hi]

theorem row_set {w : World} {e : TypeId} {s g n cap : Nat} {xs : List Value} (h : w.ownsRow 0 e s (.slice (some ⟨g, 0, none⟩) n cap) n xs) (i : Nat) (v : Value) :
    (w.setCell ⟨g, i, none⟩ v).ownsRow 0 e s (.slice (some ⟨g, 0, none⟩) n cap) n (xs.set i v) := by
  obtain ⟨cur, hg, h1, h2, h3, h4⟩ := row_heap h
  refine row_of_heap (heap_setCell_at hg i v) h1 h2 (by simpa using h3) ?_
  rw [Array.toList_setIfInBounds, take_set_list, h4]

theorem flat_set3 {α : Type} {f : α → List Value} (hf : ∀ x, (f x).length = 3) : ∀ (l : List α) (j : Nat) (x : α) (a b c : Value), j < l.length → f x = [a, b, c] → (((l.flatMap f).set (j * 3) a).set (j * 3 + 1) b).set (j * 3 + 2) c = (l.set j x).flatMap f
  | [], j, _, _, _, _, hj, _ => by simp at hj
  | y :: l, 0, x, a, b, c, _, hx => by
    obtain ⟨p, q, r, hy⟩ : ∃ p q r, f y = [p, q, r] := by
      have := hf y
      match h : f y, this with
      | [p, q, r], _ => exact ⟨p, q, r, rfl⟩
    simp [hy, hx]
  | y :: l, j + 1, x, a, b, c, hj, hx => by
    obtain ⟨p, q, r, hy⟩ : ∃ p q r, f y = [p, q, r] := by
      have := hf y
      match h : f y, this with
      | [p, q, r], _ => exact ⟨p, q, r, rfl⟩
    have ih := flat_set3 hf l j x a b c (by simpa using hj) hx
    have e0 : (j + 1) * 3 = j * 3 + 3 := by omega
    simp only [List.flatMap_cons, hy, e0, List.cons_append, List.nil_append, List.set_cons_succ]
    rw [ih]

theorem row_set3 {w : World} {e : TypeId} {g n cap : Nat} {α : Type} {f : α → List Value} (hf : ∀ x, (f x).length = 3) {l : List α} (h : w.ownsRow 0 e 3 (.slice (some ⟨g, 0, none⟩) n cap) n (l.flatMap f)) {j : Nat} (hj : j < l.length) (x : α) {a b c : Value} (hx : f x = [a, b, c]) :
    (((w.setCell ⟨g, j * 3, none⟩ a).setCell ⟨g, j * 3 + 1, none⟩ b).setCell ⟨g, j * 3 + 2, none⟩ c).ownsRow 0 e 3 (.slice (some ⟨g, 0, none⟩) n cap) n ((l.set j x).flatMap f) := by
  have := row_set (row_set (row_set h (j * 3) a) (j * 3 + 1) b) (j * 3 + 2) c
  rwa [flat_set3 hf l j x a b c hj hx] at this

/-- A row cut short. -/
theorem row_short {w : World} {e : TypeId} {s g n cap : Nat} {xs : List Value} (h : w.ownsRow 0 e s (.slice (some ⟨g, 0, none⟩) n cap) n xs) {k : Nat} (hk : k ≤ n) : w.ownsRow 0 e s (.slice (some ⟨g, 0, none⟩) k cap) k (xs.take (k * s)) := by
  obtain ⟨cur, hg, h1, h2, h3, h4⟩ := row_heap h
  refine row_of_heap hg (Nat.le_trans hk h1) h2 h3 ?_
  rw [← h4, List.take_take, Nat.min_eq_left (Nat.mul_le_mul_right _ hk)]

theorem flat_take {α : Type} {f : α → List Value} {s : Nat} (hf : ∀ x, (f x).length = s) (l : List α) (k : Nat) : (l.flatMap f).take (k * s) = (l.take k).flatMap f := by
  induction l generalizing k with
  | nil => simp
  | cons x l ih =>
    cases k with
    | zero => simp
    | succ k =>
      simp only [List.flatMap_cons, List.take_succ_cons]
      rw [show (k + 1) * s = (f x).length + k * s from by rw [hf, Nat.succ_mul]; omega, List.take_length_add_append, ih]

/-- clear(s[i:]): the run; the elements ahead stay. -/
theorem run_clear_row {P : Program} {w : World} {t e ty : TypeId} {i : TypeInfo} {z : Value} (ht : P.underlying t = some (.slice e)) (hi : P.info? e = some i) (hz : i.zero = some z) {s : Nat} (hs : i.size = s) (hzs : z.cells.size = s) (hz1 : ∀ v ∈ z.cells.toList, v.oneCell' = true) {g n cap : Nat} {xs : List Value}
    (h : w.ownsRow 0 e s (.slice (some ⟨g, 0, none⟩) n cap) n xs) {k : Nat} (hk : k ≤ n) (c : Nat) :
    ∃ w', (Builtin.clear_ #[t] ty #[.slice (some ⟨g, k * s, none⟩) (n - k) c]).run P w = .ok (.tuple #[]) w' ∧ w'.ownsRow 0 e s (.slice (some ⟨g, 0, none⟩) k cap) k (xs.take (k * s)) ∧ Touch [g] w w' := by
  obtain ⟨cur, hg, h1, h2, h3, h4⟩ := row_heap h
  by_cases hkn : n - k = 0
  · refine ⟨w, ?_, row_short h hk, Touch.refl _ _⟩
    simp [Builtin.clear_, run_underlying ht, hkn]
  · have hzl : (Builtin.zeroCells z.cells (n - k)).toList.length = (n - k) * s := by rw [Array.length_toList, size_zeroCells, hzs]
    have hle : k * s + (n - k) * s ≤ cur.size := by
      rw [h3, ← Nat.add_mul]; exact Nat.mul_le_mul_right _ (by omega)
    have h11 : ∀ v ∈ (Builtin.zeroCells z.cells (n - k)).toList, v.oneCell' = true := by
      intro v hv
      simp only [Builtin.zeroCells, Array.toList_map, List.mem_map] at hv
      obtain ⟨j, hj, rfl⟩ := hv
      simp only [Array.toList_range, List.mem_range] at hj
      have hpos : 0 < z.cells.size := by
        rcases Nat.eq_zero_or_pos z.cells.size with h0 | h0
        · rw [h0] at hj; simp at hj
        · exact h0
      have hlt : j % z.cells.size < z.cells.size := Nat.mod_lt _ hpos
      rw [getElem!_pos z.cells _ hlt]
      exact hz1 _ (by simp)
    have hst := run_storeCells_at P g (k * s) e (Builtin.zeroCells z.cells (n - k)).toList 0 cur w hg (by rw [hzl]; omega) h11
    simp only [Nat.add_zero] at hst
    refine ⟨_, ?_, row_of_heap (setRow_heap w g cur (cur.toList.take (k * s) ++ (Builtin.zeroCells z.cells (n - k)).toList ++ cur.toList.drop (k * s + (Builtin.zeroCells z.cells (n - k)).toList.length)).toArray e (0, 0) hg) (by omega) h2 ?_ ?_, ⟨rfl, rfl, rfl, by simp [World.setRow], fun k' _ hk' => setRow_other w g k' _ (by simpa using hk')⟩⟩
    · have hne : ∃ m, n - k = m + 1 := ⟨n - k - 1, by omega⟩
      obtain ⟨m, hm⟩ := hne
      rw [hm] at hst ⊢
      simp [Builtin.clear_, run_underlying ht, zeroValue, typeInfo, hi, hz, hst, Result.andThen]
    · simp [hzl]; omega
    · rw [← h4, List.take_take, Nat.min_eq_left (Nat.mul_le_mul_right _ hk)]
      have hl : k * s = (cur.toList.take (k * s)).length := by rw [List.length_take, Array.length_toList]; omega
      rw [List.append_assoc]
      conv => lhs; arg 1; rw [hl]
      exact List.take_left
end Go.Proofs.YtljgifbnmgpdbaaGreatDoor

namespace Go.Proofs.YtljgifbnmgpdbaaGreatDoor
open Go Go.RowKit

theorem wait3 (x : WaitM) : (waitCells x).length = 3 := rfl

/-- Block b holds a file. -/
def FileAt (w : World) (b : Nat) : Prop := ∃ c, w.heap[b]? = some (.cells c 268 (0, 0))
theorem FileAt.touch {w w' : World} {b : Nat} {F : List Nat} (h : FileAt w b) (hT : Touch F w w') (hF : b ∉ F) : FileAt w' b := by
  obtain ⟨c, hc⟩ := h; exact ⟨c, hT.heap hc hF⟩

theorem info_file : (Tryz.prog.info? 268).map (fun i => i.size) = some 2 := by kernel_rfl

theorem eq_file {w : World} {a b : Nat} (ha : FileAt w a) (hb : FileAt w b) : (binOp .eql 263 (.pointer (some ⟨a, 0, none⟩)) (.pointer (some ⟨b, 0, none⟩))).run Tryz.prog w = .ok (.bool (decide (a = b))) w := by
  obtain ⟨i, hi, hs⟩ := Option.map_eq_some_iff.1 info_file
  obtain ⟨ca, ha⟩ := ha
  obtain ⟨cb, hb⟩ := hb
  by_cases h : a = b
  · subst h
    rw [run_eql_ptr_same w _ Tryz.underlying263 hi]; simp
  · rw [run_eql_ptr_other w Tryz.underlying263 hi (by omega) (by simpa using h) ha hb]; simp [h]

set_option maxRecDepth 100000 in
set_option maxHeartbeats 800000 in
theorem lasts1_ok (w : World) (x : WaitM) (b c : Nat) (hc : w.cell? ⟨c, 0, none⟩ = some (.pointer (some ⟨b, 0, none⟩))) (hx : FileAt w x.blk) (hb : FileAt w b) :
    Calls Tryz.prog 246 #[.agg (waitCells x).toArray, .pointer (some ⟨c, 0, none⟩)] w fun e w' => e = .returned (.bool (decide (x.blk = b))) ∧ Touch [] w w' := by
  have hT : Touch [] w (w.alloc (.cells #[.pointer (some ⟨x.blk, 0, none⟩), .int .i64 x.at_, .string x.s] 271)) := (Touch.refl _ _).alloc _
  have hc2 := hT.cell hc (by simp)
  have heq := eq_file (hx.touch hT (by simp)) (hb.touch hT (by simp))
  have HT := Lib.hid hT
  clear hT hx hb
  unfold waitCells
  go_enter Tryz.func246, Tryz.ntmps246
  go_wp2
  go_ret
  exact ⟨rfl, HT.out⟩

set_option maxRecDepth 100000 in
set_option maxHeartbeats 800000 in
theorem indexW_ok (w : World) (l : List WaitM) (g cap b c : Nat) (ho : w.ownsRow 0 271 3 (.slice (some ⟨g, 0, none⟩) l.length cap) l.length (l.flatMap waitCells)) (hl : l.length < 10000000) (hc : w.cell? ⟨c, 0, none⟩ = some (.pointer (some ⟨b, 0, none⟩)))
    (hf : ∀ x ∈ l, FileAt w x.blk) (hb : FileAt w b) :
    Calls Tryz.prog 267 #[.slice (some ⟨g, 0, none⟩) l.length cap, .func (.func 246) #[] #[.pointer (some ⟨c, 0, none⟩)]] w
      fun e w' => ((e = .returned (.int .i64 (-1)) ∧ ∀ x ∈ l, x.blk ≠ b) ∨ ∃ (k : Nat) (hk : k < l.length), e = .returned (.int .i64 k) ∧ l[k].blk = b ∧ ∀ x ∈ l.take k, x.blk ≠ b) ∧ Touch [] w w' := by
  have HO := Lib.hid ho
  have HF := Lib.hid (And.intro hf hb)
  clear ho hf hb
  go_enter Tryz.func267, Tryz.ntmps267
  go_wp2
  go_loopg [8] l.length (fun k i wr => ∃ j : Nat, j + k = l.length ∧ i = .int .i64 j ∧ Touch [] w wr ∧ ∀ x ∈ l.take j, x.blk ≠ b)
  case atStart => exact ⟨0, by omega, rfl, Touch.refl _ _, by simp⟩
  case round =>
    obtain ⟨j, hj, rfl, hT, hno⟩ := hrel
    have HN := Lib.hid hno
    have HJ := Lib.hid hj
    clear hno hj
    by_cases hlt : j < l.length
    · have c0 := hT.cell (row_cell wait3 HO.out hlt (i := 0) (by omega) rfl) (by simp)
      have c1 := hT.cell (row_cell wait3 HO.out hlt (i := 1) (by omega) rfl) (by simp)
      have c2 := hT.cell (row_cell wait3 HO.out hlt (i := 2) (by omega) rfl) (by simp)
      rw [Nat.add_zero] at c0
      have hc' := hT.cell hc (by simp)
      have hfx := (HF.out.1 _ (List.getElem_mem hlt)).touch hT (by simp)
      have hfb := HF.out.2.touch hT (by simp)
      have HX := Lib.hid (List.take_succ_eq_append_getElem hlt)
      have HE := Lib.hid (rfl : l[j] = l[j])
      generalize hxe : l[j] = x at c0 c1 c2 hfx HX
      have HXE := Lib.hid hxe
      clear hxe HE
      have Hfx := Lib.hid hfx
      have Hfb := Lib.hid hfb
      clear hfx hfb
      go_wp2_with fail
      refine (lasts1_ok wr x b c hc' Hfx.out Hfb.out).mono ?_
      rintro e w1 ⟨rfl, hT1⟩
      have hT2 := hT.trans' hT1
      clear c0 c1 c2 hc'
      by_cases hxb : x.blk = b
      · have hd : decide (x.blk = b) = true := by simpa using hxb
        have HB := Lib.hid hxb
        clear hxb
        go_wp2
        go_ret
        refine ⟨.inr ⟨j, hlt, rfl, ?_, HN.out⟩, hT2⟩
        rw [HXE.out]; exact HB.out
      · have hd : decide (x.blk = b) = false := by simpa using hxb
        go_wp2
        go_roundg (l.length - (j + 1))
        case measure => have := HJ.out; omega
        case rel =>
          refine ⟨j + 1, by omega, by go_num, hT2, ?_⟩
          rw [HX.out]
          intro y hy
          rcases List.mem_append.1 hy with hy | hy
          · exact HN.out y hy
          · simp at hy; subst hy; exact hxb
    · have hjl : j = l.length := by have := HJ.out; omega
      have HJL := Lib.hid hjl
      clear hjl
      go_wp2
      go_ret
      refine ⟨.inl ⟨rfl, ?_⟩, hT⟩
      have := HN.out
      rw [HJL.out, List.take_length] at this
      exact this
end Go.Proofs.YtljgifbnmgpdbaaGreatDoor

namespace Go.Proofs.YtljgifbnmgpdbaaGreatDoor
open Go Go.RowKit

theorem zero_write : ∀ v ∈ (Value.agg #[.pointer none, .int .i64 0, .string ⟨#[]⟩]).cells.toList, v.oneCell' = true := by simp [Value.cells, Value.oneCell']

set_option maxRecDepth 100000 in
set_option maxHeartbeats 1600000 in
theorem deleteW_ok (w : World) (l : List WaitM) (g cap b c : Nat) (ho : w.ownsRow 0 271 3 (.slice (some ⟨g, 0, none⟩) l.length cap) l.length (l.flatMap waitCells)) (hl : l.length < 10000000) (hc : w.cell? ⟨c, 0, none⟩ = some (.pointer (some ⟨b, 0, none⟩)))
    (hf : ∀ x ∈ l, FileAt w x.blk ∧ x.blk ≠ g) (hb : FileAt w b) (hcg : c ≠ g) (hbg : b ≠ g) :
    Calls Tryz.prog 233 #[.slice (some ⟨g, 0, none⟩) l.length cap, .func (.func 246) #[] #[.pointer (some ⟨c, 0, none⟩)]] w
      fun e w' => e = .returned (.slice (some ⟨g, 0, none⟩) (l.filter fun x => x.blk ≠ b).length cap) ∧
        w'.ownsRow 0 271 3 (.slice (some ⟨g, 0, none⟩) (l.filter fun x => x.blk ≠ b).length cap) (l.filter fun x => x.blk ≠ b).length ((l.filter fun x => x.blk ≠ b).flatMap waitCells) ∧ Touch [g] w w' := by
  have HO := Lib.hid ho
  have HF := Lib.hid (And.intro hf hb)
  have hgl := (ho.lt g rfl).2
  have hcl := World.block_lt_of_cell? w _ hc
  have hcapl : l.length ≤ cap := (row_heap ho).choose_spec.2.1
  obtain ⟨iw, hiw, hz0, hz1, hz2⟩ := info_parts info_write
  have HI := Lib.hid (And.intro hiw (And.intro hz0 hz1))
  clear ho hf hb hiw hz0 hz1 hz2
  go_enter Tryz.func233, Tryz.ntmps233
  go_wp2_with fail
  refine (indexW_ok w l g cap b c HO.out hl hc (fun x hx => (HF.out.1 x hx).1) HF.out.2).mono ?_
  rintro e w1 ⟨he, hT1⟩
  rcases he with ⟨rfl, hno⟩ | ⟨k0, hk0, rfl, hkb, hbefore⟩
  · have hfil : l.filter (fun x => x.blk ≠ b) = l := by rw [List.filter_eq_self]; intro x hx; simpa using hno x hx
    have HFI := Lib.hid hfil
    have HT := Lib.hid hT1
    clear hno hfil hT1
    go_wp2
    go_ret
    rw [HFI.out]
    exact ⟨rfl, ownsRow_other HO.out (fun b' hb' => HT.out.block b' (HO.out.lt b' hb').2 (by simp)), HT.out.nil⟩
  · have HK := Lib.hid (And.intro hkb hbefore)
    clear hkb hbefore
    have hne1 : ((k0 : Int) == -1) = false := by simp; try omega
    go_wp2_with fail
    go_loopg [5, 6] (l.length - (k0 + 1)) (fun k vi vj wr => ∃ (kept mid : List WaitM) (j : Nat), j + k = l.length ∧ j ≤ l.length ∧ vj = .int .i64 j ∧ vi = .int .i64 kept.length ∧ kept = (l.take j).filter (fun x => x.blk ≠ b) ∧ kept.length + mid.length = j ∧ 0 < mid.length ∧
      wr.ownsRow 0 271 3 (.slice (some ⟨g, 0, none⟩) l.length cap) l.length ((kept ++ mid ++ l.drop j).flatMap waitCells) ∧ Touch [g] w wr)
    case atStart =>
      refine ⟨l.take k0, [l[k0]], k0 + 1, by omega, by omega, by go_num, ?_, ?_, ?_, by simp, ?_, hT1.nil⟩
      · rw [List.length_take, Nat.min_eq_left (by omega)]
      · rw [List.take_succ_eq_append_getElem hk0, List.filter_append]
        have e1 : (l.take k0).filter (fun x => x.blk ≠ b) = l.take k0 := by rw [List.filter_eq_self]; intro x hx; simpa using HK.out.2 x hx
        have e2 : [l[k0]].filter (fun x => x.blk ≠ b) = [] := by simp [HK.out.1]
        rw [e1, e2, List.append_nil]
      · simp; omega
      · have e3 : l.take k0 ++ [l[k0]] ++ l.drop (k0 + 1) = l := by
          rw [← List.take_succ_eq_append_getElem hk0, List.take_append_drop]
        rw [e3]
        exact ownsRow_other HO.out (fun b' hb' => hT1.block b' (HO.out.lt b' hb').2 (by simp))
    case round =>
      obtain ⟨kept, mid, j, hj, hjl, rfl, rfl, hkept, hkm, hmid, hown, hT⟩ := hrel
      have HJ := Lib.hid (And.intro hj (And.intro hkept hkm))
      have HOW := Lib.hid hown
      clear hj hkept hkm hown
      have hglr : g < wr.heap.size := Nat.lt_of_lt_of_le hgl hT.size
      have hclr : c < wr.heap.size := Nat.lt_of_lt_of_le hcl hT.size
      by_cases hlt : j < l.length
      · have hget : (kept ++ mid ++ l.drop j)[j]? = some l[j] := by
          have := HJ.out.2.2
          rw [List.getElem?_append_right (by simp; omega)]
          simp only [List.length_append, this, Nat.sub_self, List.getElem?_drop, Nat.add_zero]
          exact List.getElem?_eq_getElem hlt
        have c0 := row_cell? wait3 HOW.out hget (i := 0) (by omega) rfl
        have c1 := row_cell? wait3 HOW.out hget (i := 1) (by omega) rfl
        have c2 := row_cell? wait3 HOW.out hget (i := 2) (by omega) rfl
        rw [Nat.add_zero] at c0
        clear hget
        have hfx := (HF.out.1 _ (List.getElem_mem hlt)).1.touch hT (by simpa using (HF.out.1 _ (List.getElem_mem hlt)).2)
        have hfb := HF.out.2.touch hT (by simpa using hbg)
        have hc' := hT.cell hc (by simpa using hcg)
        have HTK := Lib.hid (List.take_succ_eq_append_getElem hlt)
        have HDR := Lib.hid (List.drop_eq_getElem_cons hlt)
        generalize hxe : l[j] = x at c0 c1 c2 hfx HTK HDR
        have HXE := Lib.hid hxe
        clear hxe
        have hTa : Touch [] wr (wr.alloc (.cells #[.pointer (some ⟨x.blk, 0, none⟩), .int .i64 x.at_, .string x.s] 271)) := (Touch.refl _ _).alloc _
        have Hfx := Lib.hid (hfx.touch hTa (by simp))
        have Hfb := Lib.hid (hfb.touch hTa (by simp))
        have Hc := Lib.hid (hTa.cell hc' (by simp))
        have HTA := Lib.hid hTa
        clear hfx hfb hc' hTa
        go_wp2_with fail
        refine (lasts1_ok _ x b c Hc.out Hfx.out Hfb.out).mono ?_
        rintro e w2 ⟨rfl, hT1⟩
        have hT2 : Touch [] wr w2 := HTA.out.trans' hT1
        have n0 := hT1.cell (cell_of (heap_alloc_at wr (.cells #[.pointer (some ⟨x.blk, 0, none⟩), .int .i64 x.at_, .string x.s] 271)) 0 _ rfl) (by simp)
        have n1 := hT1.cell (cell_of (heap_alloc_at wr (.cells #[.pointer (some ⟨x.blk, 0, none⟩), .int .i64 x.at_, .string x.s] 271)) 1 _ rfl) (by simp)
        have n2 := hT1.cell (cell_of (heap_alloc_at wr (.cells #[.pointer (some ⟨x.blk, 0, none⟩), .int .i64 x.at_, .string x.s] 271)) 2 _ rfl) (by simp)
        have hown2 := ownsRow_other HOW.out (fun b' hb' => hT2.block b' (HOW.out.lt b' hb').2 (by simp))
        have HO2 := Lib.hid hown2
        have HT2 := Lib.hid (hT.trans (G := []) hT2 (by simp))
        clear c0 c1 c2 hT hT1 hT2
        simp only [List.getElem_toArray, List.getElem_cons_zero, List.getElem_cons_succ] at n0 n1 n2
        by_cases hxb : x.blk = b
        · have hd : decide (x.blk = b) = true := by simpa using hxb
          have HB := Lib.hid hxb
          clear hxb hown2
          go_wp2_with fail
          go_roundg (l.length - (j + 1))
          case measure => have := HJ.out; omega
          case rel =>
            obtain ⟨h1, h2, h3⟩ := HJ.out
            refine ⟨kept, mid ++ [x], j + 1, by omega, by omega, by go_num, rfl, ?_, by simp; omega, by simp, ?_, HT2.out⟩
            · rw [HTK.out, List.filter_append, ← h2]
              have : [x].filter (fun x => x.blk ≠ b) = [] := by simp [HB.out]
              rw [this, List.append_nil]
            · have := HO2.out
              rw [HDR.out] at this
              simpa using this
        · have hd : decide (x.blk = b) = false := by simpa using hxb
          obtain ⟨y, mid', hmm⟩ : ∃ y mid', mid = y :: mid' := by
            cases mid with
            | nil => simp at hmid
            | cons y m => exact ⟨y, m, rfl⟩
          have hgk : (kept ++ mid ++ l.drop j)[kept.length]? = some y := by
            rw [hmm, List.append_assoc, List.getElem?_append_right (Nat.le_refl _)]
            simp
          have k0' := row_cell? wait3 hown2 hgk (i := 0) (by omega) rfl
          have k1' := row_cell? wait3 hown2 hgk (i := 1) (by omega) rfl
          have k2' := row_cell? wait3 hown2 hgk (i := 2) (by omega) rfl
          rw [Nat.add_zero] at k0'
          have f0 := row_free hown2 (kept.length * 3)
          have f1 := row_free hown2 (kept.length * 3 + 1)
          have f2 := row_free hown2 (kept.length * 3 + 2)
          have hkl : (kept.length : Int) < l.length := by have := HJ.out.2.2; omega
          have HM := Lib.hid hmm
          have HXB := Lib.hid hxb
          have hkl2 : kept.length < l.length := by omega
          clear hmm hgk hown2 hxb hmid
          go_wp2_with fail
          go_roundg (l.length - (j + 1))
          case measure => have := HJ.out; omega
          case rel =>
            obtain ⟨h1, h2, h3⟩ := HJ.out
            refine ⟨kept ++ [x], mid' ++ [x], j + 1, by omega, by omega, by go_num, ?_, ?_, ?_, by simp, ?_, ?_⟩
            · simp
            · rw [HTK.out, List.filter_append, ← h2]
              have : [x].filter (fun x => x.blk ≠ b) = [x] := by simp [HXB.out]
              rw [this]
            · have := congrArg List.length HM.out
              simp at this ⊢; omega
            · have h7 := row_set3 wait3 HO2.out (j := kept.length) (by have := congrArg List.length HM.out; simp at this ⊢; omega) x rfl
              have e5 : (kept ++ mid ++ l.drop j).set kept.length x = kept ++ [x] ++ (mid' ++ [x]) ++ l.drop (j + 1) := by
                rw [HM.out, HDR.out, List.append_assoc, List.set_append_right _ _ (Nat.le_refl _)]
                simp
              rw [e5] at h7
              exact h7
            · exact ((HT2.out.setCell _ _ _ _ (by simp)).setCell _ _ _ _ (by simp)).setCell _ _ _ _ (by simp)
      · have hjj : j = l.length := by omega
        subst hjj
        have hown := HOW.out
        rw [List.drop_length, List.append_nil] at hown
        have hk1 : kept.length ≤ l.length := by have := HJ.out.2.2; omega
        obtain ⟨w2, hclr2, hown2, hT2⟩ := run_clear_row (P := Tryz.prog) (ty := 0) Tryz.underlying202 HI.out.1 HI.out.2.1 HI.out.2.2 rfl zero_write hown hk1 (cap - kept.length)
        rw [flat_take wait3, List.take_left] at hown2
        have hkf : kept = l.filter (fun x => x.blk ≠ b) := by have := HJ.out.2.1; rwa [List.take_length] at this
        have hkl : kept.length < cap := by have := HJ.out.2.2; omega
        have hcut := run_cut_from (P := Tryz.prog) Tryz.underlying202 HI.out.1 HI.out.2.2 wr g 0 l.length cap kept.length hk1 hkl .i64
        simp only [Nat.zero_add] at hcut
        have hcut2 := run_cut_to (P := Tryz.prog) Tryz.underlying202 HI.out.1 w2 (some ⟨g, 0, none⟩) l.length cap kept.length (by omega) .i64
        have HC := Lib.hid hclr2
        have HFIN := Lib.hid (And.intro hown2 (hT.trans' hT2))
        have HKF := Lib.hid hkf
        clear hown hown2 hT2 hkf hclr2 hT
        go_wp2_with ((refine wpList_clear_run rfl _ _ rfl rfl HC.out ?_))
        go_ret
        rw [← HKF.out]
        exact ⟨rfl, HFIN.out⟩
end Go.Proofs.YtljgifbnmgpdbaaGreatDoor

namespace Go.Proofs.YtljgifbnmgpdbaaGreatDoor
open Go Go.RowKit

def DiskM.last1 (D : DiskM) (f : FileM) : DiskM := { D with files := D.files.map (fun g => if g.blk = f.blk then { g with image := g.now } else g), waits := D.waits.filter fun x => x.blk ≠ f.blk }
def DiskM.lastOf (D : DiskM) (s : ByteArray) : DiskM := match D.look s with
  | some f => D.last1 f
  | none => D
def DiskM.lasts (D : DiskM) (ss : List ByteArray) : DiskM := ss.foldl DiskM.lastOf D

set_option maxRecDepth 100000 in
set_option maxHeartbeats 800000 in
theorem indexW_nil (w : World) (fv : Value) :
    Calls Tryz.prog 267 #[.slice none 0 0, fv] w fun e w' => e = .returned (.int .i64 (-1)) ∧ w = w' := by
  go_enter Tryz.func267, Tryz.ntmps267
  go_wp2
  go_loopg [8] 0 (fun k i wr => i = .int .i64 0 ∧ w = wr)
  case atStart => exact ⟨rfl, rfl⟩
  case round =>
    obtain ⟨rfl, rfl⟩ := hrel
    go_wp2
    go_ret
    exact ⟨rfl, rfl⟩

set_option maxRecDepth 100000 in
set_option maxHeartbeats 800000 in
theorem deleteW_nil (w : World) (fv : Value) :
    Calls Tryz.prog 233 #[.slice none 0 0, fv] w fun e w' => e = .returned (.slice none 0 0) ∧ w = w' := by
  go_enter Tryz.func233, Tryz.ntmps233
  go_wp2_with (go_at_call 267; refine (indexW_nil _ _).mono ?_; rintro e w' ⟨rfl, rfl⟩)
  go_ret
  exact ⟨rfl, rfl⟩

/-- The waits of a disk, struck. -/
theorem deleteD_ok (w : World) (d m : Nat) (wv : Value) (D : DiskM) (h : DiskIn w d m wv D) (c : Nat) (f : FileM) (hf : f ∈ D.files) (hc : w.cell? ⟨c, 0, none⟩ = some (.pointer (some ⟨f.blk, 0, none⟩))) (hcn : c ∉ diskFoot d m wv D) (hl : D.waits.length < 10000000) :
    Calls Tryz.prog 233 #[wv, .func (.func 246) #[] #[.pointer (some ⟨c, 0, none⟩)]] w
      fun e w' => ∃ a n cp, e = .returned (.slice a n cp) ∧ w.grownBy w' wv.ownBlock ∧ w'.ownsRow 0 271 3 (.slice a n cp) (D.waits.filter fun x => x.blk ≠ f.blk).length ((D.waits.filter fun x => x.blk ≠ f.blk).flatMap waitCells) ∧ (Value.slice a n cp).ownBlock = wv.ownBlock := by
  have hw := h.waits
  rcases hw.2 with ⟨rfl, h0⟩ | ⟨g, cap, cur, rfl, _⟩
  · have hnil : D.waits = [] := List.eq_nil_of_length_eq_zero h0
    refine (deleteW_nil w _).mono ?_
    rintro e w' ⟨rfl, rfl⟩
    rw [hnil]
    exact ⟨_, _, _, rfl, ⟨rfl, rfl, rfl, Nat.le_refl _, fun _ _ _ => rfl⟩, World.ownsRow_nil _ _ _ _, rfl⟩
  · have hfa : ∀ g ∈ D.files, FileAt w g.blk := fun g hg => ⟨_, h.files g hg⟩
    refine (deleteW_ok w D.waits g cap f.blk c hw hl hc ?_ (hfa f hf) ?_ ?_).mono ?_
    · intro x hx
      obtain ⟨y, hy, e⟩ := h.held x hx
      rw [← e]
      exact ⟨hfa y hy, ((h.apart_file hy).2.2 g rfl).symm⟩
    · intro e; subst e; exact hcn (by simp [diskFoot, Value.ownBlock])
    · exact ((h.apart_file hf).2.2 g rfl).symm
    · rintro e w' ⟨rfl, hown, hT⟩
      exact ⟨_, _, _, rfl, ⟨hT.os, hT.tape, hT.output, hT.size, fun k hk hr => hT.block k hk (by simpa [Value.ownBlock] using hr)⟩, hown, rfl⟩

theorem last1_blks (D : DiskM) (f : FileM) : (D.last1 f).files.map (·.blk) = D.files.map (·.blk) := by
  simp only [DiskM.last1, List.map_map]; apply List.map_congr_left; intro g _; simp only [Function.comp_apply]; split <;> rfl
theorem last1_names (D : DiskM) (f : FileM) : (D.last1 f).files.map (·.name) = D.files.map (·.name) := by
  simp only [DiskM.last1, List.map_map]; apply List.map_congr_left; intro g _; simp only [Function.comp_apply]; split <;> rfl

theorem map_inj {α β : Type} {f : α → β} {l : List α} (hn : (l.map f).Nodup) {a b : α} (ha : a ∈ l) (hb : b ∈ l) (e : f a = f b) : a = b := by
  induction l with
  | nil => cases ha
  | cons x l ih =>
    simp only [List.map_cons, List.nodup_cons] at hn
    rcases List.mem_cons.1 ha with rfl | ha'
    · rcases List.mem_cons.1 hb with rfl | hb'
      · rfl
      · exact (hn.1 (e ▸ List.mem_map_of_mem hb')).elim
    · rcases List.mem_cons.1 hb with rfl | hb'
      · exact (hn.1 (e ▸ List.mem_map_of_mem ha')).elim
      · exact ih hn.2 ha' hb'

/-- A file's image is turned. -/
theorem DiskIn.setImage {w : World} {d m : Nat} {wv : Value} {D : DiskM} (h : DiskIn w d m wv D) {f : FileM} (hf : f ∈ D.files) :
    DiskIn (w.setCell ⟨f.blk, 0, none⟩ (.string f.now)) d m wv { D with files := (D.last1 f).files } := by
  obtain ⟨a1, a2, a3⟩ := h.apart_file hf
  refine ⟨?_, ?_, ?_, ?_, ?_, ?_, ?_, ?_⟩
  · rw [heap_setCell_ne _ _ _ _ _ _ a1]; exact h.head
  · have e1 : fileMap { D with files := (D.last1 f).files } = fileMap D := by
      simp only [fileMap, DiskM.last1, List.map_map]
      apply List.map_congr_left
      intro g _
      simp only [Function.comp_apply]
      split <;> simp [filePtr]
    rw [e1]
    exact h.map.same (heap_setCell_ne _ _ _ _ _ _ a2)
  · intro g hg
    simp only [DiskM.last1, List.mem_map] at hg
    obtain ⟨g0, hg0, rfl⟩ := hg
    by_cases hb : g0.blk = f.blk
    · have hgf : g0 = f := by
        have hn := h.blks
        exact map_inj hn hg0 hf hb
      subst hgf
      have := heap_setCell_at (i := 0) (v := .string g0.now) (h.files g0 hg0)
      simpa [fileObj] using this
    · simp only [hb, if_false]
      rw [heap_setCell_ne _ _ _ _ _ _ hb]; exact h.files g0 hg0
  · exact ownsRow_other h.waits fun b hb => heap_setCell_ne _ _ _ _ _ _ (a3 b hb)
  · show ((D.last1 f).files.map (·.name)).Nodup
    rw [last1_names]; exact h.names
  · show (diskFoot d m wv _).Nodup
    have : diskFoot d m wv { D with files := (D.last1 f).files } = diskFoot d m wv D := by simp only [diskFoot, last1_blks]
    rw [this]; exact h.apart
  · intro y hy
    obtain ⟨g, hg, e⟩ := h.held y hy
    have : g.blk ∈ (D.last1 f).files.map (·.blk) := by rw [last1_blks]; exact List.mem_map_of_mem hg
    obtain ⟨g', hg', e'⟩ := List.mem_map.1 this
    exact ⟨g', hg', e'.trans e⟩
  · have : diskFoot d m wv { D with files := (D.last1 f).files } = diskFoot d m wv D := by simp only [diskFoot, last1_blks]
    rw [this]; exact h.low

theorem look_last1 {D : DiskM} (s : ByteArray) (f : FileM) : (D.look s).isSome → ((D.last1 f).look s).isSome := by
  intro h
  unfold DiskM.look at *
  rw [List.find?_isSome] at *
  obtain ⟨g, hg, hn⟩ := h
  have : g.name ∈ (D.last1 f).files.map (·.name) := by rw [last1_names]; exact List.mem_map_of_mem hg
  obtain ⟨g', hg', e⟩ := List.mem_map.1 this
  exact ⟨g', hg', by simpa [e] using hn⟩

theorem lasts_snoc (D : DiskM) (ss : List ByteArray) (s : ByteArray) : D.lasts (ss ++ [s]) = (D.lasts ss).lastOf s := by simp [DiskM.lasts]

set_option maxRecDepth 100000 in
set_option maxHeartbeats 1600000 in
theorem lasts_ok (w : World) (d m : Nat) (wv : Value) (D : DiskM) (h : DiskIn w d m wv D) (b off cap : Nat) (ss : List ByteArray) (hcell : ∀ i s, ss[i]? = some s → w.cell? ⟨b, off + i, none⟩ = some (.string s)) (hl : ss.length < 4611686018427387904)
    (hb : b ∉ diskFoot d m wv D) (hbl : b < w.heap.size) (hin : ∀ s ∈ ss, (D.look s).isSome) (hwl : D.waits.length < 10000000) :
    Calls Tryz.prog 192 #[.pointer (some ⟨d, 0, none⟩), .slice (some ⟨b, off, none⟩) ss.length cap] w fun e w' => e = .returned (.tuple #[]) ∧
      ∃ wv', DiskIn w' d m wv' (D.lasts ss) ∧ Touch (diskFoot d m wv D) w w' ∧ wv'.ownBlock = wv.ownBlock := by
  have HD := Lib.hid h
  have HC := Lib.hid (And.intro hcell hin)
  clear h hcell hin
  go_enter Tryz.func192, Tryz.ntmps192
  go_wp2
  go_loopg [9] ss.length (fun k i wr => ∃ (j : Nat) (wv' : Value), j + k = ss.length ∧ i = .int .i64 j ∧ DiskIn wr d m wv' (D.lasts (ss.take j)) ∧ Touch (diskFoot d m wv D) w wr ∧ wv'.ownBlock = wv.ownBlock ∧ (∀ s, (D.look s).isSome → ((D.lasts (ss.take j)).look s).isSome) ∧
    (D.lasts (ss.take j)).waits.length ≤ D.waits.length ∧ (D.lasts (ss.take j)).files.map (·.blk) = D.files.map (·.blk))
  case atStart => exact ⟨0, wv, by omega, rfl, HD.out, Touch.refl _ _, rfl, fun s h => h, Nat.le_refl _, rfl⟩
  case round =>
    obtain ⟨j, wv', hj, rfl, hD, hT, hwv, hlook, hwl', hblk⟩ := hrel
    have HJ := Lib.hid (And.intro hj (And.intro hlook (And.intro hwl' (And.intro hblk hwv))))
    have HDJ := Lib.hid hD
    clear hj hlook hwl' hblk hwv hD
    by_cases hlt : j < ss.length
    · have hs : ss[j]? = some ss[j] := List.getElem?_eq_getElem hlt
      have c0 := hT.cell (HC.out.1 j _ hs) hb
      obtain ⟨f, hf⟩ : ∃ f, (D.lasts (ss.take j)).look ss[j] = some f := Option.isSome_iff_exists.1 (HJ.out.2.1 _ (HC.out.2 _ (List.getElem_mem hlt)))
      have HTK := Lib.hid (List.take_succ_eq_append_getElem hlt)
      generalize ss[j] = s at *
      generalize hDj : D.lasts (ss.take j) = Dj at *
      have HDj := Lib.hid hDj
      have HF := Lib.hid hf
      obtain ⟨hfm, hfn⟩ := DiskM.look_mem hf
      obtain ⟨-, -, c2, c3, -⟩ := HDJ.out.cells
      have hlk := HDJ.out.lookup s
      rw [hf] at hlk
      simp only [filePtr?, filePtr] at hlk
      clear hDj hf hfn hs
      go_wp2_with fail
      obtain ⟨f0, f1⟩ := HDJ.out.file hfm
      have ff := free_of (HDJ.out.files f hfm) 0
      have hfl : f.blk < wr.heap.size := lt_of_heap (HDJ.out.files f hfm)
      have hfl2 : f.blk ≠ wr.heap.size := by omega
      go_region
      generalize hW2 : ((wr.setCell ⟨f.blk, 0, none⟩ (.string f.now)).alloc (.cells #[.pointer (some ⟨f.blk, 0, none⟩)] 263)).drew = w2
      have h2 : DiskIn w2 d m wv' { Dj with files := (Dj.last1 f).files } := by
        rw [← hW2]; exact (HDJ.out.setImage hfm).touch (((Touch.refl [] _).alloc _).drew) (by simp)
      have hT2 : Touch [f.blk] wr w2 := by
        rw [← hW2]; exact (((Touch.refl _ _).setCell _ _ _ _ (by simp)).alloc _).drew
      have hcc : w2.cell? ⟨wr.heap.size, 0, none⟩ = some (.pointer (some ⟨f.blk, 0, none⟩)) := by
        rw [← hW2]
        refine cell_of (c := #[.pointer (some ⟨f.blk, 0, none⟩)]) (t := 263) (f := (0, 0)) ?_ 0 _ rfl
        have := heap_alloc_at (wr.setCell ⟨f.blk, 0, none⟩ (.string f.now)) (.cells #[.pointer (some ⟨f.blk, 0, none⟩)] 263)
        rw [World.size_setCell] at this
        exact this
      have HT2 := Lib.hid hT2
      have H2 := Lib.hid h2
      have HCC := Lib.hid hcc
      obtain ⟨-, -, -, c3, -⟩ := h2.cells
      have hfoot : ∀ b ∈ diskFoot d m wv' Dj, b < wr.heap.size := HDJ.out.lt
      have hnf : wr.heap.size ∉ diskFoot d m wv' { Dj with files := (Dj.last1 f).files } := by
        intro e
        have e1 : diskFoot d m wv' { Dj with files := (Dj.last1 f).files } = diskFoot d m wv' Dj := by simp only [diskFoot, last1_blks]
        rw [e1] at e
        have := hfoot _ e; omega
      obtain ⟨f', hf', hfb'⟩ : ∃ f' ∈ (Dj.last1 f).files, f'.blk = f.blk := by
        have : f.blk ∈ (Dj.last1 f).files.map (·.blk) := by rw [last1_blks]; exact List.mem_map_of_mem hfm
        exact List.mem_map.1 this
      have HNF := Lib.hid hnf
      have HFB := Lib.hid hfb'
      have hwlj : Dj.waits.length < 10000000 := by have := HJ.out.2.2.1; omega
      have HWL := Lib.hid hwlj
      clear hW2 h2 hT2 hcc hlk f0 f1 ff hfl hfl2 c0 c2 hnf hfb' hfoot hwlj
      go_wp2_with fail
      refine (deleteD_ok w2 d m wv' _ H2.out wr.heap.size f' hf' (by rw [HFB.out]; exact HCC.out) HNF.out HWL.out).mono ?_
      rintro e w3 ⟨wa, wn, wc, rfl, hgr, hown, hob⟩
      have hd2 : d < w2.heap.size := H2.out.lt d (by simp [diskFoot])
      have hdne : some d ≠ wv'.ownBlock := fun e => (H2.out.apart_waits.2 d e.symm).1 rfl
      have c3' := hgr.cell c3 hdne
      have c3f : w3.frozen? ⟨d, 3, none⟩ = false := by
        rw [World.frozen?_of_block (hgr.block d hd2 hdne)]; exact free_of H2.out.head 3
      have h3 := H2.out.setWaits hgr hown (by intro b hb; rw [hob] at hb; exact .inl hb) (by
        intro x hx
        exact H2.out.held x (List.mem_filter.1 hx).1)
      have H3 := Lib.hid h3
      have HG := Lib.hid hgr
      have HOB := Lib.hid hob
      clear h3 hgr hown hob hd2 hdne
      go_wp2
      go_roundg (ss.length - (j + 1))
      case measure => have := HJ.out.1; omega
      case rel =>
        have e1 : D.lasts (ss.take (j + 1)) = Dj.last1 f := by
          rw [HTK.out, lasts_snoc, HDj.out]; simp only [DiskM.lastOf, HF.out]
        obtain ⟨g1, g2, g3, g4, g5⟩ := HJ.out
        have e2 : Dj.last1 f = { files := (Dj.last1 f).files, waits := Dj.waits.filter fun x => x.blk ≠ f'.blk, cap := Dj.cap } := by rw [HFB.out]; rfl
        have hfin : f.blk ∈ diskFoot d m wv D := by
          have : f.blk ∈ D.files.map (·.blk) := by rw [← g4]; exact List.mem_map_of_mem hfm
          simp only [diskFoot, List.mem_cons, List.mem_append]; exact .inr (.inr (.inr this))
        refine ⟨j + 1, .slice wa wn wc, by omega, by go_num, ?_, ?_, HOB.out.trans g5, ?_, ?_, ?_⟩
        · rw [e1, e2]; exact H3.out
        · have t1 := hT.trans HT2.out (by intro b hb; simp at hb; subst hb; exact .inl hfin)
          have t2 := t1.grown HG.out (by
            intro b hb; rw [g5] at hb
            exact .inl (by simp only [diskFoot, List.mem_cons, List.mem_append, Option.mem_toList]; exact .inr (.inr (.inl hb))))
          exact t2.setCell _ _ _ _ (.inl (by simp [diskFoot]))
        · intro s' hs'
          rw [e1]; exact look_last1 s' f (g2 s' hs')
        · rw [e1]; exact Nat.le_trans (List.length_filter_le _ _) g3
        · rw [e1, last1_blks]; exact g4
    · have hjj : j = ss.length := by have := HJ.out.1; omega
      have HJJ := Lib.hid hjj
      clear hjj
      go_wp2
      go_end0
      refine ⟨rfl, wv', ?_, hT, HJ.out.2.2.2.2⟩
      have := HDJ.out
      rw [HJJ.out, List.take_length] at this
      exact this
end Go.Proofs.YtljgifbnmgpdbaaGreatDoor

namespace Go.Proofs.YtljgifbnmgpdbaaGreatDoor
open Go Go.RowKit

set_option maxRecDepth 100000 in
set_option maxHeartbeats 1600000 in
theorem sync_ok (w : World) (d m : Nat) (wv : Value) (D : DiskM) (h : DiskIn w d m wv D) (b off cap : Nat) (ss : List ByteArray) (hcell : ∀ i s, ss[i]? = some s → w.cell? ⟨b, off + i, none⟩ = some (.string s)) (hl : ss.length < 4611686018427387904)
    (hb : b ∉ diskFoot d m wv D) (hbl : b < w.heap.size) (hin : ∀ s ∈ ss, (D.look s).isSome) (hwl : D.waits.length < 10000000) :
    Calls Tryz.prog 135 #[.pointer (some ⟨d, 0, none⟩), .slice (some ⟨b, off, none⟩) ss.length cap] w fun e w' => e = .returned (.int .i64 0) ∧
      ∃ wv', DiskIn w' d m wv' (D.lasts ss) ∧ Touch (diskFoot d m wv D) w w' ∧ wv'.ownBlock = wv.ownBlock := by
  have H := Lib.hid (And.intro h (And.intro hcell (And.intro hin hb)))
  clear h hcell hin hb
  go_enter Tryz.func135, Tryz.ntmps135
  go_wp2_with fail
  refine (bars_some w d m wv D H.out.1 b off cap ss H.out.2.1 hl (fun s hs => Option.isSome_iff_exists.1 (H.out.2.2.1 s hs))).mono ?_
  rintro e w' ⟨rfl, rfl⟩
  go_wp2_with fail
  refine (done_ok w d m wv D H.out.1).mono ?_
  rintro e w' ⟨rfl, rfl⟩
  go_wp2_with fail
  refine (lasts_ok w d m wv D H.out.1 b off cap ss H.out.2.1 hl H.out.2.2.2 hbl H.out.2.2.1 hwl).mono ?_
  rintro e w1 ⟨rfl, hfin⟩
  have HF := Lib.hid hfin
  clear hfin
  go_wp2
  go_ret
  exact ⟨rfl, HF.out⟩

def newDisk (cap : Int) : DiskM := ⟨[], [], cap⟩

set_option maxRecDepth 100000 in
set_option maxHeartbeats 1600000 in
theorem disknew_ok (w : World) (n : Int) (h0 : 0 ≤ n) (h1 : n ≤ 16777216) (h8 : 8 ≤ w.heap.size) :
    Calls Tryz.prog 65 #[.int .i64 n] w fun e w' => ∃ d m, e = .returned (.pointer (some ⟨d, 0, none⟩)) ∧ DiskIn w' d m (.slice none 0 0) (newDisk n) ∧ Touch [] w w' ∧ w.heap.size ≤ d ∧ w.heap.size ≤ m := by
  have hmm := @run_makeMap Tryz.prog
  go_enter Tryz.func65, Tryz.ntmps65
  go_wp2
  go_ret
  refine ⟨w.heap.size + 1, w.heap.size, rfl, ⟨?_, ?_, ?_, World.ownsRow_nil _ _ _ _, ?_, ?_, ?_, ?_⟩, ((Touch.refl _ _).alloc _).alloc _, by omega, Nat.le_refl _⟩
  · have := heap_alloc_at (w.alloc (.map #[] 0)) (.cells #[.int .i64 (-1), .bool false, .map (some w.heap.size), .slice none 0 0, .int .i64 n] 204)
    rw [World.size_alloc] at this
    exact this
  · exact (MapAt.made w).same (Below.heap_alloc _ _ _ (by simp))
  · intro f hf; cases hf
  · exact List.nodup_nil
  · simp [diskFoot, newDisk, Value.ownBlock]
  · intro x hx; cases hx
  · intro b hb
    simp [diskFoot, newDisk, Value.ownBlock] at hb
    omega
end Go.Proofs.YtljgifbnmgpdbaaGreatDoor

namespace Go.Proofs.YtljgifbnmgpdbaaGreatDoor
open Go Go.RowKit

structure RowM where
  head : ByteArray
  size : Nat
  places : List Nat
  fin : Nat
  synced : Nat

def RowM.begin (R : RowM) : Nat := R.places.headD 0
def RowM.room (R : RowM) : Nat := if 0 < R.places.length ∧ R.fin < R.begin + R.places.length * R.size then R.begin + R.places.length * R.size - R.fin else R.size

structure RowOk (R : RowM) : Prop where
  size1 : 16 ≤ R.size
  size2 : R.size ≤ 4096
  fin2 : R.fin ≤ 20000000
  syn : R.synced ≤ R.fin
  places : R.places = (List.range R.places.length).map fun i => R.begin + i * R.size
  whole : R.begin % R.size = 0
  none : R.places.length = 0 → R.fin = 0
  lo : 0 < R.places.length → R.begin + (R.places.length - 1) * R.size ≤ R.fin
  hi : R.fin ≤ R.begin + R.places.length * R.size

def placeCell (p : Nat) : List Value := [.int .i64 p]

def rowFoot (r : Nat) (pv : Value) : List Nat := r :: pv.ownBlock.toList

structure RowIn (w : World) (r d : Nat) (pv : Value) (R : RowM) : Prop where
  cells : w.heap[r]? = some (.cells #[.pointer (some ⟨d, 0, none⟩), .string R.head, .int .i64 R.size, pv, .int .i64 R.fin, .int .i64 R.synced] 138 (0, 0))
  places : w.ownsRow 0 3 1 pv R.places.length (R.places.flatMap placeCell)
  apart : (rowFoot r pv).Nodup
  low : ∀ b ∈ rowFoot r pv, 8 ≤ b
  ok : RowOk R

theorem RowIn.lt {w : World} {r d : Nat} {pv : Value} {R : RowM} (h : RowIn w r d pv R) : ∀ b ∈ rowFoot r pv, b < w.heap.size := by
  intro b hb
  simp only [rowFoot, List.mem_cons, Option.mem_toList] at hb
  rcases hb with rfl | hb
  · exact lt_of_heap h.cells
  · exact (h.places.lt b hb).2

theorem RowIn.touch {w w' : World} {r d : Nat} {pv : Value} {R : RowM} {F : List Nat} (h : RowIn w r d pv R) (hT : Touch F w w') (hF : ∀ b ∈ rowFoot r pv, b ∉ F) : RowIn w' r d pv R :=
  ⟨hT.heap h.cells (hF r (by simp [rowFoot])), ownsRow_other h.places (fun b hb => hT.block b (h.places.lt b hb).2 (hF b (by simp [rowFoot, hb]))), h.apart, h.low, h.ok⟩

theorem RowIn.six {w : World} {r d : Nat} {pv : Value} {R : RowM} (h : RowIn w r d pv R) : w.cell? ⟨r, 0, none⟩ = some (.pointer (some ⟨d, 0, none⟩)) ∧ w.cell? ⟨r, 1, none⟩ = some (.string R.head) ∧
    w.cell? ⟨r, 2, none⟩ = some (.int .i64 R.size) ∧ w.cell? ⟨r, 3, none⟩ = some pv ∧ w.cell? ⟨r, 4, none⟩ = some (.int .i64 R.fin) ∧ w.cell? ⟨r, 5, none⟩ = some (.int .i64 R.synced) :=
  ⟨cell_of h.cells 0 _ rfl, cell_of h.cells 1 _ rfl, cell_of h.cells 2 _ rfl, cell_of h.cells 3 _ rfl, cell_of h.cells 4 _ rfl, cell_of h.cells 5 _ rfl⟩

theorem place1 (p : Nat) : (placeCell p).length = 1 := rfl

/-- The places' slice: of no place, or a row. -/
theorem RowIn.pv {w : World} {r d : Nat} {pv : Value} {R : RowM} (h : RowIn w r d pv R) : (pv = .slice none 0 0 ∧ R.places = []) ∨ ∃ g cap, pv = .slice (some ⟨g, 0, none⟩) R.places.length cap ∧ ∀ (i : Nat) (p : Nat), R.places[i]? = some p → w.cell? ⟨g, i, none⟩ = some (.int .i64 p) := by
  have hw := h.places
  rcases hw.2 with ⟨rfl, h0⟩ | ⟨g, cap, cur, rfl, _⟩
  · exact .inl ⟨rfl, List.eq_nil_of_length_eq_zero h0⟩
  · refine .inr ⟨g, cap, rfl, fun i p hi => ?_⟩
    have := row_cell? place1 hw hi (i := 0) (by omega) rfl
    simpa using this

set_option maxRecDepth 100000 in
set_option maxHeartbeats 800000 in
theorem begin_ok (w : World) (r d : Nat) (pv : Value) (R : RowM) (h : RowIn w r d pv R) :
    Calls Tryz.prog 80 #[.pointer (some ⟨r, 0, none⟩)] w fun e w' => e = .returned (.int .i64 R.begin) ∧ w = w' := by
  obtain ⟨-, -, -, c3, -, -⟩ := h.six
  rcases h.pv with ⟨rfl, h0⟩ | ⟨g, cap, rfl, hc⟩
  · have hb : R.begin = 0 := by simp [RowM.begin, h0]
    rw [hb]
    clear h0 hb h
    go_enter Tryz.func80, Tryz.ntmps80
    go_wp2
    go_ret
    exact ⟨rfl, rfl⟩
  · cases hp : R.places with
    | nil =>
      have hb : R.begin = 0 := by simp [RowM.begin, hp]
      rw [hb]
      rw [hp] at c3
      clear hp hb h hc
      simp only [List.length_nil] at c3
      go_enter Tryz.func80, Tryz.ntmps80
      go_wp2
      go_ret
      exact ⟨rfl, rfl⟩
    | cons p l =>
      have hb : R.begin = p := by simp [RowM.begin, hp]
      have h0 := hc 0 p (by simp [hp])
      rw [hb]
      rw [hp] at c3
      have hl : 0 < l.length + 1 := by omega
      have hl2 : (((p :: l).length : Int) == 0) = false := by simp; omega
      generalize hn : (p :: l).length = n at *
      have hn0 : 0 < n := by rw [← hn]; simp
      clear hp hb h hc hn hl
      go_enter Tryz.func80, Tryz.ntmps80
      go_wp2
      go_ret
      exact ⟨rfl, rfl⟩

set_option maxRecDepth 100000 in
set_option maxHeartbeats 800000 in
theorem end_ok (w : World) (r d : Nat) (pv : Value) (R : RowM) (h : RowIn w r d pv R) :
    Calls Tryz.prog 100 #[.pointer (some ⟨r, 0, none⟩)] w fun e w' => e = .returned (.int .i64 R.fin) ∧ w = w' := by
  obtain ⟨-, -, -, -, c4, -⟩ := h.six
  clear h
  go_enter Tryz.func100, Tryz.ntmps100
  go_wp2
  go_ret
  exact ⟨rfl, rfl⟩

set_option maxRecDepth 100000 in
set_option maxHeartbeats 800000 in
theorem synced_ok (w : World) (r d : Nat) (pv : Value) (R : RowM) (h : RowIn w r d pv R) :
    Calls Tryz.prog 125 #[.pointer (some ⟨r, 0, none⟩)] w fun e w' => e = .returned (.int .i64 R.synced) ∧ w = w' := by
  obtain ⟨-, -, -, -, -, c5⟩ := h.six
  clear h
  go_enter Tryz.func125, Tryz.ntmps125
  go_wp2
  go_ret
  exact ⟨rfl, rfl⟩

set_option maxRecDepth 100000 in
set_option maxHeartbeats 800000 in
theorem of_ok (w : World) (r d : Nat) (pv : Value) (R : RowM) (h : RowIn w r d pv R) (at_ : Nat) (ha : at_ ≤ 20000000) :
    Calls Tryz.prog 137 #[.pointer (some ⟨r, 0, none⟩), .int .i64 at_] w fun e w' => e = .returned (.int .i64 (at_ / R.size * R.size : Nat)) ∧ ∃ n, w' = w.drewN n := by
  obtain ⟨-, -, c2, -, -, -⟩ := h.six
  have hs1 := h.ok.size1
  have hs2 := h.ok.size2
  have B1 : (at_ : Int) ≤ 20000000 := by omega
  have B2 : (16 : Int) ≤ R.size := by omega
  have B3 : (R.size : Int) ≤ 4096 := by omega
  have hne : ((R.size : Int) == 0) = false := by simp; omega
  have hval : wrap64 (wrap64 ((at_ : Int) / (R.size : Int)) * (R.size : Int)) = ((at_ / R.size * R.size : Nat) : Int) := by
    have h1 : at_ / R.size * R.size ≤ at_ := Nat.div_mul_le_self _ _
    have h2 : at_ / R.size ≤ at_ := Nat.div_le_self _ _
    have h3 : (at_ : Int) / (R.size : Int) = ((at_ / R.size : Nat) : Int) := by simp
    rw [h3]
    generalize at_ / R.size = q at *
    rw [wrap64_small (x := (q : Int)) (by omega) (by omega), ← Int.natCast_mul]
    generalize q * R.size = z at *
    exact wrap64_small (by omega) (by omega)
  have HV := Lib.hid hval
  clear hval
  clear h ha hs1 hs2
  go_enter Tryz.func137, Tryz.ntmps137
  go_wp2_with fail
  go_quiet (fail)
  go_wp2
  go_ret
  exact ⟨congrArg (fun x => Ending.returned (Value.int .i64 x)) HV.out, _, rfl⟩

theorem RowOk.get {R : RowM} (h : RowOk R) {i : Nat} (hi : i < R.places.length) : R.places[i]? = some (R.begin + i * R.size) := by
  have := h.places
  have h2 : R.places[i]? = ((List.range R.places.length).map fun i => R.begin + i * R.size)[i]? := by rw [← this]
  rw [h2]; simp [hi]

set_option maxRecDepth 100000 in
set_option maxHeartbeats 800000 in
theorem room_row (w : World) (r d : Nat) (pv : Value) (R : RowM) (h : RowIn w r d pv R) :
    Calls Tryz.prog 130 #[.pointer (some ⟨r, 0, none⟩)] w fun e w' => e = .returned (.int .i64 R.room) ∧ Touch [] w w' := by
  obtain ⟨-, -, c2, c3, c4, -⟩ := h.six
  have hs1 := h.ok.size1
  have hs2 := h.ok.size2
  have hf2 := h.ok.fin2
  by_cases hn : R.places.length = 0
  · have hr : R.room = R.size := by simp [RowM.room, hn]
    rw [hr]
    have hpv : ∃ a cap, pv = .slice a 0 cap := by
      rcases h.pv with ⟨rfl, h0⟩ | ⟨g, cap, rfl, hc⟩
      · exact ⟨none, 0, rfl⟩
      · exact ⟨some ⟨g, 0, none⟩, cap, by rw [hn]⟩
    obtain ⟨a, cap, rfl⟩ := hpv
    clear hn hr h hs1 hs2 hf2
    go_enter Tryz.func130, Tryz.ntmps130
    go_wp2_with fail
    go_quiet (fail)
    go_wp2
    go_ret
    exact ⟨rfl, (by repeat (first | exact Touch.refl _ _ | assumption | refine Touch.drewN ?_ _ | refine Touch.drew ?_ | refine Touch.alloc ?_ _))⟩
  · obtain ⟨m, hm⟩ : ∃ m, R.places.length = m + 1 := ⟨R.places.length - 1, by omega⟩
    rcases h.pv with ⟨rfl, h0⟩ | ⟨g, cap, rfl, hc⟩
    · rw [h0] at hn; exact (hn rfl).elim
    have hp := hc m _ (h.ok.get (by omega))
    have hlo := h.ok.lo (by omega)
    have hhi := h.ok.hi
    rw [hm] at hlo hhi c3
    rw [Nat.add_sub_cancel] at hlo
    rw [Nat.succ_mul] at hhi
    obtain ⟨last, hl⟩ : ∃ last, last = R.begin + m * R.size := ⟨_, rfl⟩
    rw [← hl] at hp hlo
    have B1 : (R.fin : Int) ≤ 20000000 := by omega
    have B2 : (R.size : Int) ≤ 4096 := by omega
    have B3 : (last : Int) ≤ R.fin := by omega
    have B4 : (R.fin : Int) ≤ last + R.size := by omega
    have hmm : m ≤ m * R.size := Nat.le_mul_of_pos_right _ (by omega)
    have hw1 : IntKind.i64.wrap (m : Int) = m := IntWalk.i64_in _ (by omega)
    have hw2 : IntKind.i64.wrap ((last : Int) + R.size) = (last : Int) + R.size := IntWalk.i64_in _ (by omega)
    have hw3 : IntKind.i64.wrap ((last : Int) + R.size - R.fin) = (last : Int) + R.size - R.fin := IntWalk.i64_in _ (by omega)
    have hm0 : (0 : Int) ≤ m := by omega
    have hmt : ((m : Int)).toNat = m := by omega
    clear hmm
    by_cases hc2 : R.fin < last + R.size
    · have hr : R.room = last + R.size - R.fin := by
        unfold RowM.room
        rw [hm, if_pos ⟨by omega, by rw [Nat.succ_mul]; omega⟩, Nat.succ_mul]; omega
      have hd : decide ((R.fin : Int) < (last : Int) + R.size) = true := by simp; omega
      have HR : Hid (((last : Int) + R.size - R.fin) = (R.room : Int)) := by rw [hr]; show _ = _; omega
      clear hr hl hm hlo hhi hs1 hs2 hf2 hn hc h
      have hB5 : (R.fin : Int) < last + R.size := by omega
      clear hc2
      go_enter Tryz.func130, Tryz.ntmps130
      go_wp2_with fail
      go_quiet (fail)
      go_wp2_with fail
      go_quiet (fail)
      go_wp2
      go_ret
      exact ⟨ret_int HR.out, (by repeat (first | exact Touch.refl _ _ | assumption | refine Touch.drewN ?_ _ | refine Touch.drew ?_ | refine Touch.alloc ?_ _))⟩
    · have hr : R.room = R.size := by
        unfold RowM.room
        rw [hm, if_neg]; rw [Nat.succ_mul]; omega
      have hd : decide ((R.fin : Int) < (last : Int) + R.size) = false := by simp; omega
      have HR := Lib.hid hr
      clear hr hl hm hlo hhi hs1 hs2 hf2 hn hc h hc2
      go_enter Tryz.func130, Tryz.ntmps130
      go_wp2_with fail
      go_quiet (fail)
      go_wp2_with fail
      go_ret
      rw [HR.out]
      exact ⟨rfl, (by repeat (first | exact Touch.refl _ _ | assumption | refine Touch.drewN ?_ _ | refine Touch.drew ?_ | refine Touch.alloc ?_ _))⟩
end Go.Proofs.YtljgifbnmgpdbaaGreatDoor
