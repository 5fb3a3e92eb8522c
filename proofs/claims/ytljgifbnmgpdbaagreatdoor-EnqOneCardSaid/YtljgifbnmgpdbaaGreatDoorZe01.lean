/- Rows of marks (four cells each): what is stored, and turned round. No walk. (Here too: Layers 14, 15, 16 (level, wheel, tlog): a slot; a slot's last mark: read, set; rows of equal pieces. Layer 16 (tlog): the chains of marks, in plain words. No walk. Layer 19 (enq): what an enqueuer is in memory; New, Late, Cursor. The law of layer 19: made. The law of layer 19: add of a record that may be; the rig in the law's own memory. The scheduled records of a tape, from a place on, in plain words. No walk. Layer 19 (enq): next.) -/
import Derived.Test.YtljgifbnmgpdbaaGreatDoorZc14
import Derived.Deep.Cut
set_option linter.unusedSimpArgs false
set_option linter.unusedVariables false
set_option linter.unnecessarySimpa false
namespace Go.Proofs.YtljgifbnmgpdbaaGreatDoor
open Go Go.RowKit

section chunks
variable {α : Type} {f : α → List UInt8} {k : Nat}
theorem chunk_len (hf : ∀ x, (f x).length = k) : ∀ l : List α, (l.flatMap f).length = l.length * k
  | [] => by simp
  | x :: l => by rw [List.flatMap_cons, List.length_append, hf, chunk_len hf l, List.length_cons, Nat.succ_mul]; omega
theorem chunk_drop (hf : ∀ x, (f x).length = k) : ∀ (l : List α) (i : Nat), (l.flatMap f).drop (i * k) = (l.drop i).flatMap f
  | l, 0 => by simp
  | [], i + 1 => by simp
  | x :: l, i + 1 => by
    rw [List.flatMap_cons, Nat.succ_mul, Nat.add_comm, ← List.drop_drop, List.drop_left' (hf x), chunk_drop hf l i, List.drop_succ_cons]
theorem chunk_take (hf : ∀ x, (f x).length = k) : ∀ (l : List α) (i : Nat), (l.flatMap f).take (i * k) = (l.take i).flatMap f
  | l, 0 => by simp
  | [], i + 1 => by simp
  | x :: l, i + 1 => by
    have h := hf x
    rw [List.flatMap_cons, Nat.succ_mul, Nat.add_comm, ← h, List.take_length_add_append, h, chunk_take hf l i, List.take_succ_cons, List.flatMap_cons]
theorem chunk_extract (hf : ∀ x, (f x).length = k) (l : List α) (i : Nat) (x : α) (hi : l[i]? = some x) : (bytesOf (l.flatMap f)).extract (i * k) (i * k + k) = bytesOf (f x) := by
  apply bytes_ext
  rw [ByteArray.data_extract]
  simp only [bytesOf, Array.toList_extract, List.extract_eq_take_drop]
  rw [chunk_drop hf, show i * k + k - i * k = k by omega]
  obtain ⟨hl, rfl⟩ := List.getElem?_eq_some_iff.1 hi
  rw [List.drop_eq_getElem_cons hl, List.flatMap_cons]
  conv => lhs; rw [← hf l[i]]
  exact List.take_left
theorem chunk_set (hf : ∀ x, (f x).length = k) (l : List α) (i : Nat) (y : α) (hi : i < l.length) : laidB (bytesOf (l.flatMap f)) (i * k) (bytesOf (f y)) = bytesOf ((l.set i y).flatMap f) := by
  apply bytes_ext
  have e : (bytesOf (f y)).size = k := by rw [bytesOf_size, hf]
  simp only [laidB, e]
  simp only [bytesOf]
  rw [chunk_take hf, show i * k + k = (i + 1) * k by rw [Nat.succ_mul], chunk_drop hf]
  conv => rhs; rw [List.set_eq_take_append_cons_drop, if_pos hi]
  simp
theorem chunk_push (hf : ∀ x, (f x).length = k) (l : List α) (y : α) : laidB (bytesOf (l.flatMap f)) (l.length * k) (bytesOf (f y)) = bytesOf ((l ++ [y]).flatMap f) := by
  apply bytes_ext
  have e : (bytesOf (f y)).size = k := by rw [bytesOf_size, hf]
  simp only [laidB, e]
  simp only [bytesOf]
  rw [chunk_take hf, show l.length * k + k = (l.length + 1) * k by rw [Nat.succ_mul], chunk_drop hf, List.drop_eq_nil_of_le (by omega)]
  simp
end chunks

theorem text_nil (l : List UInt8) : (⟨l.toArray⟩ : ByteArray) ++ ⟨#[]⟩ = bytesOf l := by
  apply bytes_ext; simp [bytesOf, ByteArray.data_append]
theorem be6_len (x : Nat) : (be 6 x).length = 6 := be_len 6 x
theorem slotsB_size (hs : List Nat) : (slotsB hs).size = hs.length * 6 := by unfold slotsB; rw [bytesOf_size, chunk_len be6_len]
theorem markB_len (m : MarkE) : (markB m).length = 20 := by simp [markB, wideB, be_len]
theorem marksB_size (ms : List MarkE) : (marksB ms).size = ms.length * 20 := by unfold marksB; rw [bytesOf_size, chunk_len markB_len]

set_option maxRecDepth 100000 in
set_option maxHeartbeats 1000000 in
theorem slot_ok (w : World) (due : Nat) (hd : due ≤ 1099511627776) : Calls Tryz.prog 154 #[.int .i64 due] w fun e w' => e = .returned (.int .i64 (due % 16 : Nat)) ∧ w = w' := by
  have d1 : decide ((due : Int) < 0) = false := by simp
  have d2 : decide (0 < (due : Int)) = decide (0 < due) := by simp
  go_enter Tryz.func154, Tryz.ntmps154
  go_wp2_with fail
  go_ret
  exact ⟨by simp, rfl⟩

set_option maxRecDepth 100000 in
set_option maxHeartbeats 1000000 in
theorem wbars_ok (w : World) (wb : Nat) (slot : Nat) (h16 : slot < 16) : Calls Tryz.prog 202 #[.pointer (some ⟨wb, 0, none⟩), .int .i64 slot] w fun e w' => e = .returned (.int .i64 0) ∧ w = w' := by
  have d1 : decide ((slot : Int) < 0) = false := by simp
  have d2 : decide (16 ≤ (slot : Int)) = false := by simp; omega
  clear h16
  go_enter Tryz.func202, Tryz.ntmps202
  go_wp2_with fail
  go_ret
  exact ⟨rfl, rfl⟩

set_option maxRecDepth 100000 in
set_option maxHeartbeats 1000000 in
theorem whead_ok (w : World) (wb d : Nat) (hand : Int) (Fd : List Nat) (V : ByteArray → Option ByteArray) (cap tot q : Nat) (hw : w.heap[wb]? = some (.cells #[.pointer (some ⟨d, 0, none⟩), .int .i64 hand] 234 (0, 0)))
    (hD : DiskV w d Fd V cap tot q) (hs : List Nat) (hV : V slotsName = some (slotsB hs)) (slot x : Nat) (hx : hs[slot]? = some x) (h16 : slot < 16) (hb : x < 281474976710656) :
    Calls Tryz.prog 149 #[.pointer (some ⟨wb, 0, none⟩), .int .i64 slot] w fun e w' => e = .returned (.tuple #[.int .i64 x, .int .i64 0]) ∧ Touch [] w w' := by
  have c0 := cell_of hw 0 _ rfl
  obtain ⟨hl, hxe⟩ := List.getElem?_eq_some_iff.1 hx
  have hread := readV_ok hD slotsName _ hV (slot * 6) 6 (by rw [slotsB_size]; omega)
  have e6 : (slotsB hs).extract (slot * 6) (slot * 6 + 6) = bytesOf (be 6 x) := chunk_extract be6_len hs slot x hx
  rw [e6] at hread
  have ha : ((slot * 6 : Nat) : Int) = 6 * (slot : Int) := by omega
  rw [ha] at hread
  have HR := Lib.hid (And.intro hread (wbars_ok w wb slot h16))
  have HX := Lib.hid hb
  have B1 : (slot : Int) < 16 := by omega
  clear hw hD hV hx h16 hb hl hxe hread e6 ha
  go_enter Tryz.func149, Tryz.ntmps149
  go_wp2_with fail
  refine HR.out.2.mono ?_
  rintro e w' ⟨rfl, rfl⟩
  go_wp2_with fail
  refine HR.out.1.mono ?_
  rintro e w1 ⟨rfl, hT1⟩
  have HT1 := Lib.hid hT1
  clear hT1
  go_wp2_with fail
  refine (rnew_ok w1 (bytesOf (be 6 x))).mono ?_
  rintro e w2 ⟨rfl, hr, hT2⟩
  have HT2 := Lib.hid (And.intro hr (HT1.out.trans' hT2))
  clear hr hT2
  go_wp2_with fail
  refine (rnum_be w2 w1.heap.size 6 x ⟨#[]⟩ (by rw [text_nil]; exact HT2.out.1) (by decide) (by omega) (by omega) (by have := HX.out; omega)).mono ?_
  rintro e w3 ⟨rfl, -, hT3⟩
  have HT3 := Lib.hid (HT2.out.2.trans hT3 (fun b hb => by simp at hb; right; have := HT1.out.size; omega))
  clear hT3
  go_wp2_with fail
  go_ret2
  exact ⟨rfl, HT3.out⟩

def WSet (w : World) (d : Nat) (F : List Nat) (V : ByteArray → Option ByteArray) (hs : List Nat) (cap tot q : Nat) (e : Ending) (w' : World) : Prop :=
  e = .returned (.int .i64 0) ∧ ∃ F', DiskV w' d F' (setV V slotsName (slotsB hs)) cap tot (q + 1) ∧ Touch F w w' ∧ Grew w.heap.size F F'

set_option maxRecDepth 100000 in
set_option maxHeartbeats 1000000 in
theorem wset_ok (w : World) (wb d : Nat) (hand : Int) (Fd : List Nat) (V : ByteArray → Option ByteArray) (cap tot q : Nat) (hw : w.heap[wb]? = some (.cells #[.pointer (some ⟨d, 0, none⟩), .int .i64 hand] 234 (0, 0))) (hwF : wb ∉ Fd)
    (hD : DiskV w d Fd V cap tot q) (hs : List Nat) (hV : V slotsName = some (slotsB hs)) (hl : hs.length = 16) (slot x : Nat) (h16 : slot < 16) (hb : x < 281474976710656) (hq : q < 1000000) :
    Calls Tryz.prog 156 #[.pointer (some ⟨wb, 0, none⟩), .int .i64 slot, .int .i64 x] w (WSet w d Fd V (hs.set slot x) cap tot q) := by
  have hle := hD.le
  have hsz : (bytesOf (be 6 x)).size = 6 := by rw [bytesOf_size, be_len]
  have hs6 := slotsB_size hs
  have hwrite : ∀ W, Touch [] w W → Calls Tryz.prog 124 #[.pointer (some ⟨d, 0, none⟩), .string slotsName, .int .i64 (6 * (slot : Int)), .string (bytesOf (be 6 x))] W (WSet W d Fd V (hs.set slot x) cap tot q) := by
    intro W hT
    have h := writeV_ok (hD.quiet hT) slotsName (bytesOf (be 6 x)) _ (slot * 6) hV (by rw [hs6]; omega) (by omega) (by rw [hs6, hsz]; omega) hq
    have e1 : laidB (slotsB hs) (slot * 6) (bytesOf (be 6 x)) = slotsB (hs.set slot x) := chunk_set be6_len hs slot x (by omega)
    have e2 : tot + (max (slotsB hs).size (slot * 6 + (bytesOf (be 6 x)).size) - (slotsB hs).size) = tot := by rw [hs6, hsz]; omega
    have ha : ((slot * 6 : Nat) : Int) = 6 * (slot : Int) := by omega
    rw [e1, e2, ha] at h
    exact h
  have c0 := cell_of hw 0 _ rfl
  have HW := Lib.hid (And.intro hwrite (And.intro (wbars_ok w wb slot h16) (And.intro hb hw)))
  have B1 : (slot : Int) < 16 := by omega
  clear hw hwF hD hV h16 hb hl hwrite hsz hs6 hle hq
  go_enter Tryz.func156, Tryz.ntmps156
  go_wp2_with fail
  refine HW.out.2.1.mono ?_
  rintro e w' ⟨rfl, rfl⟩
  go_wp2_with fail
  refine (num_ok _ 6 (by omega) (by omega) [x] w.heap.size 0 1 (fun i y hi => ?_) (by simp) (fun y hy => ?_)).mono ?_
  · match i, hi with
    | 0, hi => simp at hi; subst hi; exact cell_of (heap_alloc_at _ _) 0 _ rfl
    | i + 1, hi => simp at hi
  · have h1 := HW.out.2.2.1
    simp only [List.mem_singleton] at hy
    subst hy
    omega
  rintro e w1 ⟨rfl, hT1⟩
  have hT1 : Touch [] w w1 := ((Touch.refl [] w).alloc _).trans' hT1
  have c0 := cell_of (hT1.heap HW.out.2.2.2 (by simp)) 0 _ rfl
  have HT1 := Lib.hid hT1
  have he : (⟨([x].flatMap (be 6)).toArray⟩ : ByteArray) = bytesOf (be 6 x) := by apply bytes_ext; simp [bytesOf]
  rw [he]
  clear hT1 he
  go_wp2_with fail
  refine (HW.out.1 w1 HT1.out).mono ?_
  rintro e w2 ⟨rfl, F', hD2, hT2, hG2⟩
  have H2 := Lib.hid (show WSet w d Fd V (hs.set slot x) cap tot q (.returned (.int .i64 0)) w2 from ⟨rfl, F', hD2, HT1.out.nil.trans' hT2, fun b hb => by
    rcases hG2 b hb with h | h
    · exact .inl h
    · right; have := HT1.out.size; omega⟩)
  clear hD2 hT2 hG2
  go_wp2_with fail
  go_ret
  exact H2.out
end Go.Proofs.YtljgifbnmgpdbaaGreatDoor

namespace Go.Proofs.YtljgifbnmgpdbaaGreatDoor
open Go Go.RowKit

/-- A chain's marks, the last one first: from the mark whose number is n. -/
def chainN (ms : List MarkE) : Nat → Nat → List MarkE
  | 0, _ => []
  | k + 1, n => if n = 0 then [] else match ms[n - 1]? with
    | none => []
    | some m => m :: chainN ms k m.ahead

def AheadOk (ms : List MarkE) : Prop := ∀ (i : Nat) (m : MarkE), ms[i]? = some m → m.ahead ≤ i

theorem chainN_zero (ms : List MarkE) (k : Nat) : chainN ms k 0 = [] := by cases k <;> simp [chainN]
theorem chainN_succ (ms : List MarkE) (k i : Nat) (m : MarkE) (h : ms[i]? = some m) : chainN ms (k + 1) (i + 1) = m :: chainN ms k m.ahead := by simp [chainN, h]

/-- Any count from n on is enough. -/
theorem chainN_more {ms : List MarkE} (ha : AheadOk ms) : ∀ (k j n : Nat), n ≤ k → k ≤ j → chainN ms j n = chainN ms k n
  | k, j, 0, _, _ => by rw [chainN_zero, chainN_zero]
  | 0, _, n + 1, h, _ => by omega
  | k + 1, 0, n + 1, _, h => by omega
  | k + 1, j + 1, n + 1, h1, h2 => by
    cases hm : ms[n]? with
    | none => simp [chainN, hm]
    | some m =>
      rw [chainN_succ ms j n m hm, chainN_succ ms k n m hm]
      have := ha n m hm
      rw [chainN_more ha k j m.ahead (by omega) (by omega)]

theorem chainN_push {ms : List MarkE} (ha : AheadOk ms) (x : MarkE) : ∀ (k n : Nat), n ≤ ms.length → chainN (ms ++ [x]) k n = chainN ms k n
  | 0, n, _ => rfl
  | k + 1, 0, _ => by rw [chainN_zero, chainN_zero]
  | k + 1, n + 1, h => by
    have hm : ms[n]? = some (ms[n]'(by omega)) := List.getElem?_eq_getElem (by omega)
    have hm2 : (ms ++ [x])[n]? = some (ms[n]'(by omega)) := by rw [List.getElem?_append_left (by omega)]; exact hm
    rw [chainN_succ _ k n _ hm, chainN_succ _ k n _ hm2]
    have := ha n _ hm
    rw [chainN_push ha x k _ (by omega)]

/-- A slot's chain, the first mark first. -/
def LogM.chain (L : LogM) (s : Nat) : List MarkE := (chainN L.marks L.marks.length (L.heads.getD s 0)).reverse

def layM (L : LogM) (m : MarkE) : LogM :=
  { L with heads := L.heads.set (m.due % 16) (L.marks.length + 1), marks := L.marks ++ [{ m with ahead := L.heads.getD (m.due % 16) 0 }] }

structure LogOk (L : LogM) : Prop where
  sixteen : L.heads.length = 16
  heads : ∀ h ∈ L.heads, h ≤ L.marks.length
  ahead : AheadOk L.marks

theorem LogOk.head {L : LogM} (h : LogOk L) (s : Nat) : L.heads.getD s 0 ≤ L.marks.length := by
  rw [List.getD_eq_getElem?_getD]
  cases hs : L.heads[s]? with
  | none => simp
  | some x => exact h.heads x (List.mem_of_getElem? hs)

theorem LogOk.lay {L : LogM} (h : LogOk L) (m : MarkE) : LogOk (layM L m) := by
  refine ⟨by simp [layM, h.sixteen], fun x hx => ?_, fun i x hx => ?_⟩
  · simp only [layM, List.length_append, List.length_cons, List.length_nil] at hx ⊢
    rcases List.mem_or_eq_of_mem_set hx with hx | rfl
    · have := h.heads x hx; omega
    · omega
  · simp only [layM] at hx
    by_cases hi : i < L.marks.length
    · rw [List.getElem?_append_left hi] at hx
      exact h.ahead i x hx
    · have hil : i = L.marks.length := by
        have := (List.getElem?_eq_some_iff.1 hx).1
        simp at this; omega
      subst hil
      simp only [List.getElem?_concat_length, Option.some.injEq] at hx
      subst hx
      exact h.head _

theorem chain_lay {L : LogM} (h : LogOk L) (m : MarkE) (s : Nat) (hs : s < 16) :
    (layM L m).chain s = if s = m.due % 16 then L.chain s ++ [{ m with ahead := L.heads.getD (m.due % 16) 0 }] else L.chain s := by
  have hlen : (layM L m).marks.length = L.marks.length + 1 := by simp [layM]
  unfold LogM.chain
  rw [hlen]
  split
  · rename_i e
    have hhd : (layM L m).heads.getD s 0 = L.marks.length + 1 := by
      simp only [layM, e]
      rw [List.getD_eq_getElem?_getD, List.getElem?_set_self (by rw [h.sixteen]; omega)]
      rfl
    rw [hhd]
    have hm : (layM L m).marks[L.marks.length]? = some { m with ahead := L.heads.getD (m.due % 16) 0 } := by simp [layM]
    rw [chainN_succ _ _ _ _ hm, List.reverse_cons]
    congr 2
    show chainN (layM L m).marks L.marks.length (L.heads.getD (m.due % 16) 0) = _
    rw [← e]
    exact chainN_push h.ahead _ _ _ (h.head s)
  · rename_i e
    have hhd : (layM L m).heads.getD s 0 = L.heads.getD s 0 := by
      simp only [layM]
      rw [List.getD_eq_getElem?_getD, List.getD_eq_getElem?_getD, List.getElem?_set_ne (fun e' => e e'.symm)]
    rw [hhd]
    congr 1
    show chainN (L.marks ++ [_]) (L.marks.length + 1) _ = _
    rw [chainN_push h.ahead _ _ _ (h.head s)]
    exact chainN_more h.ahead _ _ _ (h.head s) (by omega)

/-- A slot is emptied. -/
def clearM (L : LogM) (s : Nat) : LogM := { L with heads := L.heads.set s 0 }
theorem LogOk.clear {L : LogM} (h : LogOk L) (s : Nat) : LogOk (clearM L s) :=
  ⟨by simp [clearM, h.sixteen], fun x hx => by
    rcases List.mem_or_eq_of_mem_set hx with hx | rfl
    · exact h.heads x hx
    · exact Nat.zero_le _, h.ahead⟩
theorem chain_clear {L : LogM} (s t : Nat) (h : LogOk L) (hs : s < 16) : (clearM L s).chain t = if t = s then [] else L.chain t := by
  unfold LogM.chain clearM
  split
  · rename_i e
    subst e
    show (chainN L.marks _ _).reverse = _
    rw [List.getD_eq_getElem?_getD, List.getElem?_set_self (by rw [h.sixteen]; omega)]
    show (chainN L.marks _ 0).reverse = _
    rw [chainN_zero]; rfl
  · rename_i e
    rw [List.getD_eq_getElem?_getD, List.getElem?_set_ne (fun e' => e e'.symm), ← List.getD_eq_getElem?_getD]

/-- A slot is taken at a second: who is due, and the log behind it. -/
def takeGo (second : Nat) : List MarkE → LogM → List MarkE × LogM
  | [], L => ([], L)
  | m :: l, L => if m.due ≤ second then (m :: (takeGo second l L).1, (takeGo second l L).2) else takeGo second l (layM L { m with puts := m.puts + 1 })
def takeM (L : LogM) (second : Nat) : List MarkE × LogM :=
  if (L.chain (second % 16)).length = 0 then ([], L) else takeGo second (L.chain (second % 16)) (clearM L (second % 16))
def LogM.waits (L : LogM) : Nat := ((List.range 16).map fun s => (L.chain s).length).sum

theorem sum_range {f g : Nat → Nat} {s d : Nat} : ∀ n : Nat, (∀ t < n, t ≠ s → g t = f t) → g s = f s + d → ((List.range n).map g).sum = ((List.range n).map f).sum + (if s < n then d else 0)
  | 0, _, _ => by simp
  | n + 1, h, hs => by
    have ih := sum_range n (fun t ht => h t (by omega)) hs
    rw [List.range_succ, List.map_append, List.map_append, List.sum_append, List.sum_append, ih]
    simp only [List.map_cons, List.map_nil, List.sum_cons, List.sum_nil]
    by_cases e : n = s
    · subst e; rw [if_neg (by omega), if_pos (by omega), hs]; omega
    · rw [h n (by omega) e]
      by_cases h1 : s < n
      · rw [if_pos h1, if_pos (by omega)]; omega
      · rw [if_neg h1, if_neg (by omega)]; omega

theorem waits_lay {L : LogM} (h : LogOk L) (m : MarkE) : (layM L m).waits = L.waits + 1 := by
  unfold LogM.waits
  have hm : m.due % 16 < 16 := Nat.mod_lt _ (by omega)
  rw [sum_range (s := m.due % 16) (d := 1) 16 (fun t ht hne => by rw [chain_lay h m t ht, if_neg hne]) (by rw [chain_lay h m _ hm, if_pos rfl]; simp), if_pos hm]

theorem waits_clear {L : LogM} (h : LogOk L) {s : Nat} (hs : s < 16) : L.waits = (clearM L s).waits + (L.chain s).length := by
  unfold LogM.waits
  rw [sum_range (f := fun t => ((clearM L s).chain t).length) (s := s) (d := (L.chain s).length) 16 (fun t ht hne => by rw [chain_clear s t h hs, if_neg hne]) (by rw [chain_clear s s h hs, if_pos rfl]; simp), if_pos hs]

theorem waits_none (hand : Int) (hs : List Nat) : LogM.waits ⟨hand, hs, []⟩ = 0 := by
  simp only [LogM.waits, LogM.chain, chainN, List.length_nil, List.reverse_nil]
  decide
theorem LogV.ok {w : World} {l : Nat} {F : List Nat} {L : LogM} {cap q : Nat} (h : LogV w l F L cap q) : LogOk L := by
  obtain ⟨X, h, -⟩ := h; exact ⟨h.sixteen, h.heads, h.ahead⟩
end Go.Proofs.YtljgifbnmgpdbaaGreatDoor

namespace Go.Proofs.YtljgifbnmgpdbaaGreatDoor
open Go Go.RowKit

structure EnqAt (w : World) (q : Nat) (X : DeqX) (M : TapeM) (P : PendM) (L : LogM) (cur : Int) (late : List Int) : Prop where
  cells : w.heap[q]? = some (.cells #[.pointer (some ⟨X.t, 0, none⟩), .pointer (some ⟨X.s, 0, none⟩), .pointer (some ⟨X.l, 0, none⟩), .int .i64 cur, X.sv] 158 (0, 0))
  tape : TapeV w X.t X.Ft M X.cap
  pend : PendV w X.s X.Fs P
  log : LogV w X.l X.Fl L X.capL X.ql
  row : IntRow w X.sv late
  apart : Apart (deqParts q X)
  low : ∀ a ∈ deqParts q X, ∀ b ∈ a, 8 ≤ b
  capL : X.capL = 4194304
  pot : X.ql + L.waits ≤ 3 + 3 * L.marks.length

section
variable {w w' : World} {q : Nat} {X : DeqX} {M : TapeM} {P : PendM} {L : LogM} {cur : Int} {late : List Int} {G : List Nat}
theorem EnqAt.lt (h : EnqAt w q X M P L cur late) : ∀ a ∈ deqParts q X, ∀ b ∈ a, b < w.heap.size := by
  intro a ha b hb
  simp only [deqParts, List.mem_cons, List.not_mem_nil, or_false] at ha
  rcases ha with rfl | rfl | rfl | rfl | rfl
  · simp at hb; subst hb; exact lt_of_heap h.cells
  · exact h.row.lt b (by simpa using hb)
  · exact h.tape.lt b hb
  · exact h.pend.lt b hb
  · exact h.log.lt b hb
theorem EnqAt.touch (h : EnqAt w q X M P L cur late) (hT : Touch G w w') (hG : ∀ a ∈ deqParts q X, ∀ b ∈ a, b ∉ G) : EnqAt w' q X M P L cur late where
  cells := hT.heap h.cells (hG [q] (by simp [deqParts]) q (by simp))
  tape := h.tape.touch hT (hG X.Ft (by simp [deqParts]))
  pend := h.pend.touch hT (hG X.Fs (by simp [deqParts]))
  log := h.log.touch hT (hG X.Fl (by simp [deqParts]))
  row := h.row.touch hT (fun b hb => hG X.sv.ownBlock.toList (by simp [deqParts]) b (by simpa using hb))
  apart := h.apart
  low := h.low
  capL := h.capL
  pot := h.pot
theorem EnqAt.quiet (h : EnqAt w q X M P L cur late) (hT : Touch [] w w') : EnqAt w' q X M P L cur late := h.touch hT (by simp)
theorem EnqAt.sep (h : EnqAt w q X M P L cur late) (i j : Nat) {a b : List Nat} (hij : i ≠ j) (hi : (deqParts q X)[i]? = some a) (hj : (deqParts q X)[j]? = some b) : ∀ x ∈ a, x ∉ b := h.apart i j a b hij hi hj
end

def EnqTo (w : World) (q : Nat) (X : DeqX) (M : TapeM) (P : PendM) (L : LogM) (cur : Int) (late : List Int) (w' : World) : Prop :=
  ∃ X', EnqAt w' q X' M P L cur late ∧ X'.t = X.t ∧ X'.s = X.s ∧ X'.l = X.l ∧ X'.cap = X.cap ∧ X'.capL = X.capL ∧ Touch (deqParts q X).flatten w w' ∧ (∀ a ∈ deqParts q X', ∀ b ∈ a, b ∈ (deqParts q X).flatten ∨ w.heap.size ≤ b)

set_option maxRecDepth 100000 in
set_option maxHeartbeats 1000000 in
theorem enqnew_ok (w : World) (t s l : Nat) (F : List Nat) (M : TapeM) (cap : Nat) (h : TapeV w t F M cap) :
    Calls Tryz.prog 47 #[.pointer (some ⟨t, 0, none⟩), .pointer (some ⟨s, 0, none⟩), .pointer (some ⟨l, 0, none⟩)] w fun e w' => e = .returned (.tuple #[.pointer (some ⟨w.heap.size, 0, none⟩), .int .i64 0]) ∧
      w' = w.alloc (.cells #[.pointer (some ⟨t, 0, none⟩), .pointer (some ⟨s, 0, none⟩), .pointer (some ⟨l, 0, none⟩), .int .i64 0, .slice none 0 0] 158) := by
  have HB := Lib.hid (tbegin_ok w t F M cap h)
  clear h
  go_enter Tryz.func47, Tryz.ntmps47
  go_wp2_with fail
  refine HB.out.mono ?_
  rintro e w' ⟨rfl, rfl⟩
  go_wp2_with fail
  go_ret2
  exact ⟨rfl, rfl⟩


set_option maxRecDepth 100000 in
set_option maxHeartbeats 1000000 in
theorem enqnew_t (w : World) (t s l : Option Addr) : Calls Tryz.prog 47 #[.pointer none, .pointer s, .pointer l] w fun e w' => e = .returned (.tuple #[.pointer none, .int .i64 1]) ∧ w = w' := by
  cases t <;> cases s <;> cases l
  all_goals
    go_enter Tryz.func47, Tryz.ntmps47
    go_wp2_with fail
    go_ret2
    exact ⟨rfl, rfl⟩

set_option maxRecDepth 100000 in
set_option maxHeartbeats 1000000 in
theorem enqnew_s (w : World) (t s l : Option Addr) : Calls Tryz.prog 47 #[.pointer t, .pointer none, .pointer l] w fun e w' => e = .returned (.tuple #[.pointer none, .int .i64 1]) ∧ w = w' := by
  cases t <;> cases s <;> cases l
  all_goals
    go_enter Tryz.func47, Tryz.ntmps47
    go_wp2_with fail
    go_ret2
    exact ⟨rfl, rfl⟩

set_option maxRecDepth 100000 in
set_option maxHeartbeats 1000000 in
theorem enqnew_l (w : World) (t s l : Option Addr) : Calls Tryz.prog 47 #[.pointer t, .pointer s, .pointer none] w fun e w' => e = .returned (.tuple #[.pointer none, .int .i64 1]) ∧ w = w' := by
  cases t <;> cases s <;> cases l
  all_goals
    go_enter Tryz.func47, Tryz.ntmps47
    go_wp2_with fail
    go_ret2
    exact ⟨rfl, rfl⟩

/-- The late ones are other ones, in a row of their own. -/
theorem enq_row {w w1 : World} {q : Nat} {X : DeqX} {M : TapeM} {P : PendM} {L : LogM} {cur : Int} {late late' : List Int} (h : EnqAt w q X M P L cur late) {v' : Value} (hm : IntMade w X.sv late' v' w1) :
    EnqTo w q X M P L cur late' (w1.setCell ⟨q, 4, none⟩ v') := by
  obtain ⟨hrow, hT1, hfr⟩ := hm
  have hq : q ∉ X.sv.ownBlock.toList := h.sep 0 1 (by decide) rfl rfl q (by simp)
  have hc1 := hT1.heap h.cells hq
  have hT2 : Touch [q] w1 (w1.setCell ⟨q, 4, none⟩ v') := (Touch.refl _ w1).setCell _ _ _ _ (by simp)
  have hc2 : (w1.setCell ⟨q, 4, none⟩ v').heap[q]? = some (.cells #[.pointer (some ⟨X.t, 0, none⟩), .pointer (some ⟨X.s, 0, none⟩), .pointer (some ⟨X.l, 0, none⟩), .int .i64 cur, v'] 158 (0, 0)) := by rw [heap_setCell_at hc1]; rfl
  have hlt := h.lt
  have hset : deqParts q { X with sv := v' } = (deqParts q X).set 1 v'.ownBlock.toList := rfl
  have hap : Apart (deqParts q { X with sv := v' }) := by
    rw [hset]
    refine h.apart.set (n := w.heap.size) rfl (fun x hx => ?_) hlt
    rcases hfr x (by simpa using hx) with h1 | h1
    · exact .inl (by simpa using h1)
    · exact .inr h1
  have hvq : ∀ b, v'.ownBlock = some b → b ∉ [q] := fun b hb => hap 1 0 _ _ (by decide) rfl rfl b (by simpa using hb)
  refine ⟨{ X with sv := v' }, ⟨hc2, ?_, ?_, ?_, hrow.touch hT2 hvq, hap, ?_, h.capL, h.pot⟩, rfl, rfl, rfl, rfl, rfl, ?_, ?_⟩
  · exact (h.tape.touch hT1 (h.sep 2 1 (by decide) rfl rfl)).touch hT2 (h.sep 2 0 (by decide) rfl rfl)
  · exact (h.pend.touch hT1 (h.sep 3 1 (by decide) rfl rfl)).touch hT2 (h.sep 3 0 (by decide) rfl rfl)
  · exact (h.log.touch hT1 (h.sep 4 1 (by decide) rfl rfl)).touch hT2 (h.sep 4 0 (by decide) rfl rfl)
  · intro a ha b hb
    rw [hset] at ha
    rcases List.mem_or_eq_of_mem_set ha with ha | rfl
    · exact h.low a ha b hb
    · have h8 := h.low [q] (by simp [deqParts]) q (by simp)
      have hql := hlt [q] (by simp [deqParts]) q (by simp)
      rcases hfr b (by simpa using hb) with h1 | h1
      · exact h.low X.sv.ownBlock.toList (by simp [deqParts]) b (by simpa using h1)
      · omega
  · refine (hT1.mono fun x hx => mem_flat (a := X.sv.ownBlock.toList) (by simp [deqParts]) hx).trans' (hT2.mono fun x hx => mem_flat (a := [q]) (by simp [deqParts]) hx)
  · intro a ha b hb
    rw [hset] at ha
    rcases List.mem_or_eq_of_mem_set ha with ha | rfl
    · exact .inl (mem_flat ha hb)
    · rcases hfr b (by simpa using hb) with h1 | h1
      · exact .inl (mem_flat (a := X.sv.ownBlock.toList) (by simp [deqParts]) (by simpa using h1))
      · exact .inr h1

/-- The cursor goes on. -/
theorem enq_cur {w : World} {q : Nat} {X : DeqX} {M : TapeM} {P : PendM} {L : LogM} {cur : Int} {late : List Int} (h : EnqAt w q X M P L cur late) (c : Int) : EnqAt (w.setCell ⟨q, 3, none⟩ (.int .i64 c)) q X M P L c late ∧ Touch [q] w (w.setCell ⟨q, 3, none⟩ (.int .i64 c)) := by
  have hT : Touch [q] w (w.setCell ⟨q, 3, none⟩ (.int .i64 c)) := (Touch.refl _ w).setCell _ _ _ _ (by simp)
  exact ⟨⟨by rw [heap_setCell_at h.cells]; rfl, h.tape.touch hT (h.sep 2 0 (by decide) rfl rfl), h.pend.touch hT (h.sep 3 0 (by decide) rfl rfl), h.log.touch hT (h.sep 4 0 (by decide) rfl rfl),
    h.row.touch hT (fun b hb => h.sep 1 0 (by decide) rfl rfl b (by simpa using hb)), h.apart, h.low, h.capL, h.pot⟩, hT⟩

theorem enq_tape {w w' : World} {q : Nat} {X : DeqX} {M M' : TapeM} {P : PendM} {L : LogM} {cur : Int} {late : List Int} (h : EnqAt w q X M P L cur late) {F' : List Nat} (ht : TapeV w' X.t F' M' X.cap) (hT : Touch X.Ft w w') (hg : Grew w.heap.size X.Ft F') :
    EnqAt w' q { X with Ft := F' } M' P L cur late ∧ (∀ a ∈ deqParts q { X with Ft := F' }, ∀ b ∈ a, b ∈ (deqParts q X).flatten ∨ w.heap.size ≤ b) := by
  have hset : deqParts q { X with Ft := F' } = (deqParts q X).set 2 F' := rfl
  refine ⟨⟨hT.heap h.cells (h.sep 0 2 (by decide) rfl rfl q (by simp)), ht, h.pend.touch hT (h.sep 3 2 (by decide) rfl rfl), h.log.touch hT (h.sep 4 2 (by decide) rfl rfl),
    h.row.touch hT (fun b hb => h.sep 1 2 (by decide) rfl rfl b (by simpa using hb)), ?_, ?_, h.capL, h.pot⟩, ?_⟩
  · rw [hset]; exact h.apart.set rfl hg h.lt
  · intro a ha b hb
    rw [hset] at ha
    rcases List.mem_or_eq_of_mem_set ha with ha | rfl
    · exact h.low a ha b hb
    · exact ht.low b hb
  · intro a ha b hb
    rw [hset] at ha
    rcases List.mem_or_eq_of_mem_set ha with ha | rfl
    · exact .inl (mem_flat ha hb)
    · rcases hg b hb with h1 | h1
      · exact .inl (mem_flat (a := X.Ft) (by simp [deqParts]) h1)
      · exact .inr h1

theorem enq_log {w w' : World} {q : Nat} {X : DeqX} {M : TapeM} {P : PendM} {L L' : LogM} {cur : Int} {late : List Int} (h : EnqAt w q X M P L cur late) {F' : List Nat} {k : Nat} (hl : LogV w' X.l F' L' X.capL k) (hT : Touch X.Fl w w') (hg : Grew w.heap.size X.Fl F') (hp : k + L'.waits ≤ 3 + 3 * L'.marks.length) :
    EnqAt w' q { X with Fl := F', ql := k } M P L' cur late ∧ (∀ a ∈ deqParts q { X with Fl := F', ql := k }, ∀ b ∈ a, b ∈ (deqParts q X).flatten ∨ w.heap.size ≤ b) := by
  have hset : deqParts q { X with Fl := F', ql := k } = (deqParts q X).set 4 F' := rfl
  refine ⟨⟨hT.heap h.cells (h.sep 0 4 (by decide) rfl rfl q (by simp)), h.tape.touch hT (h.sep 2 4 (by decide) rfl rfl), h.pend.touch hT (h.sep 3 4 (by decide) rfl rfl), hl,
    h.row.touch hT (fun b hb => h.sep 1 4 (by decide) rfl rfl b (by simpa using hb)), ?_, ?_, h.capL, hp⟩, ?_⟩
  · rw [hset]; exact h.apart.set rfl hg h.lt
  · intro a ha b hb
    rw [hset] at ha
    rcases List.mem_or_eq_of_mem_set ha with ha | rfl
    · exact h.low a ha b hb
    · exact hl.low b hb
  · intro a ha b hb
    rw [hset] at ha
    rcases List.mem_or_eq_of_mem_set ha with ha | rfl
    · exact .inl (mem_flat ha hb)
    · rcases hg b hb with h1 | h1
      · exact .inl (mem_flat (a := X.Fl) (by simp [deqParts]) h1)
      · exact .inr h1

theorem enq_pend {w w' : World} {q : Nat} {X : DeqX} {M : TapeM} {P P' : PendM} {L : LogM} {cur : Int} {late : List Int} (h : EnqAt w q X M P L cur late) (hp : PendV w' X.s X.Fs P') (hT : Touch X.Fs w w') : EnqAt w' q X M P' L cur late :=
  ⟨hT.heap h.cells (h.sep 0 3 (by decide) rfl rfl q (by simp)), h.tape.touch hT (h.sep 2 3 (by decide) rfl rfl), hp, h.log.touch hT (h.sep 4 3 (by decide) rfl rfl), h.row.touch hT (fun b hb => h.sep 1 3 (by decide) rfl rfl b (by simpa using hb)), h.apart, h.low, h.capL, h.pot⟩

def LateOut (w : World) (q : Nat) (X : DeqX) (M : TapeM) (P : PendM) (L : LogM) (cur : Int) (late : List Int) (e : Ending) (w' : World) : Prop :=
  e = .returned X.sv ∧ IntsAt w' X.sv late ∧ EnqTo w q X M P L cur [] w' ∧ ∀ b, X.sv.ownBlock = some b → b ∈ (deqParts q X).flatten

set_option maxRecDepth 100000 in
set_option maxHeartbeats 1000000 in
theorem enqlate_ok (w : World) (q : Nat) (X : DeqX) (M : TapeM) (P : PendM) (L : LogM) (cur : Int) (late : List Int) (h : EnqAt w q X M P L cur late) :
    Calls Tryz.prog 35 #[.pointer (some ⟨q, 0, none⟩)] w (LateOut w q X M P L cur late) := by
  have hfin := enq_row h (late' := []) (v' := .slice none 0 0) (w1 := w) ⟨IntRow.nil _, Touch.refl _ _, fun g hg => by cases hg⟩
  have hv : IntsAt (w.setCell ⟨q, 4, none⟩ (.slice none 0 0)) X.sv late := h.row.at.touch ((Touch.refl [q] w).setCell _ _ _ _ (by simp)) (fun b hb => h.sep 1 0 (by decide) rfl rfl b (by simpa using hb))
  have hb : ∀ b, X.sv.ownBlock = some b → b ∈ (deqParts q X).flatten := fun b hb => mem_flat (a := X.sv.ownBlock.toList) (by simp [deqParts]) (by simpa using hb)
  have c4 := cell_of h.cells 4 _ rfl
  have f4 := free_of h.cells 4
  obtain ⟨a, cp, hsv⟩ := h.row.form
  have HF := Lib.hid (And.intro hv (And.intro hfin hb))
  rw [hsv] at c4
  have HS := Lib.hid hsv
  clear h hfin hv hb hsv
  go_enter Tryz.func35, Tryz.ntmps35
  go_wp2_with fail
  go_ret
  exact ⟨by rw [HS.out]; rfl, HF.out.1, HF.out.2.1, HF.out.2.2⟩

set_option maxRecDepth 100000 in
set_option maxHeartbeats 1000000 in
theorem enqlate_none (w : World) : Calls Tryz.prog 35 #[.pointer none] w fun e w' => e = .returned (.slice none 0 0) ∧ w = w' := by
  go_enter Tryz.func35, Tryz.ntmps35
  go_wp2_with fail
  go_ret
  exact ⟨rfl, rfl⟩

set_option maxRecDepth 100000 in
set_option maxHeartbeats 1000000 in
theorem enqcur_none (w : World) : Calls Tryz.prog 36 #[.pointer none] w fun e w' => e = .returned (.int .i64 0) ∧ w = w' := by
  go_enter Tryz.func36, Tryz.ntmps36
  go_wp2_with fail
  go_ret
  exact ⟨rfl, rfl⟩

set_option maxRecDepth 100000 in
set_option maxHeartbeats 1000000 in
theorem enqcur_ok (w : World) (q : Nat) (X : DeqX) (M : TapeM) (P : PendM) (L : LogM) (cur : Int) (late : List Int) (h : EnqAt w q X M P L cur late) : Calls Tryz.prog 36 #[.pointer (some ⟨q, 0, none⟩)] w fun e w' => e = .returned (.int .i64 cur) ∧ w = w' := by
  have c3 := cell_of h.cells 3 _ rfl
  clear h
  go_enter Tryz.func36, Tryz.ntmps36
  go_wp2_with fail
  go_ret
  exact ⟨rfl, rfl⟩

set_option maxRecDepth 100000 in
set_option maxHeartbeats 1000000 in
theorem enqstep_nil (w : World) : Calls Tryz.prog 32 #[.pointer none] w fun e w' => e = .returned (.tuple #[.bool false, .int .i64 1]) ∧ w = w' := by
  go_enter Tryz.func32, Tryz.ntmps32
  go_wp2_with fail
  go_ret2
  exact ⟨rfl, rfl⟩

set_option maxRecDepth 100000 in
set_option maxHeartbeats 1000000 in
theorem enqleft_nil (w : World) : Calls Tryz.prog 48 #[.pointer none] w fun e w' => e = .returned (.int .i64 0) ∧ w = w' := by
  go_enter Tryz.func48, Tryz.ntmps48
  go_wp2_with fail
  go_ret
  exact ⟨rfl, rfl⟩
end Go.Proofs.YtljgifbnmgpdbaaGreatDoor

namespace Go.Proofs.YtljgifbnmgpdbaaGreatDoor
open Go Go.RowKit

def RigMade19 (w : World) (hand : Int) (e : Ending) (w' : World) : Prop :=
  ∃ q X, e = .returned (.tuple #[rigV q X, .bool true]) ∧ EnqAt w' q X ⟨[], 0, 0⟩ [] ⟨hand, List.replicate 16 0, []⟩ 0 [] ∧ X.cap = 1048576 ∧ Touch [] w w' ∧ ∀ a ∈ deqParts q X, ∀ b ∈ a, w.heap.size ≤ b

set_option maxRecDepth 100000 in
set_option maxHeartbeats 2000000 in
theorem made19_ok (w : World) (hg : Glob w) (hand : Int) (h0 : 0 ≤ hand) (h1 : hand ≤ 1099511627776) :
    Calls Tryz.prog 29 #[.int .i64 hand] w (RigMade19 w hand) := by
  have HG := Lib.hid (And.intro hg (And.intro trivial (And.intro h0 h1)))
  clear hg h0 h1
  go_enter Tryz.func29, Tryz.ntmps29
  go_wp2_with fail
  obtain ⟨w0, hw0⟩ : ∃ w0, w0 = w.alloc (.cells #[.pointer none, .pointer none, .pointer none, .pointer none] 59) := ⟨_, rfl⟩
  have hT0 : Touch [] w w0 := by rw [hw0]; exact (Touch.refl _ _).alloc _
  have hR0 : w0.heap[w.heap.size]? = some (.cells #[.pointer none, .pointer none, .pointer none, .pointer none] 59 (0, 0)) := by rw [hw0]; exact heap_alloc_at _ _
  have H0 := Lib.hid (And.intro hT0 hR0)
  rw [← hw0]
  clear hw0 hT0 hR0
  have hg0 := HG.out.1.touch H0.out.1 (by simp)
  refine (newV_ok w0 1048576 (by omega) hg0.1).mono ?_
  rintro e w1 ⟨d, F, rfl, hD, hT1, hG1⟩
  have hg1 := hg0.touch hT1 (by simp)
  have H1 := Lib.hid (And.intro hD (And.intro hT1 (And.intro hG1 (And.intro hg0 hg1))))
  clear hD hT1 hG1 hg0 hg1
  go_wp2_with fail
  refine (topen_ok w1 d F 1048576 H1.out.1 H1.out.2.2.2.2).mono ?_
  rintro e w2 ⟨t, Ft, rfl, ht, hT2, hG2⟩
  have H2 := Lib.hid (And.intro ht (And.intro hT2 hG2))
  clear ht hT2 hG2
  go_wp2_with fail
  have hT02 : Touch [] w0 w2 := H1.out.2.1.trans H2.out.2.1 (fun x hx => by
    rcases H1.out.2.2.1 x hx with h | h
    · cases h
    · exact .inr h)
  have hg2 := H1.out.2.2.2.1.touch hT02 (by simp)
  have H02 := Lib.hid (And.intro hT02 hg2)
  clear hT02 hg2
  refine (newV_ok w2 4194304 (by omega) H02.out.2.1).mono ?_
  rintro e w3 ⟨d2, F2, rfl, hD3, hT3, hG3⟩
  have H3 := Lib.hid (And.intro hD3 (And.intro hT3 (And.intro hG3 (H02.out.2.touch hT3 (by simp)))))
  clear hD3 hT3 hG3
  go_wp2_with fail
  refine (lognew_ok w3 d2 F2 4194304 H3.out.1 (by omega) H3.out.2.2.2.1 hand HG.out.2.2.1 HG.out.2.2.2).mono ?_
  rintro e w4 ⟨l, Fl, rfl, hl, hT4, hG4⟩
  have hT24 : Touch [] w2 w4 := H3.out.2.1.trans hT4 (fun x hx => by
    rcases H3.out.2.2.1 x hx with h | h
    · cases h
    · exact .inr h)
  have H4 := Lib.hid (And.intro hl (And.intro hT24 (And.intro hG4 (H02.out.2.touch hT24 (by simp)))))
  clear hl hT4 hG4 hT24
  go_wp2_with fail
  refine (pnew_ok w4 H4.out.2.2.2.1).mono ?_
  rintro e w5 ⟨s, Fs, rfl, hs, hT5, hfs⟩
  have H5 := Lib.hid (And.intro hs (And.intro hT5 hfs))
  clear hs hT5 hfs
  go_wp2_with fail
  refine (enqnew_ok w5 t s l Ft _ _ ((H2.out.1.touch H4.out.2.1 (by simp)).touch H5.out.2.1 (by simp))).mono ?_
  rintro e w6 ⟨rfl, hw6⟩
  have hT6 : Touch [] w5 w6 := by rw [hw6]; exact (Touch.refl _ _).alloc _
  have hc6 : w6.heap[w5.heap.size]? = some (.cells #[.pointer (some ⟨t, 0, none⟩), .pointer (some ⟨s, 0, none⟩), .pointer (some ⟨l, 0, none⟩), .int .i64 0, .slice none 0 0] 158 (0, 0)) := by rw [hw6]; exact heap_alloc_at _ _
  have hR6 := hT6.heap (H5.out.2.1.heap (H4.out.2.1.heap (H02.out.1.heap H0.out.2 (by simp)) (by simp)) (by simp)) (by simp)
  obtain ⟨q, hq⟩ : ∃ q, q = w5.heap.size := ⟨_, rfl⟩
  rw [← hq] at hc6 ⊢
  have c0 := cell_of hR6 0 _ rfl
  have c1 := cell_of hR6 1 _ rfl
  have c2 := cell_of hR6 2 _ rfl
  have c3 := cell_of hR6 3 _ rfl
  have f0 := free_of hR6 0
  have f1 := free_of hR6 1
  have f2 := free_of hR6 2
  have f3 := free_of hR6 3
  have H6 := Lib.hid (And.intro hT6 (And.intro hc6 (And.intro hR6 hq)))
  clear hT6 hc6 hR6 hq hw6
  go_wp2_with fail
  obtain ⟨z, hT7⟩ := store4 H6.out.2.2.1 (.pointer (some ⟨t, 0, none⟩)) (.pointer (some ⟨s, 0, none⟩)) (.pointer (some ⟨l, 0, none⟩)) (.pointer (some ⟨q, 0, none⟩))
  obtain ⟨w7, hw7⟩ : ∃ w7, w7 = ((((w6.setCell ⟨w.heap.size, 0, none⟩ (.pointer (some ⟨t, 0, none⟩))).setCell ⟨w.heap.size, 1, none⟩ (.pointer (some ⟨s, 0, none⟩))).setCell ⟨w.heap.size, 2, none⟩ (.pointer (some ⟨l, 0, none⟩))).setCell ⟨w.heap.size, 3, none⟩ (.pointer (some ⟨q, 0, none⟩))) := ⟨_, rfl⟩
  rw [← hw7] at z hT7 ⊢
  clear hw7 c0 c1 c2 c3 f0 f1 f2 f3
  have s0 := cell_of z 0 _ rfl
  have s1 := cell_of z 1 _ rfl
  have s2 := cell_of z 2 _ rfl
  have s3 := cell_of z 3 _ rfl
  refine bodyPost_ret (v := .tuple #[.agg #[.pointer (some ⟨t, 0, none⟩), .pointer (some ⟨s, 0, none⟩), .pointer (some ⟨l, 0, none⟩), .pointer (some ⟨q, 0, none⟩)], .bool true]) (by simp [results, Tryz.results29, go_sem, s0, s1, s2, s3]) rfl ?_
  have z1 := lt_of_heap H0.out.2
  have z2 := H1.out.2.1.size
  have z3 := H02.out.1.size
  have z4 := H4.out.2.1.size
  have z5 := H5.out.2.1.size
  have z6 := H3.out.2.1.size
  have g8 := HG.out.1.1
  have bFt : ∀ x ∈ Ft, w0.heap.size ≤ x ∧ x < w2.heap.size := fun x hx => by
    refine ⟨?_, H2.out.1.lt x hx⟩
    rcases H2.out.2.2 x hx with h | h
    · rcases H1.out.2.2.1 x h with h | h
      · cases h
      · exact h
    · omega
  have bFl : ∀ x ∈ Fl, w2.heap.size ≤ x ∧ x < w4.heap.size := fun x hx => by
    refine ⟨?_, H4.out.1.lt x hx⟩
    rcases H4.out.2.2.1 x hx with h | h
    · rcases H3.out.2.2.1 x h with h | h
      · cases h
      · exact h
    · omega
  have bFs : ∀ x ∈ Fs, w4.heap.size ≤ x ∧ x < w5.heap.size := fun x hx => ⟨H5.out.2.2 x hx, H5.out.1.lt x hx⟩
  have hq := H6.out.2.2.2
  have hT57 : Touch [w.heap.size] w5 w7 := H6.out.1.nil.trans' hT7
  have hT47 : Touch [w.heap.size] w4 w7 := H5.out.2.1.nil.trans' hT57
  have hT27 : Touch [w.heap.size] w2 w7 := H4.out.2.1.nil.trans' hT47
  have hno : ∀ {x : Nat}, w0.heap.size ≤ x → x ∉ [w.heap.size] := fun h hm => by simp at hm; omega
  have hpb : ∀ a ∈ deqParts q ⟨t, s, l, Ft, Fs, Fl, .slice none 0 0, 1048576, 4194304, 3⟩, ∀ b ∈ a, w0.heap.size ≤ b := by
    intro a ha b hb
    simp only [deqParts, List.mem_cons, List.not_mem_nil, or_false] at ha
    rcases ha with rfl | rfl | rfl | rfl | rfl
    · simp at hb; omega
    · simp [Value.ownBlock] at hb
    · exact (bFt b hb).1
    · have := (bFs b hb).1; omega
    · have := (bFl b hb).1; omega
  refine ⟨q, ⟨t, s, l, Ft, Fs, Fl, .slice none 0 0, 1048576, 4194304, 3⟩, rfl, ⟨hT7.heap H6.out.2.1 (hno (by omega)), H2.out.1.touch hT27 (fun b hb => hno (bFt b hb).1), H5.out.1.touch hT57 (fun b hb => hno (by have := (bFs b hb).1; omega)), H4.out.1.touch hT47 (fun b hb => hno (by have := (bFl b hb).1; omega)), IntRow.nil _, ?_, ?_, rfl, by rw [waits_none]; exact Nat.le_refl _⟩, rfl, ?_, ?_⟩
  · refine apart_new (sv := .slice none 0 0) (fun x hx => ?_) rfl (fun x hx => ?_) (fun x hx => ?_)
    · simp at hx
      subst hx
      exact ⟨fun h => by have := (bFt _ h).2; omega, fun h => by have := (bFs _ h).2; omega, fun h => by have := (bFl _ h).2; omega⟩
    · have h1 := (bFt x hx).2
      exact ⟨fun h => by have := (bFs _ h).1; omega, fun h => by have := (bFl _ h).1; omega⟩
    · intro h
      have h1 := (bFs x hx).1
      have := (bFl _ h).2; omega
  · intro a ha b hb
    have := hpb a ha b hb
    omega
  · exact (H0.out.1.trans' H02.out.1).trans hT27 (fun x hx => by simp at hx; right; omega)
  · intro a ha b hb
    have := hpb a ha b hb
    omega
end Go.Proofs.YtljgifbnmgpdbaaGreatDoor

namespace Go.Proofs.YtljgifbnmgpdbaaGreatDoor
open Go Go.RowKit

/-- What stands behind what was appended, and noted. -/
def EnqAdded (w : World) (q : Nat) (X : DeqX) (M : TapeM) (P : PendM) (L : LogM) (cur : Int) (late : List Int) (m : MsgM) (e : Ending) (w' : World) : Prop :=
  e = .returned (.tuple #[.int .i64 (M.idOf m : Nat), .bool true]) ∧ EnqTo w q X (M.push m) (pendNote P (M.idOf m : Nat) m).2 L cur late w'

set_option maxRecDepth 100000 in
set_option maxHeartbeats 2000000 in
theorem add19_ok (w : World) (q : Nat) (X : DeqX) (M : TapeM) (P : PendM) (L : LogM) (cur : Int) (late : List Int) (h : EnqAt w q X M P L cur late) (hg : Glob w) (m : MsgM) (kv : Value) (hk : KeysAt w kv m.keys) (hkF : m.keys ≠ [] → ∀ b, kv.ownBlock = some b → b ∉ X.Ft)
    (hm : rightM m = true) (hl : M.recs.length ≤ 200000) (hcap : M.fin + M.cost m ≤ X.cap) :
    Calls Tryz.prog 30 #[rigV q X, msgV m kv] w (EnqAdded w q X M P L cur late m) := by
  obtain ⟨a', cp', rfl, hstr⟩ := hk
  have hk : KeysAt w (.slice a' m.keys.length cp') m.keys := ⟨a', cp', rfl, hstr⟩
  obtain ⟨w0, hw0⟩ : ∃ w0, w0 = (w.alloc (.cells #[.pointer (some ⟨X.t, 0, none⟩), .pointer (some ⟨X.s, 0, none⟩), .pointer (some ⟨X.l, 0, none⟩), .pointer (some ⟨q, 0, none⟩)] 59)).alloc (msgObj m (.slice a' m.keys.length cp')) := ⟨_, rfl⟩
  have hT0 : Touch [] w w0 := by rw [hw0]; exact ((Touch.refl _ _).alloc _).alloc _
  have hR0 : w0.heap[w.heap.size]? = some (.cells #[.pointer (some ⟨X.t, 0, none⟩), .pointer (some ⟨X.s, 0, none⟩), .pointer (some ⟨X.l, 0, none⟩), .pointer (some ⟨q, 0, none⟩)] 59 (0, 0)) := by rw [hw0]; exact heap_alloc_lt (heap_alloc_at _ _) _
  have hM0 : w0.heap[w.heap.size + 1]? = some (msgObj m (.slice a' m.keys.length cp')) := by rw [hw0]; exact heap_at _ _ _ (by simp)
  have h0 := h.quiet hT0
  have hap := tappend_ok w0 _ _ _ _ h0.tape (hg.touch hT0 (by simp)) m _ (hk.quiet hT0) hkF hm hl hcap
  have HA := Lib.hid hap
  have HH := Lib.hid (And.intro h0 (And.intro hT0 (And.intro hR0 (And.intro hM0 h))))
  obtain ⟨M', hM'⟩ : ∃ M', M' = M.push m := ⟨_, rfl⟩
  obtain ⟨i, hi⟩ : ∃ i, i = M.idOf m := ⟨_, rfl⟩
  have HM := Lib.hid (And.intro hM' hi)
  unfold msgObj at hw0 hM0
  have c0 := cell_of hM0 0 _ rfl
  have c1 := cell_of hM0 1 _ rfl
  have c2 := cell_of hM0 2 _ rfl
  have c3 := cell_of hM0 3 _ rfl
  have c4 := cell_of hM0 4 _ rfl
  have c5 := cell_of hM0 5 _ rfl
  have c6 := cell_of hM0 6 _ rfl
  have c7 := cell_of hM0 7 _ rfl
  have c8 := cell_of hM0 8 _ rfl
  have c9 := cell_of hM0 9 _ rfl
  have r0 := cell_of hR0 0 _ rfl
  have r1 := cell_of hR0 1 _ rfl
  have HW := Lib.hid hw0
  rw [hw0] at c0 c1 c2 c3 c4 c5 c6 c7 c8 c9 r0
  clear hap h0 hk hstr hT0 hR0 hM0 hg hkF hm hl hcap hM' hi h hw0 r1
  unfold rigV msgV
  go_enter Tryz.func30, Tryz.ntmps30
  go_wp2_with fail
  rw [← HW.out]
  clear c0 c1 c2 c3 c4 c5 c6 c7 c8 c9 r0
  refine HA.out.mono ?_
  rintro e w1 ⟨rfl, F', ht1, hT1, hG1⟩
  obtain ⟨h1, hg1⟩ := enq_tape HH.out.1 ht1 hT1 hG1
  have hX := HH.out.2.2.2.2.lt X.Ft (by simp [deqParts])
  have hR1 := hT1.heap HH.out.2.2.1 (fun hm => by have := hX _ hm; omega)
  have hM1 := hT1.heap HH.out.2.2.2.1 (fun hm => by have := hX _ hm; omega)
  have H1 := Lib.hid (And.intro h1 (And.intro hg1 hT1))
  unfold msgObj at hM1
  have c0 := cell_of hM1 0 _ rfl
  have c1 := cell_of hM1 1 _ rfl
  have c2 := cell_of hM1 2 _ rfl
  have c3 := cell_of hM1 3 _ rfl
  have c4 := cell_of hM1 4 _ rfl
  have c5 := cell_of hM1 5 _ rfl
  have c6 := cell_of hM1 6 _ rfl
  have c7 := cell_of hM1 7 _ rfl
  have c8 := cell_of hM1 8 _ rfl
  have c9 := cell_of hM1 9 _ rfl
  have r1 := cell_of hR1 1 _ rfl
  clear h1 hg1 ht1 hT1 hG1 hX hR1 hM1
  go_wp2_with fail
  have hno := pnote_ok w1 _ _ _ H1.out.1.pend (M.idOf m : Nat) m a' m.keys.length cp'
  unfold msgV at hno
  have HN := Lib.hid hno
  clear hno c0 c1 c2 c3 c4 c5 c6 c7 c8 c9 r1
  refine HN.out.mono ?_
  rintro e w2 ⟨rfl, hp2, hT2⟩
  have h2 := enq_pend H1.out.1 hp2 hT2
  have HF := Lib.hid (show EnqTo w q X (M.push m) (pendNote P (M.idOf m : Nat) m).2 L cur late w2 from ⟨{ X with Ft := F' }, h2, rfl, rfl, rfl, rfl, rfl,
    (HH.out.2.1.nil.trans' (H1.out.2.2.mono fun x hx => mem_flat (a := X.Ft) (by simp [deqParts]) hx)).trans' (hT2.mono fun x hx => mem_flat (a := X.Fs) (by simp [deqParts]) hx), fun a ha b hb => by
      rcases H1.out.2.1 a ha b hb with h | h
      · exact .inl h
      · right; have := HH.out.2.1.size; omega⟩)
  clear h2 hp2 hT2
  obtain ⟨r1, hr1⟩ : ∃ r1, r1 = (pendNote P (M.idOf m : Nat) m).1 := ⟨_, rfl⟩
  rw [← hr1]
  clear hr1
  go_wp2_with fail
  go_ret2
  exact ⟨rfl, HF.out⟩
def rigObjE (t s l q : Nat) : Obj := .cells #[.pointer (some ⟨t, 0, none⟩), .pointer (some ⟨s, 0, none⟩), .pointer (some ⟨l, 0, none⟩), .pointer (some ⟨q, 0, none⟩)] 59 (0, 0)

structure RigE (w w' : World) (q B t s l cap : Nat) (X : DeqX) (M : TapeM) (P : PendM) (L : LogM) (cur : Int) (late : List Int) : Prop where
  at_ : EnqAt w' q X M P L cur late
  rig : w'.heap[B]? = some (rigObjE t s l q)
  off : ∀ a ∈ deqParts q X, ∀ b ∈ a, b ≠ B
  touch : Touch [] w w'
  ge : ∀ a ∈ deqParts q X, ∀ b ∈ a, w.heap.size ≤ b
  bge : w.heap.size ≤ B
  ids : X.t = t ∧ X.s = s ∧ X.l = l ∧ X.cap = cap

theorem RigE.to {w w1 w2 : World} {q B t s l cap : Nat} {X : DeqX} {M M' : TapeM} {P P' : PendM} {L L' : LogM} {cur cur' : Int} {late late' : List Int} (h : RigE w w1 q B t s l cap X M P L cur late) (hto : EnqTo w1 q X M' P' L' cur' late' w2) : ∃ X', RigE w w2 q B t s l cap X' M' P' L' cur' late' := by
  obtain ⟨X', h2, e1, e2, e3, e4, -, hT, hg⟩ := hto
  have hn : ∀ b ∈ (deqParts q X).flatten, b ≠ B ∧ w.heap.size ≤ b := fun b hb => by
    obtain ⟨a, ha, hx⟩ := List.mem_flatten.1 hb
    exact ⟨h.off a ha b hx, h.ge a ha b hx⟩
  refine ⟨X', h2, hT.heap h.rig (fun hm => (hn _ hm).1 rfl), fun a ha b hb e => ?_, h.touch.trans hT (fun x hx => .inr (hn x hx).2), fun a ha b hb => ?_, h.bge, e1.trans h.ids.1, e2.trans h.ids.2.1, e3.trans h.ids.2.2.1, e4.trans h.ids.2.2.2⟩
  · rcases hg a ha b hb with h3 | h3
    · exact (hn b h3).1 e
    · have := lt_of_heap h.rig; omega
  · rcases hg a ha b hb with h3 | h3
    · exact (hn b h3).2
    · have := h.touch.size; omega

theorem RigE.quiet {w w1 w2 : World} {q B t s l cap : Nat} {X : DeqX} {M : TapeM} {P : PendM} {L : LogM} {cur : Int} {late : List Int} (h : RigE w w1 q B t s l cap X M P L cur late) (hT : Touch [] w1 w2) : RigE w w2 q B t s l cap X M P L cur late :=
  ⟨h.at_.quiet hT, hT.heap h.rig (by simp), h.off, h.touch.trans' hT, h.ge, h.bge, h.ids⟩

theorem RigE.made {w w1 : World} {q : Nat} {X : DeqX} {cap : Nat} {M : TapeM} {P : PendM} {L : LogM} (hd : EnqAt w1 q X M P L 0 []) (hcap : X.cap = cap) (hT1 : Touch [] w w1) (hge : ∀ a ∈ deqParts q X, ∀ b ∈ a, w.heap.size ≤ b) :
    RigE w (w1.alloc (rigObjE X.t X.s X.l q)) q w1.heap.size X.t X.s X.l cap X M P L 0 [] :=
  ⟨hd.quiet ((Touch.refl _ _).alloc _), heap_alloc_at _ _, fun a ha b hb e => by have := hd.lt a ha b hb; omega, hT1.alloc _, hge, hT1.size, rfl, rfl, rfl, hcap⟩

end Go.Proofs.YtljgifbnmgpdbaaGreatDoor

namespace Go.Proofs.YtljgifbnmgpdbaaGreatDoor
open Go Go.RowKit

/-- Records stand one behind the other. -/
def Stand (l : List (Nat × MsgM)) : Prop := l.Pairwise fun a b => a.1 + recSize a.2 ≤ b.1

theorem countP_none {α : Type} {p : α → Bool} : ∀ {l : List α}, (∀ x ∈ l, p x = false) → l.countP p = 0 := by
  intro l h
  rw [List.countP_eq_zero]
  intro x hx; simp [h x hx]
theorem countP_all {α : Type} {p : α → Bool} : ∀ {l : List α}, (∀ x ∈ l, p x = true) → l.countP p = l.length := by
  intro l h
  rw [List.countP_eq_length]
  exact h

/-- Behind a record stands the next one. -/
theorem place_behind {M : TapeM} (h : Stand M.recs) {i : Nat} {p : Nat × MsgM} (hp : M.recs[i]? = some p) : M.place ((p.1 + recSize p.2 : Nat) : Int) = i + 1 := by
  obtain ⟨hi, rfl⟩ := List.getElem?_eq_some_iff.1 hp
  have hpw := List.pairwise_iff_getElem.1 h
  have key : ∀ e : Nat, e = (M.recs[i]).1 + recSize (M.recs[i]).2 → M.place (e : Int) = i + 1 := by
    intro e he
    unfold TapeM.place
    rw [← List.take_append_drop (i + 1) M.recs, List.countP_append, countP_all, countP_none, List.length_take, Nat.min_eq_left (by omega)]
    · intro x hx
      obtain ⟨j, hj, rfl⟩ := List.getElem_of_mem hx
      rw [List.getElem_drop]
      have hl : i + 1 + j < M.recs.length := by rw [List.length_drop] at hj; omega
      have := hpw i (i + 1 + j) hi hl (by omega)
      simp; omega
    · intro x hx
      obtain ⟨j, hj, rfl⟩ := List.getElem_of_mem hx
      rw [List.getElem_take]
      have hj' : j < i + 1 := by rw [List.length_take] at hj; omega
      have hr := recSize_ge (M.recs[i]).2
      by_cases e1 : j = i
      · subst e1; simp; omega
      · have := hpw j i (by omega) hi (by omega)
        simp; omega
  exact key _ rfl

theorem place_zero (M : TapeM) : M.place 0 = 0 := by
  unfold TapeM.place
  exact countP_none fun x _ => by simp

/-- The scheduled records that are synced, from a place in the list on. -/
def TapeM.sched (M : TapeM) (j : Nat) : List (Nat × MsgM) := (M.recs.drop j).filter fun p => decide (p.1 < M.synced) && decide (p.2.kind = 2)

theorem sched_end {M : TapeM} {j : Nat} (h : M.recs[j]? = none) : M.sched j = [] := by
  unfold TapeM.sched
  rw [List.drop_eq_nil_of_le (List.getElem?_eq_none_iff.1 h)]; rfl
theorem sched_unsynced {M : TapeM} (hr : Stand M.recs) {j : Nat} {p : Nat × MsgM} (h : M.recs[j]? = some p) (hs : M.synced ≤ p.1) : M.sched j = [] := by
  obtain ⟨hi, rfl⟩ := List.getElem?_eq_some_iff.1 h
  have hpw := List.pairwise_iff_getElem.1 hr
  unfold TapeM.sched
  rw [List.filter_eq_nil_iff]
  intro x hx
  obtain ⟨k, hk, rfl⟩ := List.getElem_of_mem hx
  rw [List.getElem_drop]
  have hl : j + k < M.recs.length := by rw [List.length_drop] at hk; omega
  have : M.synced ≤ (M.recs[j + k]).1 := by
    cases k with
    | zero => simpa using hs
    | succ k =>
      have := hpw j (j + (k + 1)) hi hl (by omega)
      omega
  simp; omega
theorem sched_skip {M : TapeM} {j : Nat} {p : Nat × MsgM} (h : M.recs[j]? = some p) (hk : p.2.kind ≠ 2) : M.sched j = M.sched (j + 1) := by
  obtain ⟨hi, rfl⟩ := List.getElem?_eq_some_iff.1 h
  unfold TapeM.sched
  rw [List.drop_eq_getElem_cons hi, List.filter_cons, if_neg (by simp [hk])]
theorem sched_hit {M : TapeM} {j : Nat} {p : Nat × MsgM} (h : M.recs[j]? = some p) (hs : p.1 < M.synced) (hk : p.2.kind = 2) : M.sched j = p :: M.sched (j + 1) := by
  obtain ⟨hi, rfl⟩ := List.getElem?_eq_some_iff.1 h
  unfold TapeM.sched
  rw [List.drop_eq_getElem_cons hi, List.filter_cons, if_pos (by simp [hs, hk])]

theorem TapeV.stand {w : World} {t : Nat} {F : List Nat} {M : TapeM} {cap : Nat} (h : TapeV w t F M cap) : Stand M.recs := by
  obtain ⟨X, h, -⟩ := h; exact h.recs.sorted
theorem TapeV.rights {w : World} {t : Nat} {F : List Nat} {M : TapeM} {cap : Nat} (h : TapeV w t F M cap) : ∀ p ∈ M.recs, rightM p.2 = true ∧ p.1 + recSize p.2 ≤ M.fin := by
  obtain ⟨X, h, -⟩ := h; exact fun p hp => ⟨(h.recs.each p hp).1, (h.recs.each p hp).2.1⟩
theorem size_of_stand {M : TapeM} (h : Stand M.recs) {p : Nat × MsgM} (hp : p ∈ M.recs) : M.sizeAt (p.1 : Nat) = recSize p.2 := by
  obtain ⟨recs, fin, syn⟩ := M
  simp only at h hp
  unfold TapeM.sizeAt
  simp only
  have key : recs.find? (fun x => decide ((x.1 : Int) = (p.1 : Nat))) = some p := by
    obtain ⟨i, hi, rfl⟩ := List.getElem_of_mem hp
    rw [List.find?_eq_some_iff_getElem]
    refine ⟨by simp, i, hi, rfl, fun j hj => ?_⟩
    have := List.pairwise_iff_getElem.1 h j i (by omega) hi hj
    have := recSize_ge (recs[j]).2
    simp; omega
  rw [key]
end Go.Proofs.YtljgifbnmgpdbaaGreatDoor

namespace Go.Proofs.YtljgifbnmgpdbaaGreatDoor
open Go Go.RowKit

def NextOut (w : World) (l : List (Nat × MsgM)) (e : Ending) (w' : World) : Prop := match l with
  | [] => e = .returned (.tuple #[.int .i64 0, msgV noMsg (.slice none 0 0), .bool false]) ∧ Touch [] w w'
  | p :: _ => ∃ kv, e = .returned (.tuple #[.int .i64 (p.1 : Nat), msgV p.2 kv, .bool true]) ∧ KeysAt w' kv p.2.keys ∧ (∀ b, kv.ownBlock = some b → w.heap.size ≤ b) ∧ Touch [] w w'

theorem place_le (M : TapeM) (a : Int) : M.place a ≤ M.recs.length := List.countP_le_length

/-- The record that a walk of the tape finds at a place. -/
theorem next_at {M : TapeM} {a : Int} {p : Nat × MsgM} (h : M.next a = some p) : M.recs[M.place a]? = some p := h


set_option maxRecDepth 100000 in
set_option maxHeartbeats 4000000 in
theorem enqnext_ok (w : World) (q : Nat) (X : DeqX) (M : TapeM) (P : PendM) (L : LogM) (cur : Int) (late : List Int) (h : EnqAt w q X M P L cur late) (hg : Glob w) (hl : M.recs.length ≤ 200000) (at0 : Int) :
    Calls Tryz.prog 88 #[.pointer (some ⟨q, 0, none⟩), .int .i64 at0] w (NextOut w (M.sched (M.place at0))) := by
  obtain ⟨S, hS⟩ : ∃ S, S = M.sched (M.place at0) := ⟨_, rfl⟩
  rw [← hS]
  obtain ⟨w0, hw0⟩ : ∃ w0, w0 = w.alloc (msgObj noMsg (.slice none 0 0)) := ⟨_, rfl⟩
  have hT0 : Touch [] w w0 := by rw [hw0]; exact (Touch.refl _ _).alloc _
  have hB0 : w0.heap[w.heap.size]? = some (msgObj noMsg (.slice none 0 0)) := by rw [hw0]; exact heap_alloc_at _ _
  obtain ⟨B, hB⟩ : ∃ B, B = w.heap.size := ⟨_, rfl⟩
  rw [← hB] at hB0
  have hle := h.tape.le
  have HX := Lib.hid (And.intro h (And.intro hg (And.intro hl (And.intro h.tape.stand (And.intro h.tape.rights h.tape.synced_le)))))
  have HS := Lib.hid hS
  have H0 := Lib.hid (And.intro hT0 (And.intro hB0 hB))
  unfold msgObj noMsg at hw0
  simp only at hw0
  have HW0 := Lib.hid hw0
  have HLE := Lib.hid hle
  have HB := Lib.hid hB
  clear h hg hl hS hT0 hB0 hw0 hle hB
  go_enter Tryz.func88, Tryz.ntmps88
  go_upto_region 1 with fail
  rw [← HW0.out]
  rw [← HB.out]
  go_loopg [1] (M.recs.length + 1) (fun k s1 wr => ∃ a : Int, s1 = .int .i64 a ∧ M.recs.length - M.place a + 1 ≤ k ∧ M.sched (M.place a) = S ∧ Touch [] w wr ∧ wr.heap[B]? = some (msgObj noMsg (.slice none 0 0)))
  case atStart => exact ⟨at0, by go_num, by omega, HS.out.symm, H0.out.1, H0.out.2.1⟩
  case round =>
    obtain ⟨a, rfl, hk, hsc, hT, hb⟩ := hrel
    have HR := Lib.hid (And.intro hk (And.intro hsc (And.intro hT hb)))
    have hX := HX.out.1.quiet hT
    have c0 := cell_of hX.cells 0 _ rfl
    have hgr := HX.out.2.1.touch hT (by simp)
    cases hnx : M.next a with
    | none =>
      have hSn : S = [] := by rw [← hsc]; exact sched_end hnx
      have hnone := tnext_none wr _ _ _ _ hX.tape (by have := HX.out.2.2.1; omega) a hnx
      have HN := Lib.hid hnone
      subst hSn
      clear hk hsc hT hb hX hgr hnone hnx
      go_wp2_with fail
      refine HN.out.mono ?_
      rintro e w1 ⟨rfl, hT1⟩
      clear c0
      have hTz := HR.out.2.2.1.trans' hT1
      have hBz := hT1.heap HR.out.2.2.2 (by simp)
      unfold msgObj noMsg at hBz
      simp only at hBz
      have hBz2 := hBz
      have x0 := cell_of hBz2 0 _ rfl
      have x1 := cell_of hBz2 1 _ rfl
      have x2 := cell_of hBz2 2 _ rfl
      have x3 := cell_of hBz2 3 _ rfl
      have x4 := cell_of hBz2 4 _ rfl
      have x5 := cell_of hBz2 5 _ rfl
      have x6 := cell_of hBz2 6 _ rfl
      have x7 := cell_of hBz2 7 _ rfl
      have x8 := cell_of hBz2 8 _ rfl
      have x9 := cell_of hBz2 9 _ rfl
      have y0 := free_of hBz2 0
      have y1 := free_of hBz2 1
      have y2 := free_of hBz2 2
      have y3 := free_of hBz2 3
      have y4 := free_of hBz2 4
      have y5 := free_of hBz2 5
      have y6 := free_of hBz2 6
      have y7 := free_of hBz2 7
      have y8 := free_of hBz2 8
      have y9 := free_of hBz2 9
      have HZ := Lib.hid (And.intro hTz hBz)
      clear hTz hBz hBz2
      go_wp2_with fail
      obtain ⟨zf, hTF⟩ := store10 HZ.out.2 (.int .i64 0) (.int .i64 0) (.int .i64 0) (.int .i64 0) (.int .i64 0) (.int .i64 0) (.string ⟨#[]⟩) (.string ⟨#[]⟩) (.string ⟨#[]⟩) (.slice none 0 0)
      obtain ⟨Wf, hWf⟩ : ∃ Wf, Wf = ((((((((((((w1).setCell ⟨B, 0, none⟩ (.int .i64 0)).setCell ⟨B, 1, none⟩ (.int .i64 0)).setCell ⟨B, 2, none⟩ (.int .i64 0)).setCell ⟨B, 3, none⟩ (.int .i64 0)).setCell ⟨B, 4, none⟩ (.int .i64 0)).setCell ⟨B, 5, none⟩ (.int .i64 0)).setCell ⟨B, 6, none⟩ (.string ⟨#[]⟩)).setCell ⟨B, 7, none⟩ (.string ⟨#[]⟩)).setCell ⟨B, 8, none⟩ (.string ⟨#[]⟩)).setCell ⟨B, 9, none⟩ (.slice none 0 0))) := ⟨_, rfl⟩
      rw [← hWf] at zf hTF ⊢
      clear hWf x0 x1 x2 x3 x4 x5 x6 x7 x8 x9 y0 y1 y2 y3 y4 y5 y6 y7 y8 y9
      have s0 := cell_of zf 0 _ rfl
      have s1 := cell_of zf 1 _ rfl
      have s2 := cell_of zf 2 _ rfl
      have s3 := cell_of zf 3 _ rfl
      have s4 := cell_of zf 4 _ rfl
      have s5 := cell_of zf 5 _ rfl
      have s6 := cell_of zf 6 _ rfl
      have s7 := cell_of zf 7 _ rfl
      have s8 := cell_of zf 8 _ rfl
      have s9 := cell_of zf 9 _ rfl
      refine bodyPost_ret (v := .tuple #[.int .i64 0, msgV noMsg (.slice none 0 0), .bool false]) (by simp [results, Tryz.results88, go_sem, msgV, noMsg, s0, s1, s2, s3, s4, s5, s6, s7, s8, s9]) rfl ⟨rfl, HZ.out.1.trans hTF (fun x hx => by simp at hx; right; have := H0.out.2.2; omega)⟩
    | some p =>
      obtain ⟨id, m⟩ := p
      have hpi : M.recs[M.place a]? = some (id, m) := hnx
      have hpm : (id, m) ∈ M.recs := List.mem_of_getElem? hpi
      have hsome := tnext_some wr _ _ _ _ hX.tape (by have := HX.out.2.2.1; omega) a (id, m) hnx
      have hpf : id + recSize m ≤ M.fin := (HX.out.2.2.2.2.1 (id, m) hpm).2
      have hle := HLE.out
      have Bid : (id : Int) ≤ 16777216 := by omega
      simp only at hsome
      have HN := Lib.hid (And.intro hsome (And.intro hpi (And.intro hpm hpf)))
      clear hk hsc hT hb hX hgr hnx hsome hpi hpm hle hpf
      go_wp2_with fail
      refine HN.out.1.mono ?_
      rintro e w1 ⟨rfl, hT1⟩
      have HT1 := Lib.hid (HR.out.2.2.1.trans' hT1)
      have hX1 := HX.out.1.quiet HT1.out
      have c0 := cell_of hX1.cells 0 _ rfl
      have hb1 := hT1.heap HR.out.2.2.2 (by simp)
      have HB1 := Lib.hid hb1
      have hsyn := tsynced_ok w1 _ _ _ _ hX1.tape
      have HSY := Lib.hid hsyn
      clear hT1 hX1 hb1 hsyn
      by_cases hsy : M.synced ≤ id
      · have hSn : S = [] := by rw [← HR.out.2.1]; exact sched_unsynced HX.out.2.2.2.1 HN.out.2.1 hsy
        have hd : decide (((M.synced : Nat) : Int) ≤ (id : Int)) = true := by simp; omega
        subst hSn
        go_wp2_with fail
        refine HSY.out.mono ?_
        rintro e w' ⟨rfl, rfl⟩
        clear c0
        have hTz := HT1.out
        have hBz := HB1.out
        unfold msgObj noMsg at hBz
        simp only at hBz
        have hBz2 := hBz
        have x0 := cell_of hBz2 0 _ rfl
        have x1 := cell_of hBz2 1 _ rfl
        have x2 := cell_of hBz2 2 _ rfl
        have x3 := cell_of hBz2 3 _ rfl
        have x4 := cell_of hBz2 4 _ rfl
        have x5 := cell_of hBz2 5 _ rfl
        have x6 := cell_of hBz2 6 _ rfl
        have x7 := cell_of hBz2 7 _ rfl
        have x8 := cell_of hBz2 8 _ rfl
        have x9 := cell_of hBz2 9 _ rfl
        have y0 := free_of hBz2 0
        have y1 := free_of hBz2 1
        have y2 := free_of hBz2 2
        have y3 := free_of hBz2 3
        have y4 := free_of hBz2 4
        have y5 := free_of hBz2 5
        have y6 := free_of hBz2 6
        have y7 := free_of hBz2 7
        have y8 := free_of hBz2 8
        have y9 := free_of hBz2 9
        have HZ := Lib.hid (And.intro hTz hBz)
        clear hTz hBz hBz2
        go_wp2_with fail
        obtain ⟨zf, hTF⟩ := store10 HZ.out.2 (.int .i64 0) (.int .i64 0) (.int .i64 0) (.int .i64 0) (.int .i64 0) (.int .i64 0) (.string ⟨#[]⟩) (.string ⟨#[]⟩) (.string ⟨#[]⟩) (.slice none 0 0)
        obtain ⟨Wf, hWf⟩ : ∃ Wf, Wf = ((((((((((((w1).setCell ⟨B, 0, none⟩ (.int .i64 0)).setCell ⟨B, 1, none⟩ (.int .i64 0)).setCell ⟨B, 2, none⟩ (.int .i64 0)).setCell ⟨B, 3, none⟩ (.int .i64 0)).setCell ⟨B, 4, none⟩ (.int .i64 0)).setCell ⟨B, 5, none⟩ (.int .i64 0)).setCell ⟨B, 6, none⟩ (.string ⟨#[]⟩)).setCell ⟨B, 7, none⟩ (.string ⟨#[]⟩)).setCell ⟨B, 8, none⟩ (.string ⟨#[]⟩)).setCell ⟨B, 9, none⟩ (.slice none 0 0))) := ⟨_, rfl⟩
        rw [← hWf] at zf hTF ⊢
        clear hWf x0 x1 x2 x3 x4 x5 x6 x7 x8 x9 y0 y1 y2 y3 y4 y5 y6 y7 y8 y9
        have s0 := cell_of zf 0 _ rfl
        have s1 := cell_of zf 1 _ rfl
        have s2 := cell_of zf 2 _ rfl
        have s3 := cell_of zf 3 _ rfl
        have s4 := cell_of zf 4 _ rfl
        have s5 := cell_of zf 5 _ rfl
        have s6 := cell_of zf 6 _ rfl
        have s7 := cell_of zf 7 _ rfl
        have s8 := cell_of zf 8 _ rfl
        have s9 := cell_of zf 9 _ rfl
        refine bodyPost_ret (v := .tuple #[.int .i64 0, msgV noMsg (.slice none 0 0), .bool false]) (by simp [results, Tryz.results88, go_sem, msgV, noMsg, s0, s1, s2, s3, s4, s5, s6, s7, s8, s9]) rfl ⟨rfl, HZ.out.1.trans hTF (fun x hx => by simp at hx; right; have := H0.out.2.2; omega)⟩
      · have hd : decide (((M.synced : Nat) : Int) ≤ (id : Int)) = false := by simp; omega
        go_wp2_with fail
        refine HSY.out.mono ?_
        rintro e w' ⟨rfl, rfl⟩
        have hread := tread_ok w1 _ _ _ _ (HX.out.1.quiet HT1.out).tape (HX.out.2.1.touch HT1.out (by simp)) id m HN.out.2.2.1
        have HRD := Lib.hid hread
        clear hread
        go_wp2_with fail
        refine HRD.out.mono ?_
        rintro e w2 ⟨kv, rfl, hks, hfr, hT2⟩
        obtain ⟨a', cp', rfl, hstr⟩ := hks
        obtain ⟨B2, hB2⟩ : ∃ B2, B2 = w2.heap.size := ⟨_, rfl⟩
        obtain ⟨w4, hw4⟩ : ∃ w4, w4 = w2.alloc (msgObj m (.slice a' m.keys.length cp')) := ⟨_, rfl⟩
        have hB4 : w4.heap[w2.heap.size]? = some (msgObj m (.slice a' m.keys.length cp')) := by rw [hw4]; exact heap_alloc_at _ _
        have hT24 : Touch [] w2 w4 := by rw [hw4]; exact (Touch.refl _ _).alloc _
        rw [← hB2] at hB4
        unfold msgObj at hw4 hB4
        have HW4 := Lib.hid hw4
        have HB2 := Lib.hid hB2
        have H4 := Lib.hid (And.intro hB4 (And.intro (HT1.out.trans' (hT2.trans' hT24)) (And.intro hstr (And.intro hfr (And.intro (hT24.heap (hT2.heap HB1.out (by simp)) (by simp)) (And.intro hT24 hT2))))))
        clear hw4 hB2 hT24 hstr hfr hT2 c0
        unfold msgV
        go_upto_region 5 with fail
        rw [← HW4.out]
        rw [← HB2.out]
        have x0 := cell_of hB4 0 _ rfl
        clear hB4
        by_cases hk2 : m.kind = 2
        · have hd2 : decide (m.kind = 2) = true := by simp [hk2]
          have hd3 : (m.kind == 2) = true := by simp [hk2]
          have hS2 : S = (id, m) :: M.sched (M.place a + 1) := by rw [← HR.out.2.1]; exact sched_hit HN.out.2.1 (by show id < _; omega) hk2
          go_upto_region 6 with fail
          clear x0
          have hB4 := H4.out.1
          have x0 := cell_of hB4 0 _ rfl
          have x1 := cell_of hB4 1 _ rfl
          have x2 := cell_of hB4 2 _ rfl
          have x3 := cell_of hB4 3 _ rfl
          have x4 := cell_of hB4 4 _ rfl
          have x5 := cell_of hB4 5 _ rfl
          have x6 := cell_of hB4 6 _ rfl
          have x7 := cell_of hB4 7 _ rfl
          have x8 := cell_of hB4 8 _ rfl
          have x9 := cell_of hB4 9 _ rfl
          have hBb := H4.out.2.2.2.2.1
          unfold msgObj noMsg at hBb
          simp only at hBb
          have z0 := cell_of hBb 0 _ rfl
          have z1 := cell_of hBb 1 _ rfl
          have z2 := cell_of hBb 2 _ rfl
          have z3 := cell_of hBb 3 _ rfl
          have z4 := cell_of hBb 4 _ rfl
          have z5 := cell_of hBb 5 _ rfl
          have z6 := cell_of hBb 6 _ rfl
          have z7 := cell_of hBb 7 _ rfl
          have z8 := cell_of hBb 8 _ rfl
          have z9 := cell_of hBb 9 _ rfl
          have y0 := free_of hBb 0
          have y1 := free_of hBb 1
          have y2 := free_of hBb 2
          have y3 := free_of hBb 3
          have y4 := free_of hBb 4
          have y5 := free_of hBb 5
          have y6 := free_of hBb 6
          have y7 := free_of hBb 7
          have y8 := free_of hBb 8
          have y9 := free_of hBb 9
          clear hB4 hBb
          go_region
          clear x0 x1 x2 x3 x4 x5 x6 x7 x8 x9 y0 y1 y2 y3 y4 y5 y6 y7 y8 y9 z0 z1 z2 z3 z4 z5 z6 z7 z8 z9
          have hBb := H4.out.2.2.2.2.1
          unfold msgObj noMsg at hBb
          obtain ⟨zf, hTF⟩ := store10 hBb (.int .i64 2) (.int .i64 m.queue) (.int .i64 m.due) (.int .i64 m.retry) (.int .i64 m.ref) (.int .i64 m.born) (.string m.topic) (.string m.tag) (.string m.body) (.slice a' m.keys.length cp')
          obtain ⟨W0, hW0⟩ : ∃ W0, W0 = ((((((((((((w4).setCell ⟨B, 0, none⟩ (.int .i64 2)).setCell ⟨B, 1, none⟩ (.int .i64 m.queue)).setCell ⟨B, 2, none⟩ (.int .i64 m.due)).setCell ⟨B, 3, none⟩ (.int .i64 m.retry)).setCell ⟨B, 4, none⟩ (.int .i64 m.ref)).setCell ⟨B, 5, none⟩ (.int .i64 m.born)).setCell ⟨B, 6, none⟩ (.string m.topic)).setCell ⟨B, 7, none⟩ (.string m.tag)).setCell ⟨B, 8, none⟩ (.string m.body)).setCell ⟨B, 9, none⟩ (.slice a' m.keys.length cp'))) := ⟨_, rfl⟩
          rw [← hW0] at zf hTF ⊢
          clear hW0 hBb
          obtain ⟨Wf, hWf⟩ : ∃ Wf, Wf = W0.drew := ⟨_, rfl⟩
          have hTF : Touch [B] w4 Wf := by rw [hWf]; exact hTF.drew
          have zf : Wf.heap[B]? = some (.cells #[.int .i64 2, .int .i64 m.queue, .int .i64 m.due, .int .i64 m.retry, .int .i64 m.ref, .int .i64 m.born, .string m.topic, .string m.tag, .string m.body, .slice a' m.keys.length cp'] 46 (0, 0)) := by rw [hWf]; exact zf
          rw [← hWf]
          clear hWf
          have s0 := cell_of zf 0 _ rfl
          have s1 := cell_of zf 1 _ rfl
          have s2 := cell_of zf 2 _ rfl
          have s3 := cell_of zf 3 _ rfl
          have s4 := cell_of zf 4 _ rfl
          have s5 := cell_of zf 5 _ rfl
          have s6 := cell_of zf 6 _ rfl
          have s7 := cell_of zf 7 _ rfl
          have s8 := cell_of zf 8 _ rfl
          have s9 := cell_of zf 9 _ rfl
          have hBl := lt_of_heap HB1.out
          have hkF : KeysAt Wf (.slice a' m.keys.length cp') m.keys := by
            have h2 : KeysAt w2 (.slice a' m.keys.length cp') m.keys := ⟨a', cp', rfl, H4.out.2.2.1⟩
            exact (h2.quiet H4.out.2.2.2.2.2.1).touch hTF (fun b hb hm => by
              have := H4.out.2.2.2.1 b hb
              simp at hm; omega)
          have HZ := Lib.hid (And.intro hkF (H4.out.2.1.trans hTF (fun x hx => by simp at hx; right; have := H0.out.2.2; omega)))
          have HS2 := Lib.hid hS2
          clear zf hTF hkF hBl hS2
          go_wp2_with fail
          refine bodyPost_ret (v := .tuple #[.int .i64 id, .agg #[.int .i64 2, .int .i64 m.queue, .int .i64 m.due, .int .i64 m.retry, .int .i64 m.ref, .int .i64 m.born, .string m.topic, .string m.tag, .string m.body, .slice a' m.keys.length cp'], .bool true]) (by simp [results, Tryz.results88, go_sem, s0, s1, s2, s3, s4, s5, s6, s7, s8, s9]) rfl ?_
          rw [HS2.out]
          refine ⟨.slice a' m.keys.length cp', ?_, HZ.out.1, fun b hb => ?_, HZ.out.2⟩
          · simp only [msgV, hk2]
          · have h1 := H4.out.2.2.2.1 b hb
            have h2 := HT1.out.size
            omega
        · have hd2 : decide (m.kind = 2) = false := by simp [hk2]
          have hd3 : (m.kind == 2) = false := by simp [hk2]
          have hS2 : M.sched (M.place a + 1) = S := by rw [← HR.out.2.1]; exact (sched_skip HN.out.2.1 hk2).symm
          have hX4 := HX.out.1.quiet H4.out.2.1
          have c0 := cell_of hX4.cells 0 _ rfl
          have hsz := tsize_ok w4 _ _ _ _ hX4.tape (id : Nat)
          have hse : M.sizeAt (id : Nat) = recSize m := size_of_stand HX.out.2.2.2.1 HN.out.2.2.1
          rw [hse] at hsz
          obtain ⟨n, hn⟩ : ∃ n, n = recSize m := ⟨_, rfl⟩
          rw [← hn] at hsz
          have hBn : id + n ≤ 16777216 := by have := HN.out.2.2.2; have := HLE.out; omega
          have HSZ := Lib.hid (And.intro hsz (And.intro hn hS2))
          have Bn : (id : Int) + n ≤ 16777216 := by omega
          clear hX4 hsz hse hn hBn hS2
          go_wp2_with fail
          refine HSZ.out.1.mono ?_
          rintro e w' ⟨rfl, rfl⟩
          go_wp2_with fail
          have hpl : M.place ((id + n : Nat) : Int) = M.place a + 1 := by rw [HSZ.out.2.1]; exact place_behind (p := (id, m)) HX.out.2.2.2.1 HN.out.2.1
          go_roundg (M.recs.length - (M.place a + 1) + 1)
          case measure =>
            have h1 := HR.out.1
            have h2 := (List.getElem?_eq_some_iff.1 HN.out.2.1).1
            omega
          case rel => exact ⟨((id + n : Nat) : Int), by go_num, by rw [hpl]; omega, by rw [hpl]; exact HSZ.out.2.2, H4.out.2.1, H4.out.2.2.2.2.1⟩
end Go.Proofs.YtljgifbnmgpdbaaGreatDoor

namespace Go.Proofs.YtljgifbnmgpdbaaGreatDoor
open Go Go.RowKit

def markC (m : MarkE) : List Value := [.int .i64 (m.due : Nat), .int .i64 (m.at_ : Nat), .int .i64 (m.ahead : Nat), .int .i64 (m.puts : Nat)]
def markV (m : MarkE) : Value := .agg #[.int .i64 (m.due : Nat), .int .i64 (m.at_ : Nat), .int .i64 (m.ahead : Nat), .int .i64 (m.puts : Nat)]

theorem marks_len : ∀ l : List MarkE, (l.flatMap markC).length = l.length * 4
  | [] => rfl
  | m :: l => by rw [List.flatMap_cons, List.length_append, marks_len l, List.length_cons, Nat.succ_mul]; simp [markC]; omega
theorem marks_set : ∀ (l : List MarkE) (i : Nat) (m : MarkE), i < l.length →
    ((((l.flatMap markC).set (i * 4) (.int .i64 (m.due : Nat))).set (i * 4 + 1) (.int .i64 (m.at_ : Nat))).set (i * 4 + 2) (.int .i64 (m.ahead : Nat))).set (i * 4 + 3) (.int .i64 (m.puts : Nat)) = (l.set i m).flatMap markC
  | [], _, _, h => by simp at h
  | x :: l, 0, m, _ => by simp [markC]
  | x :: l, i + 1, m, h => by
    have ih := marks_set l i m (by simpa using h)
    have e : ∀ (r : List Value) (k : Nat) (u : Value), (markC x ++ r).set (k + 4) u = markC x ++ r.set k u := by
      intro r k u
      rw [show k + 4 = (markC x).length + k by simp [markC]; omega, List.set_append_right _ _ (by omega)]
      congr 2; omega
    rw [List.flatMap_cons, List.set_cons_succ, List.flatMap_cons, ← ih]
    rw [show (i + 1) * 4 = i * 4 + 4 by omega, show i * 4 + 4 + 1 = (i * 4 + 1) + 4 by omega, show i * 4 + 4 + 2 = (i * 4 + 2) + 4 by omega, show i * 4 + 4 + 3 = (i * 4 + 3) + 4 by omega, e, e, e, e]
theorem marks_at : ∀ (l : List MarkE) (i k : Nat) (m : MarkE), l[i]? = some m → k < 4 → (l.flatMap markC)[i * 4 + k]? = (markC m)[k]?
  | [], _, _, _, h, _ => by simp at h
  | x :: l, 0, k, m, h, hk => by
    simp at h; subst h
    rw [List.flatMap_cons, Nat.zero_mul, Nat.zero_add, List.getElem?_append_left (by simp [markC]; omega)]
  | x :: l, i + 1, k, m, h, hk => by
    rw [List.flatMap_cons, List.getElem?_append_right (by simp [markC]; omega)]
    rw [show (i + 1) * 4 + k - (markC x).length = i * 4 + k by simp [markC]; omega]
    exact marks_at l i k m (by simpa using h) hk

structure Turned (l cur : List MarkE) (j : Nat) : Prop where
  len : cur.length = l.length
  at_ : ∀ i, i < l.length → cur[i]? = if i < j ∨ l.length - j ≤ i then l[l.length - 1 - i]? else l[i]?
theorem Turned.start (l : List MarkE) : Turned l l 0 := ⟨rfl, fun i hi => by rw [if_neg (by omega)]⟩
theorem Turned.fin {l cur : List MarkE} {j : Nat} (h : Turned l cur j) (hj : l.length ≤ 2 * j + 1) : cur = l.reverse := by
  apply List.ext_getElem?
  intro i
  by_cases hi : i < l.length
  · rw [h.at_ i hi, List.getElem?_reverse hi]
    split
    · rfl
    · rename_i e
      congr 1
      omega
  · rw [List.getElem?_eq_none (by rw [h.len]; omega), List.getElem?_eq_none (by simp; omega)]
theorem Turned.step {l cur : List MarkE} {j : Nat} (h : Turned l cur j) (hj : 2 * j + 1 < l.length) {a b : MarkE} (ha : cur[j]? = some a) (hb : cur[l.length - 1 - j]? = some b) : Turned l ((cur.set j b).set (l.length - 1 - j) a) (j + 1) := by
  refine ⟨by simp [h.len], fun i hi => ?_⟩
  have h1 := h.at_ j (by omega)
  have h2 := h.at_ (l.length - 1 - j) (by omega)
  rw [if_neg (by omega), ha] at h1
  rw [if_neg (by omega), hb] at h2
  have hl := h.len
  by_cases e1 : i = l.length - 1 - j
  · subst e1
    rw [List.getElem?_set_self (by simp; omega), if_pos (by omega), h1]
    congr 1; omega
  · rw [List.getElem?_set_ne (by omega)]
    by_cases e2 : i = j
    · subst e2
      rw [List.getElem?_set_self (by omega), if_pos (by omega), h2]
    · rw [List.getElem?_set_ne (by omega), h.at_ i hi]
      by_cases e3 : i < j ∨ l.length - j ≤ i
      · rw [if_pos e3, if_pos (by omega)]
      · rw [if_neg e3, if_neg (by omega)]
end Go.Proofs.YtljgifbnmgpdbaaGreatDoor
