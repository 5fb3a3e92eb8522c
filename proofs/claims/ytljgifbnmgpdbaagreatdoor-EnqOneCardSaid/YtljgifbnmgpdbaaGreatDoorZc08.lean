/- Layer 6 (rec): one record as another; when a record may be. -/
import Derived.Test.YtljgifbnmgpdbaaGreatDoorZc07
set_option linter.unusedSimpArgs false
set_option linter.unusedVariables false
set_option linter.unnecessarySimpa false
namespace Go.Proofs.YtljgifbnmgpdbaaGreatDoor
open Go Go.RowKit

theorem equalS_ok (w : World) (ka kb : Value) (xs ys : List ByteArray) (ha : KeysAt w ka xs) (hb : KeysAt w kb ys) (hl : xs.length ≤ 1000) (hm : ys.length ≤ 1000) :
    Calls Tryz.prog 279 #[ka, kb] w fun e w' => e = .returned (.bool (decide (xs = ys))) ∧ ∃ q, w' = w.drewN q := by
  obtain ⟨a1, c1, rfl, ha⟩ := ha
  obtain ⟨a2, c2, rfl, hb⟩ := hb
  by_cases hne : xs.length ≠ ys.length
  · have : decide (xs = ys) = false := by simp; rintro rfl; exact hne rfl
    rw [this]
    exact (Tryz.slices_Equal_string_lens a1 a2 _ c1 _ c2 w hne).mono fun e w' h => ⟨h.1, 0, by rw [h.2]; rfl⟩
  · have hle : xs.length = ys.length := by omega
    cases xs with
    | nil =>
      have hb0 : ys = [] := List.eq_nil_of_length_eq_zero (by simpa using hle.symm)
      subst hb0
      have := Tryz.slices_Equal_string_empty a1 a2 c1 0 c2 w (by omega)
      exact this.mono fun e w' h => ⟨by rw [h.1]; simp, 0, by rw [h.2]; rfl⟩
    | cons x xs =>
      cases ys with
      | nil => simp at hle
      | cons y ys =>
        obtain ⟨b1, o1, e1, h1⟩ := ha 0 x rfl
        obtain ⟨b2, o2, e2, h2⟩ := hb 0 y rfl
        subst e1; subst e2
        have := Tryz.slices_Equal_string b1 o1 (x :: xs).length c1 b2 o2 (y :: ys).length c2 (x :: xs) (y :: ys) w (Nat.le_refl _) (Nat.le_refl _) (by omega) (by omega)
          (fun j hj => by
            obtain ⟨b, o, e, h⟩ := ha j _ (List.getElem?_eq_getElem hj)
            cases e
            rw [h]; simp only [List.getD_eq_getElem?_getD, List.getElem?_eq_getElem hj]; rfl)
          (fun j hj => by
            obtain ⟨b, o, e, h⟩ := hb j _ (List.getElem?_eq_getElem hj)
            cases e
            rw [h]; simp only [List.getD_eq_getElem?_getD, List.getElem?_eq_getElem hj]; rfl)
        rw [List.take_length, List.take_length] at this
        exact this

def sameB (a b : MsgM) : Bool :=
  decide (a.kind = b.kind) && decide (a.queue = b.queue) && decide (a.due = b.due) && decide (a.retry = b.retry) && decide (a.ref = b.ref) && decide (a.born = b.born) && decide (a.topic = b.topic) && decide (a.tag = b.tag) && decide (a.body = b.body) && decide (a.keys = b.keys)


set_option maxRecDepth 100000 in
set_option maxHeartbeats 8000000 in
theorem same_ok (w : World) (a b : MsgM) (ka kb : Value) (ha : KeysAt w ka a.keys) (hb : KeysAt w kb b.keys) (hl : a.keys.length ≤ 1000) (hm : b.keys.length ≤ 1000) :
    Calls Tryz.prog 243 #[msgV a ka, msgV b kb] w fun e w' => e = .returned (.bool (sameB a b)) ∧ Touch [] w w' := by
  have HK := Lib.hid (And.intro ha (And.intro hb (And.intro hl hm)))
  clear ha hb hl hm
  unfold msgV
  by_cases hn : a.kind = b.kind
  rotate_left
  · have hd : (a.kind == b.kind) = false := by simpa using hn
    have HB := Lib.hid (show sameB a b = false by simp [sameB, hn])
    clear hn
    go_enter Tryz.func243, Tryz.ntmps243
    go_wp2_with fail
    go_ret
    rw [HB.out]
    exact ⟨rfl, ((Touch.refl [] w).alloc _).alloc _⟩
  have E1 := Lib.hid hn
  have d1 : (a.kind == b.kind) = true := by simpa using hn
  clear hn
  by_cases hn : a.queue = b.queue
  rotate_left
  · have hd : (a.queue == b.queue) = false := by simpa using hn
    have HB := Lib.hid (show sameB a b = false by simp [sameB, hn])
    clear hn
    go_enter Tryz.func243, Tryz.ntmps243
    go_wp2_with fail
    go_ret
    rw [HB.out]
    exact ⟨rfl, ((Touch.refl [] w).alloc _).alloc _⟩
  have E2 := Lib.hid hn
  have d2 : (a.queue == b.queue) = true := by simpa using hn
  clear hn
  by_cases hn : a.due = b.due
  rotate_left
  · have hd : (a.due == b.due) = false := by simpa using hn
    have HB := Lib.hid (show sameB a b = false by simp [sameB, hn])
    clear hn
    go_enter Tryz.func243, Tryz.ntmps243
    go_wp2_with fail
    go_ret
    rw [HB.out]
    exact ⟨rfl, ((Touch.refl [] w).alloc _).alloc _⟩
  have E3 := Lib.hid hn
  have d3 : (a.due == b.due) = true := by simpa using hn
  clear hn
  by_cases hn : a.retry = b.retry
  rotate_left
  · have hd : (a.retry == b.retry) = false := by simpa using hn
    have HB := Lib.hid (show sameB a b = false by simp [sameB, hn])
    clear hn
    go_enter Tryz.func243, Tryz.ntmps243
    go_wp2_with fail
    go_ret
    rw [HB.out]
    exact ⟨rfl, ((Touch.refl [] w).alloc _).alloc _⟩
  have E4 := Lib.hid hn
  have d4 : (a.retry == b.retry) = true := by simpa using hn
  clear hn
  by_cases hn : a.ref = b.ref
  rotate_left
  · have hd : (a.ref == b.ref) = false := by simpa using hn
    have HB := Lib.hid (show sameB a b = false by simp [sameB, hn])
    clear hn
    go_enter Tryz.func243, Tryz.ntmps243
    go_wp2_with fail
    go_ret
    rw [HB.out]
    exact ⟨rfl, ((Touch.refl [] w).alloc _).alloc _⟩
  have E5 := Lib.hid hn
  have d5 : (a.ref == b.ref) = true := by simpa using hn
  clear hn
  by_cases hn : a.born = b.born
  rotate_left
  · have hd : (a.born == b.born) = false := by simpa using hn
    have HB := Lib.hid (show sameB a b = false by simp [sameB, hn])
    clear hn
    go_enter Tryz.func243, Tryz.ntmps243
    go_wp2_with fail
    go_ret
    rw [HB.out]
    exact ⟨rfl, ((Touch.refl [] w).alloc _).alloc _⟩
  have E6 := Lib.hid hn
  have d6 : (a.born == b.born) = true := by simpa using hn
  clear hn
  by_cases hn : a.topic = b.topic
  rotate_left
  · have hn2 : ¬ a.topic.toList = b.topic.toList := fun e => hn (bytes_ext (by rwa [ByteArray.toList_eq, ByteArray.toList_eq] at e))
    have hd : (a.topic.toList == b.topic.toList) = false := by simpa using hn2
    have HB := Lib.hid (show sameB a b = false by simp [sameB, hn])
    clear hn
    go_enter Tryz.func243, Tryz.ntmps243
    go_wp2_with fail
    go_ret
    rw [HB.out]
    exact ⟨rfl, ((Touch.refl [] w).alloc _).alloc _⟩
  have E7 := Lib.hid hn
  have d7 : (a.topic.toList == b.topic.toList) = true := by simp [hn]
  clear hn
  by_cases hn : a.tag = b.tag
  rotate_left
  · have hn2 : ¬ a.tag.toList = b.tag.toList := fun e => hn (bytes_ext (by rwa [ByteArray.toList_eq, ByteArray.toList_eq] at e))
    have hd : (a.tag.toList == b.tag.toList) = false := by simpa using hn2
    have HB := Lib.hid (show sameB a b = false by simp [sameB, hn])
    clear hn
    go_enter Tryz.func243, Tryz.ntmps243
    go_wp2_with fail
    go_ret
    rw [HB.out]
    exact ⟨rfl, ((Touch.refl [] w).alloc _).alloc _⟩
  have E8 := Lib.hid hn
  have d8 : (a.tag.toList == b.tag.toList) = true := by simp [hn]
  clear hn
  by_cases hn : a.body = b.body
  rotate_left
  · have hn2 : ¬ a.body.toList = b.body.toList := fun e => hn (bytes_ext (by rwa [ByteArray.toList_eq, ByteArray.toList_eq] at e))
    have hd : (a.body.toList == b.body.toList) = false := by simpa using hn2
    have HB := Lib.hid (show sameB a b = false by simp [sameB, hn])
    clear hn
    go_enter Tryz.func243, Tryz.ntmps243
    go_wp2_with fail
    go_ret
    rw [HB.out]
    exact ⟨rfl, ((Touch.refl [] w).alloc _).alloc _⟩
  have E9 := Lib.hid hn
  have d9 : (a.body.toList == b.body.toList) = true := by simp [hn]
  clear hn
  have hs : sameB a b = decide (a.keys = b.keys) := by
    simp [sameB, E1.out, E2.out, E3.out, E4.out, E5.out, E6.out, E7.out, E8.out, E9.out]
  have HS := Lib.hid hs
  clear hs
  go_enter Tryz.func243, Tryz.ntmps243
  go_wp2_with fail
  have hT : Touch [] w ((w.alloc (.cells #[.int .i64 a.kind, .int .i64 a.queue, .int .i64 a.due, .int .i64 a.retry, .int .i64 a.ref, .int .i64 a.born, .string a.topic, .string a.tag, .string a.body, ka] 46)).alloc
    (.cells #[.int .i64 b.kind, .int .i64 b.queue, .int .i64 b.due, .int .i64 b.retry, .int .i64 b.ref, .int .i64 b.born, .string b.topic, .string b.tag, .string b.body, kb] 46)) := ((Touch.refl [] w).alloc _).alloc _
  refine (equalS_ok _ ka kb a.keys b.keys (HK.out.1.quiet hT) (HK.out.2.1.quiet hT) HK.out.2.2.1 HK.out.2.2.2).mono ?_
  rintro e w' ⟨rfl, q, rfl⟩
  have HT := Lib.hid (hT.drewN q)
  clear hT
  rw [← HS.out]
  go_wp2_with fail
  go_ret
  exact ⟨rfl, HT.out⟩

def noMsg : MsgM := ⟨0, 0, 0, 0, 0, 0, ⟨#[]⟩, ⟨#[]⟩, ⟨#[]⟩, []⟩
theorem size_zero {s : ByteArray} : (s = ⟨#[]⟩) ↔ s.size = 0 := by
  constructor
  · rintro rfl; rfl
  · intro h; exact bytes_ext (List.eq_nil_of_length_eq_zero h)
theorem same_cancel (m : MsgM) : sameB m { noMsg with kind := m.kind, ref := m.ref, born := m.born } = cancelB m := by
  unfold sameB cancelB noMsg
  simp only [decide_true, Bool.true_and, Bool.and_true, size_zero]
  have : decide (m.keys = []) = decide (m.keys.length = 0) := by
    rw [decide_eq_decide]; exact ⟨fun h => by rw [h]; rfl, List.eq_nil_of_length_eq_zero⟩
  rw [this]
end Go.Proofs.YtljgifbnmgpdbaaGreatDoor
