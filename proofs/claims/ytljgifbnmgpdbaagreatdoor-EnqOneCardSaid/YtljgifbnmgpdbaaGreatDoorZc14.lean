/- What every card of these laws asks: the one table of the library's that is read, a world that holds all that the rows list. (Here too: The law of layer 20: made. The law of layer 20: add of a scheduled record. The law of layer 20: the rig in the law's own memory. The law of layer 20: awake. The references' Same and Ints, of what is alike. Arguments as they are read: a row of texts, a row of numbers, flags. Arguments as they are read: three flags; a record.) -/
import Derived.Test.YtljgifbnmgpdbaaGreatDoorZc13
import Derived.BigQuiet
import Derived.ProofKit
import Derived.OpenShut
import Derived.Lib.SmallJoins
import Derived.Test.YtljgifbnmgpdbaaGreatDoorCards
import Derived.Test.YtljgifbnmgpdbaaGreatDoorTie
import Derived.WalkKit
import Derived.Carry
import Derived.Deep.DeepHandedRow
import Derived.Lib.LaidTab
import Derived.Lay
import Derived.Stop.LaidErr
set_option linter.unusedSimpArgs false
set_option linter.unusedVariables false
set_option linter.unnecessarySimpa false
namespace Go.Proofs.YtljgifbnmgpdbaaGreatDoor
open Go Go.RowKit

def rigV (q : Nat) (X : DeqX) : Value := .agg #[.pointer (some ⟨X.t, 0, none⟩), .pointer (some ⟨X.s, 0, none⟩), .pointer (some ⟨X.l, 0, none⟩), .pointer (some ⟨q, 0, none⟩)]

def RigMade (w : World) (cap : Nat) (hand : Int) (e : Ending) (w' : World) : Prop :=
  ∃ q X, e = .returned (.tuple #[rigV q X, .bool true]) ∧ DeqAt w' q X ⟨[], 0, 0⟩ [] ⟨hand, List.replicate 16 0, []⟩ [] ∧ X.cap = cap ∧ X.capL = 4194304 ∧ X.ql = 3 ∧ Touch [] w w' ∧ ∀ a ∈ deqParts q X, ∀ b ∈ a, w.heap.size ≤ b

theorem apart_new {q : Nat} {sv : Value} {Ft Fs Fl : List Nat} (hq : ∀ x ∈ [q], x ∉ Ft ∧ x ∉ Fs ∧ x ∉ Fl) (hsv : sv.ownBlock = none) (h1 : ∀ x ∈ Ft, x ∉ Fs ∧ x ∉ Fl) (h2 : ∀ x ∈ Fs, x ∉ Fl) : Apart [[q], sv.ownBlock.toList, Ft, Fs, Fl] := by
  rw [hsv]
  have hq' := hq q (by simp)
  intro i j a b hij hi hj x hx hxb
  match i, j, hi, hj, hij with
  | 0, 0, _, _, h => exact h rfl
  | 1, _, hi, _, _ => simp at hi; subst hi; cases hx
  | _, 1, _, hj, _ => simp at hj; subst hj; cases hxb
  | 0, 2, hi, hj, _ => simp at hi hj; subst hi; subst hj; simp at hx; subst hx; exact hq'.1 hxb
  | 0, 3, hi, hj, _ => simp at hi hj; subst hi; subst hj; simp at hx; subst hx; exact hq'.2.1 hxb
  | 0, 4, hi, hj, _ => simp at hi hj; subst hi; subst hj; simp at hx; subst hx; exact hq'.2.2 hxb
  | 2, 0, hi, hj, _ => simp at hi hj; subst hi; subst hj; simp at hxb; subst hxb; exact hq'.1 hx
  | 3, 0, hi, hj, _ => simp at hi hj; subst hi; subst hj; simp at hxb; subst hxb; exact hq'.2.1 hx
  | 4, 0, hi, hj, _ => simp at hi hj; subst hi; subst hj; simp at hxb; subst hxb; exact hq'.2.2 hx
  | 2, 2, _, _, h => exact h rfl
  | 3, 3, _, _, h => exact h rfl
  | 4, 4, _, _, h => exact h rfl
  | 2, 3, hi, hj, _ => simp at hi hj; subst hi; subst hj; exact (h1 x hx).1 hxb
  | 2, 4, hi, hj, _ => simp at hi hj; subst hi; subst hj; exact (h1 x hx).2 hxb
  | 3, 4, hi, hj, _ => simp at hi hj; subst hi; subst hj; exact h2 x hx hxb
  | 3, 2, hi, hj, _ => simp at hi hj; subst hi; subst hj; exact (h1 x hxb).1 hx
  | 4, 2, hi, hj, _ => simp at hi hj; subst hi; subst hj; exact (h1 x hxb).2 hx
  | 4, 3, hi, hj, _ => simp at hi hj; subst hi; subst hj; exact h2 x hxb hx
  | n + 5, _, hi, _, _ => simp at hi
  | 0, n + 5, _, hj, _ => simp at hj
  | 2, n + 5, _, hj, _ => simp at hj
  | 3, n + 5, _, hj, _ => simp at hj
  | 4, n + 5, _, hj, _ => simp at hj

theorem store4 {w : World} {B : Nat} {t : TypeId} {o0 o1 o2 o3 : Value} (h : w.heap[B]? = some (.cells #[o0, o1, o2, o3] t (0, 0))) (v0 v1 v2 v3 : Value) :
    ((((w.setCell ⟨B, 0, none⟩ v0).setCell ⟨B, 1, none⟩ v1).setCell ⟨B, 2, none⟩ v2).setCell ⟨B, 3, none⟩ v3).heap[B]? = some (.cells #[v0, v1, v2, v3] t (0, 0)) ∧ Touch [B] w ((((w.setCell ⟨B, 0, none⟩ v0).setCell ⟨B, 1, none⟩ v1).setCell ⟨B, 2, none⟩ v2).setCell ⟨B, 3, none⟩ v3) := by
  have h0 : (w.setCell ⟨B, 0, none⟩ v0).heap[B]? = some (.cells #[v0, o1, o2, o3] t (0, 0)) := by rw [heap_setCell_at h]; rfl
  have h1 : ((w.setCell ⟨B, 0, none⟩ v0).setCell ⟨B, 1, none⟩ v1).heap[B]? = some (.cells #[v0, v1, o2, o3] t (0, 0)) := by rw [heap_setCell_at h0]; rfl
  have h2 : (((w.setCell ⟨B, 0, none⟩ v0).setCell ⟨B, 1, none⟩ v1).setCell ⟨B, 2, none⟩ v2).heap[B]? = some (.cells #[v0, v1, v2, o3] t (0, 0)) := by rw [heap_setCell_at h1]; rfl
  have h3 : ((((w.setCell ⟨B, 0, none⟩ v0).setCell ⟨B, 1, none⟩ v1).setCell ⟨B, 2, none⟩ v2).setCell ⟨B, 3, none⟩ v3).heap[B]? = some (.cells #[v0, v1, v2, v3] t (0, 0)) := by rw [heap_setCell_at h2]; rfl
  exact ⟨h3, ((((Touch.refl [B] w).setCell B 0 none v0 (.inl (by simp))).setCell B 1 none v1 (.inl (by simp))).setCell B 2 none v2 (.inl (by simp))).setCell B 3 none v3 (.inl (by simp))⟩

set_option maxRecDepth 100000 in
set_option maxHeartbeats 2000000 in
theorem made20_ok (w : World) (hg : Glob w) (n : Nat) (hn : n ≤ 16777216) (hand : Int) (h0 : 0 ≤ hand) (h1 : hand ≤ 1099511627776) :
    Calls Tryz.prog 38 #[.int .i64 n, .int .i64 hand] w (RigMade w n hand) := by
  have HG := Lib.hid (And.intro hg (And.intro hn (And.intro h0 h1)))
  clear hg hn h0 h1
  go_enter Tryz.func38, Tryz.ntmps38
  go_wp2_with fail
  obtain ⟨w0, hw0⟩ : ∃ w0, w0 = w.alloc (.cells #[.pointer none, .pointer none, .pointer none, .pointer none] 68) := ⟨_, rfl⟩
  have hT0 : Touch [] w w0 := by rw [hw0]; exact (Touch.refl _ _).alloc _
  have hR0 : w0.heap[w.heap.size]? = some (.cells #[.pointer none, .pointer none, .pointer none, .pointer none] 68 (0, 0)) := by rw [hw0]; exact heap_alloc_at _ _
  have H0 := Lib.hid (And.intro hT0 hR0)
  rw [← hw0]
  clear hw0 hT0 hR0
  have hg0 := HG.out.1.touch H0.out.1 (by simp)
  refine (newV_ok w0 n HG.out.2.1 hg0.1).mono ?_
  rintro e w1 ⟨d, F, rfl, hD, hT1, hG1⟩
  have hg1 := hg0.touch hT1 (by simp)
  have H1 := Lib.hid (And.intro hD (And.intro hT1 (And.intro hG1 (And.intro hg0 hg1))))
  clear hD hT1 hG1 hg0 hg1
  go_wp2_with fail
  refine (topen_ok w1 d F n H1.out.1 H1.out.2.2.2.2).mono ?_
  rintro e w2 ⟨t, Ft, rfl, ht, hT2, hG2⟩
  have H2 := Lib.hid (And.intro ht (And.intro hT2 hG2))
  clear ht hT2 hG2
  go_wp2_with fail
  have hT02 : Touch [] w0 w2 := H1.out.2.1.trans H2.out.2.1 (fun x hx => by
    rcases H1.out.2.2.1 x hx with h | h
    · cases h
    · exact .inr h)
  have hg2 := H1.out.2.2.2.1.touch hT02 (by simp)
  have H02 := Lib.hid (And.intro hT02 hg2)
  clear hT02 hg2
  refine (newV_ok w2 4194304 (by omega) H02.out.2.1).mono ?_
  rintro e w3 ⟨d2, F2, rfl, hD3, hT3, hG3⟩
  have H3 := Lib.hid (And.intro hD3 (And.intro hT3 (And.intro hG3 (H02.out.2.touch hT3 (by simp)))))
  clear hD3 hT3 hG3
  go_wp2_with fail
  refine (lognew_ok w3 d2 F2 4194304 H3.out.1 (by omega) H3.out.2.2.2.1 hand HG.out.2.2.1 HG.out.2.2.2).mono ?_
  rintro e w4 ⟨l, Fl, rfl, hl, hT4, hG4⟩
  have hT24 : Touch [] w2 w4 := H3.out.2.1.trans hT4 (fun x hx => by
    rcases H3.out.2.2.1 x hx with h | h
    · cases h
    · exact .inr h)
  have H4 := Lib.hid (And.intro hl (And.intro hT24 (And.intro hG4 (H02.out.2.touch hT24 (by simp)))))
  clear hl hT4 hG4 hT24
  go_wp2_with fail
  refine (pnew_ok w4 H4.out.2.2.2.1).mono ?_
  rintro e w5 ⟨s, Fs, rfl, hs, hT5, hfs⟩
  have H5 := Lib.hid (And.intro hs (And.intro hT5 hfs))
  clear hs hT5 hfs
  go_wp2_with fail
  refine (deqnew_ok w5 t s l).mono ?_
  rintro e w6 ⟨rfl, hw6⟩
  have hT6 : Touch [] w5 w6 := by rw [hw6]; exact (Touch.refl _ _).alloc _
  have hc6 : w6.heap[w5.heap.size]? = some (.cells #[.pointer (some ⟨t, 0, none⟩), .pointer (some ⟨s, 0, none⟩), .pointer (some ⟨l, 0, none⟩), .slice none 0 0] 162 (0, 0)) := by rw [hw6]; exact heap_alloc_at _ _
  have hR6 := hT6.heap (H5.out.2.1.heap (H4.out.2.1.heap (H02.out.1.heap H0.out.2 (by simp)) (by simp)) (by simp)) (by simp)
  obtain ⟨q, hq⟩ : ∃ q, q = w5.heap.size := ⟨_, rfl⟩
  rw [← hq] at hc6 ⊢
  have c0 := cell_of hR6 0 _ rfl
  have c1 := cell_of hR6 1 _ rfl
  have c2 := cell_of hR6 2 _ rfl
  have c3 := cell_of hR6 3 _ rfl
  have f0 := free_of hR6 0
  have f1 := free_of hR6 1
  have f2 := free_of hR6 2
  have f3 := free_of hR6 3
  have H6 := Lib.hid (And.intro hT6 (And.intro hc6 (And.intro hR6 hq)))
  clear hT6 hc6 hR6 hq hw6
  go_wp2_with fail
  obtain ⟨z, hT7⟩ := store4 H6.out.2.2.1 (.pointer (some ⟨t, 0, none⟩)) (.pointer (some ⟨s, 0, none⟩)) (.pointer (some ⟨l, 0, none⟩)) (.pointer (some ⟨q, 0, none⟩))
  obtain ⟨w7, hw7⟩ : ∃ w7, w7 = ((((w6.setCell ⟨w.heap.size, 0, none⟩ (.pointer (some ⟨t, 0, none⟩))).setCell ⟨w.heap.size, 1, none⟩ (.pointer (some ⟨s, 0, none⟩))).setCell ⟨w.heap.size, 2, none⟩ (.pointer (some ⟨l, 0, none⟩))).setCell ⟨w.heap.size, 3, none⟩ (.pointer (some ⟨q, 0, none⟩))) := ⟨_, rfl⟩
  rw [← hw7] at z hT7 ⊢
  clear hw7 c0 c1 c2 c3 f0 f1 f2 f3
  have s0 := cell_of z 0 _ rfl
  have s1 := cell_of z 1 _ rfl
  have s2 := cell_of z 2 _ rfl
  have s3 := cell_of z 3 _ rfl
  refine bodyPost_ret (v := .tuple #[.agg #[.pointer (some ⟨t, 0, none⟩), .pointer (some ⟨s, 0, none⟩), .pointer (some ⟨l, 0, none⟩), .pointer (some ⟨q, 0, none⟩)], .bool true]) (by simp [results, Tryz.results38, go_sem, s0, s1, s2, s3]) rfl ?_
  have z1 := lt_of_heap H0.out.2
  have z2 := H1.out.2.1.size
  have z3 := H02.out.1.size
  have z4 := H4.out.2.1.size
  have z5 := H5.out.2.1.size
  have z6 := H3.out.2.1.size
  have g8 := HG.out.1.1
  have bFt : ∀ x ∈ Ft, w0.heap.size ≤ x ∧ x < w2.heap.size := fun x hx => by
    refine ⟨?_, H2.out.1.lt x hx⟩
    rcases H2.out.2.2 x hx with h | h
    · rcases H1.out.2.2.1 x h with h | h
      · cases h
      · exact h
    · omega
  have bFl : ∀ x ∈ Fl, w2.heap.size ≤ x ∧ x < w4.heap.size := fun x hx => by
    refine ⟨?_, H4.out.1.lt x hx⟩
    rcases H4.out.2.2.1 x hx with h | h
    · rcases H3.out.2.2.1 x h with h | h
      · cases h
      · exact h
    · omega
  have bFs : ∀ x ∈ Fs, w4.heap.size ≤ x ∧ x < w5.heap.size := fun x hx => ⟨H5.out.2.2 x hx, H5.out.1.lt x hx⟩
  have hq := H6.out.2.2.2
  have hT57 : Touch [w.heap.size] w5 w7 := H6.out.1.nil.trans' hT7
  have hT47 : Touch [w.heap.size] w4 w7 := H5.out.2.1.nil.trans' hT57
  have hT27 : Touch [w.heap.size] w2 w7 := H4.out.2.1.nil.trans' hT47
  have hno : ∀ {x : Nat}, w0.heap.size ≤ x → x ∉ [w.heap.size] := fun h hm => by simp at hm; omega
  have hpb : ∀ a ∈ deqParts q ⟨t, s, l, Ft, Fs, Fl, .slice none 0 0, n, 4194304, 3⟩, ∀ b ∈ a, w0.heap.size ≤ b := by
    intro a ha b hb
    simp only [deqParts, List.mem_cons, List.not_mem_nil, or_false] at ha
    rcases ha with rfl | rfl | rfl | rfl | rfl
    · simp at hb; omega
    · simp [Value.ownBlock] at hb
    · exact (bFt b hb).1
    · have := (bFs b hb).1; omega
    · have := (bFl b hb).1; omega
  refine ⟨q, ⟨t, s, l, Ft, Fs, Fl, .slice none 0 0, n, 4194304, 3⟩, rfl, ⟨hT7.heap H6.out.2.1 (hno (by omega)), H2.out.1.touch hT27 (fun b hb => hno (bFt b hb).1), H5.out.1.touch hT57 (fun b hb => hno (by have := (bFs b hb).1; omega)), H4.out.1.touch hT47 (fun b hb => hno (by have := (bFl b hb).1; omega)), IntRow.nil _, ?_, ?_⟩, rfl, rfl, rfl, ?_, ?_⟩
  · refine apart_new (sv := .slice none 0 0) (fun x hx => ?_) rfl (fun x hx => ?_) (fun x hx => ?_)
    · simp at hx
      subst hx
      exact ⟨fun h => by have := (bFt _ h).2; omega, fun h => by have := (bFs _ h).2; omega, fun h => by have := (bFl _ h).2; omega⟩
    · have h1 := (bFt x hx).2
      exact ⟨fun h => by have := (bFs _ h).1; omega, fun h => by have := (bFl _ h).1; omega⟩
    · intro h
      have h1 := (bFs x hx).1
      have := (bFl _ h).2; omega
  · intro a ha b hb
    have := hpb a ha b hb
    omega
  · exact (H0.out.1.trans' H02.out.1).trans hT27 (fun x hx => by simp at hx; right; omega)
  · intro a ha b hb
    have := hpb a ha b hb
    omega
end Go.Proofs.YtljgifbnmgpdbaaGreatDoor

namespace Go.Proofs.YtljgifbnmgpdbaaGreatDoor
open Go Go.RowKit

/-- What stands behind what was appended, and noted. -/
def DeqAdded (w : World) (q : Nat) (X : DeqX) (M : TapeM) (P : PendM) (L : LogM) (due : List Int) (m : MsgM) (e : Ending) (w' : World) : Prop :=
  e = .returned (.tuple #[.int .i64 (M.idOf m : Nat), .int .i64 0]) ∧ DeqTo w q X (M.push m) (pendNote P (M.idOf m : Nat) m).2 L due w'

set_option maxRecDepth 100000 in
set_option maxHeartbeats 2000000 in
theorem add20_ok (w : World) (q : Nat) (X : DeqX) (M : TapeM) (P : PendM) (L : LogM) (due : List Int) (h : DeqAt w q X M P L due) (hg : Glob w) (m : MsgM) (kv : Value) (hk : KeysAt w kv m.keys) (hkF : m.keys ≠ [] → ∀ b, kv.ownBlock = some b → b ∉ X.Ft)
    (hm : rightM m = true) (hl : M.recs.length ≤ 200000) (hcap : M.fin + M.cost m ≤ X.cap) :
    Calls Tryz.prog 49 #[rigV q X, msgV m kv] w (DeqAdded w q X M P L due m) := by
  obtain ⟨a', cp', rfl, hstr⟩ := hk
  have hk : KeysAt w (.slice a' m.keys.length cp') m.keys := ⟨a', cp', rfl, hstr⟩
  obtain ⟨w0, hw0⟩ : ∃ w0, w0 = (w.alloc (.cells #[.pointer (some ⟨X.t, 0, none⟩), .pointer (some ⟨X.s, 0, none⟩), .pointer (some ⟨X.l, 0, none⟩), .pointer (some ⟨q, 0, none⟩)] 68)).alloc (msgObj m (.slice a' m.keys.length cp')) := ⟨_, rfl⟩
  have hT0 : Touch [] w w0 := by rw [hw0]; exact ((Touch.refl _ _).alloc _).alloc _
  have hR0 : w0.heap[w.heap.size]? = some (.cells #[.pointer (some ⟨X.t, 0, none⟩), .pointer (some ⟨X.s, 0, none⟩), .pointer (some ⟨X.l, 0, none⟩), .pointer (some ⟨q, 0, none⟩)] 68 (0, 0)) := by rw [hw0]; exact heap_alloc_lt (heap_alloc_at _ _) _
  have hM0 : w0.heap[w.heap.size + 1]? = some (msgObj m (.slice a' m.keys.length cp')) := by rw [hw0]; exact heap_at _ _ _ (by simp)
  have h0 := h.quiet hT0
  have hap := tappend_ok w0 _ _ _ _ h0.tape (hg.touch hT0 (by simp)) m _ (hk.quiet hT0) hkF hm hl hcap
  have HA := Lib.hid hap
  have HH := Lib.hid (And.intro h0 (And.intro hT0 (And.intro hR0 (And.intro hM0 h))))
  obtain ⟨M', hM'⟩ : ∃ M', M' = M.push m := ⟨_, rfl⟩
  obtain ⟨i, hi⟩ : ∃ i, i = M.idOf m := ⟨_, rfl⟩
  have HM := Lib.hid (And.intro hM' hi)
  unfold msgObj at hw0 hM0
  have c0 := cell_of hM0 0 _ rfl
  have c1 := cell_of hM0 1 _ rfl
  have c2 := cell_of hM0 2 _ rfl
  have c3 := cell_of hM0 3 _ rfl
  have c4 := cell_of hM0 4 _ rfl
  have c5 := cell_of hM0 5 _ rfl
  have c6 := cell_of hM0 6 _ rfl
  have c7 := cell_of hM0 7 _ rfl
  have c8 := cell_of hM0 8 _ rfl
  have c9 := cell_of hM0 9 _ rfl
  have r0 := cell_of hR0 0 _ rfl
  have r1 := cell_of hR0 1 _ rfl
  have HW := Lib.hid hw0
  rw [hw0] at c0 c1 c2 c3 c4 c5 c6 c7 c8 c9 r0
  clear hap h0 hk hstr hT0 hR0 hM0 hg hkF hm hl hcap hM' hi h hw0 r1
  unfold rigV msgV
  go_enter Tryz.func49, Tryz.ntmps49
  go_wp2_with fail
  rw [← HW.out]
  clear c0 c1 c2 c3 c4 c5 c6 c7 c8 c9 r0
  refine HA.out.mono ?_
  rintro e w1 ⟨rfl, F', ht1, hT1, hG1⟩
  obtain ⟨h1, hg1⟩ := deq_tape HH.out.1 ht1 hT1 hG1
  have hX := HH.out.2.2.2.2.lt X.Ft (by simp [deqParts])
  have hR1 := hT1.heap HH.out.2.2.1 (fun hm => by have := hX _ hm; omega)
  have hM1 := hT1.heap HH.out.2.2.2.1 (fun hm => by have := hX _ hm; omega)
  have H1 := Lib.hid (And.intro h1 (And.intro hg1 hT1))
  unfold msgObj at hM1
  have c0 := cell_of hM1 0 _ rfl
  have c1 := cell_of hM1 1 _ rfl
  have c2 := cell_of hM1 2 _ rfl
  have c3 := cell_of hM1 3 _ rfl
  have c4 := cell_of hM1 4 _ rfl
  have c5 := cell_of hM1 5 _ rfl
  have c6 := cell_of hM1 6 _ rfl
  have c7 := cell_of hM1 7 _ rfl
  have c8 := cell_of hM1 8 _ rfl
  have c9 := cell_of hM1 9 _ rfl
  have r1 := cell_of hR1 1 _ rfl
  clear h1 hg1 ht1 hT1 hG1 hX hR1 hM1
  go_wp2_with fail
  have hno := pnote_ok w1 _ _ _ H1.out.1.pend (M.idOf m : Nat) m a' m.keys.length cp'
  unfold msgV at hno
  have HN := Lib.hid hno
  clear hno c0 c1 c2 c3 c4 c5 c6 c7 c8 c9 r1
  refine HN.out.mono ?_
  rintro e w2 ⟨rfl, hp2, hT2⟩
  have h2 := deq_pend H1.out.1 hp2 hT2
  have HF := Lib.hid (show DeqTo w q X (M.push m) (pendNote P (M.idOf m : Nat) m).2 L due w2 from ⟨{ X with Ft := F' }, h2, rfl, rfl, rfl, rfl, rfl,
    (HH.out.2.1.nil.trans' (H1.out.2.2.mono fun x hx => mem_flat (a := X.Ft) (by simp [deqParts]) hx)).trans' (hT2.mono fun x hx => mem_flat (a := X.Fs) (by simp [deqParts]) hx), fun a ha b hb => by
      rcases H1.out.2.1 a ha b hb with h | h
      · exact .inl h
      · right; have := HH.out.2.1.size; omega⟩)
  clear h2 hp2 hT2
  obtain ⟨r1, hr1⟩ : ∃ r1, r1 = (pendNote P (M.idOf m : Nat) m).1 := ⟨_, rfl⟩
  rw [← hr1]
  clear hr1
  go_wp2_with fail
  go_ret2
  exact ⟨rfl, HF.out⟩
end Go.Proofs.YtljgifbnmgpdbaaGreatDoor

namespace Go.Proofs.YtljgifbnmgpdbaaGreatDoor
open Go Go.RowKit

def rigObj (t s l q : Nat) : Obj := .cells #[.pointer (some ⟨t, 0, none⟩), .pointer (some ⟨s, 0, none⟩), .pointer (some ⟨l, 0, none⟩), .pointer (some ⟨q, 0, none⟩)] 68 (0, 0)

structure RigIn (w w' : World) (q B t s l cap : Nat) (X : DeqX) (M : TapeM) (P : PendM) (L : LogM) (due : List Int) : Prop where
  at_ : DeqAt w' q X M P L due
  rig : w'.heap[B]? = some (rigObj t s l q)
  off : ∀ a ∈ deqParts q X, ∀ b ∈ a, b ≠ B
  touch : Touch [] w w'
  ge : ∀ a ∈ deqParts q X, ∀ b ∈ a, w.heap.size ≤ b
  bge : w.heap.size ≤ B
  ids : X.t = t ∧ X.s = s ∧ X.l = l ∧ X.cap = cap

theorem RigIn.to {w w1 w2 : World} {q B t s l cap : Nat} {X : DeqX} {M M' : TapeM} {P P' : PendM} {L L' : LogM} {due due' : List Int} (h : RigIn w w1 q B t s l cap X M P L due) (hto : DeqTo w1 q X M' P' L' due' w2) : ∃ X', RigIn w w2 q B t s l cap X' M' P' L' due' := by
  obtain ⟨X', h2, e1, e2, e3, e4, -, hT, hg⟩ := hto
  have hn : ∀ b ∈ (deqParts q X).flatten, b ≠ B ∧ w.heap.size ≤ b := fun b hb => by
    obtain ⟨a, ha, hx⟩ := List.mem_flatten.1 hb
    exact ⟨h.off a ha b hx, h.ge a ha b hx⟩
  refine ⟨X', h2, hT.heap h.rig (fun hm => (hn _ hm).1 rfl), fun a ha b hb e => ?_, h.touch.trans hT (fun x hx => .inr (hn x hx).2), fun a ha b hb => ?_, h.bge, e1.trans h.ids.1, e2.trans h.ids.2.1, e3.trans h.ids.2.2.1, e4.trans h.ids.2.2.2⟩
  · rcases hg a ha b hb with h3 | h3
    · exact (hn b h3).1 e
    · have := lt_of_heap h.rig; omega
  · rcases hg a ha b hb with h3 | h3
    · exact (hn b h3).2
    · have := h.touch.size; omega

theorem RigIn.quiet {w w1 w2 : World} {q B t s l cap : Nat} {X : DeqX} {M : TapeM} {P : PendM} {L : LogM} {due : List Int} (h : RigIn w w1 q B t s l cap X M P L due) (hT : Touch [] w1 w2) : RigIn w w2 q B t s l cap X M P L due :=
  ⟨h.at_.quiet hT, hT.heap h.rig (by simp), h.off, h.touch.trans' hT, h.ge, h.bge, h.ids⟩

theorem RigIn.made {w w1 : World} {q : Nat} {X : DeqX} {cap : Nat} {M : TapeM} {P : PendM} {L : LogM} (hd : DeqAt w1 q X M P L []) (hcap : X.cap = cap) (hT1 : Touch [] w w1) (hge : ∀ a ∈ deqParts q X, ∀ b ∈ a, w.heap.size ≤ b) :
    RigIn w (w1.alloc (rigObj X.t X.s X.l q)) q w1.heap.size X.t X.s X.l cap X M P L [] :=
  ⟨hd.quiet ((Touch.refl _ _).alloc _), heap_alloc_at _ _, fun a ha b hb e => by have := hd.lt a ha b hb; omega, hT1.alloc _, hge, hT1.size, rfl, rfl, rfl, hcap⟩
end Go.Proofs.YtljgifbnmgpdbaaGreatDoor

namespace Go.Proofs.YtljgifbnmgpdbaaGreatDoor
open Go Go.RowKit

def wakeM : MsgM := ⟨2, 0, 0, 0, 0, 0, ⟨#[97]⟩, ⟨#[]⟩, ⟨#[98]⟩, []⟩
def wakeT1 : TapeM := TapeM.push ⟨[], 0, 0⟩ wakeM
def wakeD : MsgM := deliveredM 0 wakeM 3
theorem wake_right : rightM wakeM = true := by decide
theorem wake_id : TapeM.idOf ⟨[], 0, 0⟩ wakeM = 0 := by decide
theorem wakeD_right : rightM wakeD = true := by decide
theorem wake_cost : TapeM.cost ⟨[], 0, 0⟩ wakeM ≤ 1000 := by decide
theorem wakeD_cost : wakeT1.fin + TapeM.cost wakeT1 wakeD ≤ 5000 := by decide
theorem wake_recs : wakeT1.recs = [(0, wakeM)] := by rfl
theorem wake_ids : (((wakeT1.push wakeD).recs.drop ((wakeT1.push wakeD).place 1)).map (·.1)) = [wakeT1.idOf wakeD] := by decide
theorem wake_note : (pendNote [] (0 : Int) wakeM).2 = [(0, (1, 0))] := by decide

theorem ints_one (w : World) (x : Int) : IntsAt (w.alloc (.cells #[.int .i64 x] 3)) (.slice (some ⟨w.heap.size, 0, none⟩) 1 1) [x] := by
  refine .inr ⟨w.heap.size, 0, 1, rfl, fun j y hj => ?_⟩
  match j, hj with
  | 0, hj =>
    have : x = y := by simpa using hj
    subst this
    exact cell_of (heap_alloc_at _ _) 0 _ rfl
  | j + 1, hj => simp at hj

theorem touch10 (w : World) (B : Nat) (v0 v1 v2 v3 v4 v5 v6 v7 v8 v9 : Value) : Touch [B] w ((((((((((((w).setCell ⟨B, 0, none⟩ (v0)).setCell ⟨B, 1, none⟩ (v1)).setCell ⟨B, 2, none⟩ (v2)).setCell ⟨B, 3, none⟩ (v3)).setCell ⟨B, 4, none⟩ (v4)).setCell ⟨B, 5, none⟩ (v5)).setCell ⟨B, 6, none⟩ (v6)).setCell ⟨B, 7, none⟩ (v7)).setCell ⟨B, 8, none⟩ (v8)).setCell ⟨B, 9, none⟩ (v9))) :=
  (((((((((((Touch.refl [B] w).setCell B 0 none v0 (.inl (by simp))).setCell B 1 none v1 (.inl (by simp))).setCell B 2 none v2 (.inl (by simp))).setCell B 3 none v3 (.inl (by simp))).setCell B 4 none v4 (.inl (by simp))).setCell B 5 none v5 (.inl (by simp))).setCell B 6 none v6 (.inl (by simp))).setCell B 7 none v7 (.inl (by simp))).setCell B 8 none v8 (.inl (by simp))).setCell B 9 none v9 (.inl (by simp)))

set_option maxRecDepth 100000 in
set_option maxHeartbeats 8000000 in
theorem awake20_ok (w : World) (hg : Glob w) :
    Calls Tryz.prog 37 #[] w fun e w' => e = .returned (.bool true) ∧ Touch [] w w' := by
  have HG := Lib.hid hg
  clear hg
  go_enter Tryz.func37, Tryz.ntmps37
  go_wp2_with fail
  refine (made20_ok w HG.out 10000 (by omega) 0 (by omega) (by omega)).mono ?_
  rintro e w1 ⟨q, X, rfl, hd, hcap, -, -, hT1, hge⟩
  have h2 := RigIn.made hd hcap hT1 hge
  obtain ⟨B, hB⟩ : ∃ B, B = w1.heap.size := ⟨_, rfl⟩
  obtain ⟨w2, hw2⟩ : ∃ w2, w2 = w1.alloc (rigObj X.t X.s X.l q) := ⟨_, rfl⟩
  rw [← hw2, ← hB] at h2
  have HW2 := Lib.hid (show w2 = w1.alloc (.cells #[.pointer (some ⟨X.t, 0, none⟩), .pointer (some ⟨X.s, 0, none⟩), .pointer (some ⟨X.l, 0, none⟩), .pointer (some ⟨q, 0, none⟩)] 68) from hw2)
  have HB := Lib.hid hB
  clear hd hcap hT1 hge hw2 hB
  unfold rigV
  go_upto_region 4 with fail
  rw [← HW2.out]
  rw [← HB.out]
  have hadd := add20_ok w2 q X ⟨[], 0, 0⟩ [] _ [] h2.at_ (HG.out.touch h2.touch (by simp)) wakeM (.slice none 0 0) ⟨none, 0, rfl, fun i s hi => by simp [wakeM] at hi⟩ (fun _ b hb => by cases hb) wake_right (by simp) (by have := wake_cost; have := h2.ids.2.2.2; simp only; omega)
  have hadd2 : Calls Tryz.prog 49 #[.agg #[.pointer (some ⟨X.t, 0, none⟩), .pointer (some ⟨X.s, 0, none⟩), .pointer (some ⟨X.l, 0, none⟩), .pointer (some ⟨q, 0, none⟩)], .agg #[.int .i64 2, .int .i64 0, .int .i64 0, .int .i64 0, .int .i64 0, .int .i64 0, .string ⟨#[97]⟩, .string ⟨#[]⟩, .string ⟨#[98]⟩, .slice none 0 0]] w2
      fun e w' => e = .returned (.tuple #[.int .i64 0, .int .i64 0]) ∧ DeqTo w2 q X wakeT1 [(0, (1, 0))] ⟨0, List.replicate 16 0, []⟩ [] w' := by
    refine hadd.mono ?_
    rintro e w' ⟨he, hto⟩
    have hid : (((TapeM.idOf ⟨[], 0, 0⟩ wakeM : Nat) : Int)) = 0 := by rw [wake_id]; rfl
    rw [hid] at hto he
    rw [wake_note] at hto
    exact ⟨he, hto⟩
  have hR2 := h2.rig
  unfold rigObj at hR2
  have r0 := cell_of hR2 0 _ rfl
  have r1 := cell_of hR2 1 _ rfl
  have r2 := cell_of hR2 2 _ rfl
  have r3 := cell_of hR2 3 _ rfl
  have HA := Lib.hid hadd2
  have H2 := Lib.hid h2
  clear hadd hadd2 hR2 h2
  go_wp2_with fail
  refine HA.out.mono ?_
  rintro e w3 ⟨rfl, hto⟩
  obtain ⟨X3, h3⟩ := H2.out.to hto
  have h3q := h3.quiet ((Touch.refl [] w3).alloc (.cells #[.int .i64 0] 3))
  have hR3 := h3.rig
  unfold rigObj at hR3
  have H3 := Lib.hid h3q
  clear r0 r1 r2 r3 h3 h3q hto
  have r3 := cell_of hR3 3 _ rfl
  clear hR3
  go_wp2_with fail
  have hadd2 := deqadd_ok _ q X3 _ _ _ [] H3.out.at_ _ [0] (ints_one w3 0) (by simp)
  refine hadd2.mono ?_
  rintro e w4 ⟨rfl, hto⟩
  obtain ⟨X4, h4⟩ := H3.out.to hto
  have hR4 := h4.rig
  unfold rigObj at hR4
  have H4 := Lib.hid h4
  clear r3 h4 hto hadd2
  have r3 := cell_of hR4 3 _ rfl
  clear hR4
  have hdel := deliver_go w4 q X4 wakeT1 [(0, (1, 0))] _ [0] H4.out.at_ (HG.out.touch H4.out.touch (by simp)) 0 wakeM 3 (by decide) (by rw [wake_recs]; simp) wakeD_right (by rw [wake_recs]; simp) (by have h1 := wakeD_cost; have h2 := H4.out.ids.2.2.2; show wakeT1.fin + wakeT1.cost wakeD ≤ X4.cap; omega)
  have hstep := deqstep_go w4 q X4 wakeT1 [(0, (1, 0))] _ 0 [] H4.out.at_ 3 (by simp) _ _ hdel
  have HS := Lib.hid hstep
  clear hdel hstep
  go_wp2_with fail
  refine HS.out.mono ?_
  rintro e w5 ⟨rfl, hto⟩
  obtain ⟨X5, h5⟩ := H4.out.to hto
  have h5 : RigIn w w5 q B X.t X.s X.l 10000 X5 (wakeT1.push wakeD) _ _ _ := h5
  have hR5 := h5.rig
  unfold rigObj at hR5
  have H5 := Lib.hid h5
  clear r3 h5 hto
  have r0 := cell_of hR5 0 _ rfl
  clear hR5
  have hids := tids_ok w5 _ _ _ _ H5.out.at_.tape (by show (wakeT1.recs ++ [(wakeT1.idOf wakeD, wakeD)]).length ≤ _; rw [wake_recs]; simp) 1
  rw [wake_ids, H5.out.ids.1] at hids
  have HI := Lib.hid hids
  clear hids
  go_wp2_with fail
  refine HI.out.mono ?_
  rintro e w6 ⟨v, rfl, hown, hT6⟩
  obtain ⟨i2, hi2⟩ : ∃ i2, i2 = wakeT1.idOf wakeD := ⟨_, rfl⟩
  rw [← hi2] at hown
  have hv : ∃ g cp, v = .slice (some ⟨g, 0, none⟩) 1 cp ∧ w6.cell? ⟨g, 0, none⟩ = some (.int .i64 i2) := by
    rcases hown.2 with ⟨-, h0⟩ | ⟨g, cp, cur, hv, -⟩
    · simp at h0
    · exact ⟨g, cp, by simpa using hv, by
        have := hown.cells (g := g) (by rw [hv]; rfl) 0 (.int .i64 i2) rfl
        rw [addr_add] at this; exact this⟩
  obtain ⟨g, cp, rfl, hgc⟩ := hv
  have h6 := H5.out.quiet hT6
  have hR6 := h6.rig
  unfold rigObj at hR6
  have hread := fun (W : World) (hT : Touch [] w6 W) => tread_ok W _ _ _ _ (h6.at_.quiet hT).tape (HG.out.touch (h6.touch.trans' hT) (by simp)) i2 wakeD (by show _ ∈ wakeT1.recs ++ [(wakeT1.idOf wakeD, wakeD)]; rw [hi2]; simp)
  rw [h6.ids.1] at hread
  have HRD := Lib.hid hread
  have H6 := Lib.hid h6
  clear r0 hown hT6 h6 hread hi2
  have r0 := cell_of hR6 0 _ rfl
  clear hR6
  go_upto_region 10 with fail
  have hT0 : Touch [] w6 w6.drew := (Touch.refl [] w6).drew
  have Z0 : w6.cell? ⟨B, 0, none⟩ = some (.pointer (some ⟨X.t, 0, none⟩)) := r0
  have Z1 : w6.cell? ⟨g, 0, none⟩ = some (.int .i64 i2) := hgc
  have hkeep : ∀ W, Touch [] w6 W → W.cell? ⟨B, 0, none⟩ = some (.pointer (some ⟨X.t, 0, none⟩)) ∧ W.cell? ⟨g, 0, none⟩ = some (.int .i64 i2) ∧ Touch [] w6 W := fun W hT => ⟨hT.cell Z0 (by simp), hT.cell Z1 (by simp), hT⟩
  have hz : ∀ W b, Touch [] w6 W → W.heap.size = b → w6.heap.size ≤ b := fun W b hT e => by have := hT.size; omega
  clear HW2 HB HA H2 H3 H4 HS HI H5 HG h5
  have hTa : ∀ o, Touch [] w6 (w6.alloc o).drew := fun o => ((Touch.refl [] w6).alloc o).drew
  have hza : (w6.alloc (msgObj noMsg (.slice none 0 0))).drew.heap[w6.heap.size]? = some (msgObj noMsg (.slice none 0 0)) := heap_alloc_at w6 _
  have hst : ∀ (w7 W : World), Touch [] w6 w7 → Touch [w7.heap.size] w7 W → Touch [] w6 W := fun w7 W h1 h2 => h1.trans h2 (fun x hx => by have := h1.size; simp at hx; omega)
  have hst2 : ∀ (w7 W : World), Touch [] w6 w7 → Touch [w6.heap.size] w7 W → Touch [] w6 W := fun w7 W h1 h2 => h1.trans h2 (fun x hx => by simp at hx; omega)
  have hst3 := hst2
  unfold msgObj noMsg at hza
  go_region_held3 (fun w' => w'.cell? ⟨B, 0, none⟩ = some (.pointer (some ⟨X.t, 0, none⟩)) ∧ w'.cell? ⟨g, 0, none⟩ = some (.int .i64 i2) ∧ Touch [] w6 w')
    (first
      | (refine hkeep _ ?_; first | with_reducible exact hT0 | with_reducible exact hT8 | with_reducible exact hTa _ | with_reducible exact hT8.alloc _)
      | (with_reducible exact hkeep _ (hst2 _ _ hT8 (touch10 _ _ _ _ _ _ _ _ _ _ _ _)))
      | fail)
    (first
      | (go_at_call 25; go_split_ands; refine (HRD.out _ (by first | with_reducible exact hT0 | with_reducible exact hTa _)).mono ?_; rintro e w7 ⟨kv, rfl, hks, hfr, hT7⟩; have hT8 := Touch.trans' (by first | with_reducible exact hT0 | with_reducible exact hTa _) hT7; obtain ⟨a', cp', rfl, hstr⟩ := hks; unfold msgV; simp only [wakeD, deliveredM, wakeM, List.length_nil]; first | (have hzb := hT7.heap hza (by simp); have x0 := cell_of hzb 0 _ rfl; have y0 := free_of hzb 0; have x1 := cell_of hzb 1 _ rfl; have y1 := free_of hzb 1; have x2 := cell_of hzb 2 _ rfl; have y2 := free_of hzb 2; have x3 := cell_of hzb 3 _ rfl; have y3 := free_of hzb 3; have x4 := cell_of hzb 4 _ rfl; have y4 := free_of hzb 4; have x5 := cell_of hzb 5 _ rfl; have y5 := free_of hzb 5; have x6 := cell_of hzb 6 _ rfl; have y6 := free_of hzb 6; have x7 := cell_of hzb 7 _ rfl; have y7 := free_of hzb 7; have x8 := cell_of hzb 8 _ rfl; have y8 := free_of hzb 8; have x9 := cell_of hzb 9 _ rfl; have y9 := free_of hzb 9) | skip))
  all_goals
    have HT8 := Lib.hid hT8
    clear hT8 hT7 hstr hfr hkeep hz hTa hza hst hst2 Z0 Z1 r0 hgc hT0
    go_wp2_with fail
    go_ret
    refine ⟨rfl, H6.out.touch.trans' ?_⟩
    first
      | with_reducible exact HT8.out.alloc _
      | with_reducible exact (hst3 _ _ HT8.out (touch10 _ _ _ _ _ _ _ _ _ _ _ _))
end Go.Proofs.YtljgifbnmgpdbaaGreatDoor

namespace Go.Proofs.YtljgifbnmgpdbaaGreatDoor
open Go Go.RowKit

set_option maxRecDepth 100000 in
set_option maxHeartbeats 2000000 in
theorem ref01same_ok (w : World) (a1 a2 : Option Addr) (c1 c2 : Nat) (ks : List ByteArray) (h1 : StrsAt w a1 ks) (h2 : StrsAt w a2 ks) (hl : ks.length ≤ 1000000) :
    Calls Tryz.prog 96 #[.slice a1 ks.length c1, .slice a2 ks.length c2] w fun e w' => e = .returned (.bool true) ∧ Touch [] w w' := by
  obtain ⟨n, hn⟩ : ∃ n, n = ks.length := ⟨_, rfl⟩
  rw [← hn] at hl ⊢
  have BN : (n : Int) ≤ 1000000 := by omega
  have HX := Lib.hid (And.intro h1 (And.intro h2 (And.intro hl hn)))
  clear h1 h2 hl hn
  go_enter Tryz.func96, Tryz.ntmps96
  go_wp2_with fail
  go_loopg [5] n (fun k vi wr => ∃ j : Nat, j + k = n ∧ vi = .int .i64 j ∧ Touch [] w wr)
  case atStart => exact ⟨0, by omega, by go_num, Touch.refl _ _⟩
  case round =>
    obtain ⟨j, hj, rfl, hT⟩ := hrel
    have HJ := Lib.hid (And.intro hj hT)
    by_cases hlt : j < n
    · have hjk : j < ks.length := by rw [← HX.out.2.2.2]; exact hlt
      obtain ⟨b1, o1, e1, x1⟩ := HX.out.1 j _ (List.getElem?_eq_getElem hjk)
      obtain ⟨b2, o2, e2, x2⟩ := HX.out.2.1 j _ (List.getElem?_eq_getElem hjk)
      subst e1
      subst e2
      have x1 := hT.cell x1 (by simp)
      have x2 := hT.cell x2 (by simp)
      obtain ⟨s, hs⟩ : ∃ s, s = ks[j] := ⟨_, rfl⟩
      rw [← hs] at x1 x2
      clear hs hT hj
      have BJ : (j : Int) < n := by omega
      go_wp2_with fail
      go_quiet (fail)
      go_wp2_with fail
      go_roundg (n - (j + 1))
      case measure => have := HJ.out.1; omega
      case rel => exact ⟨j + 1, by have := HJ.out.1; omega, by go_num, HJ.out.2.drewN _⟩
    · have hjn : (j : Int) = n := by omega
      have hd : decide ((j : Int) < n) = false := by simp; omega
      clear hj hT
      go_wp2_with fail
      go_ret
      exact ⟨rfl, HJ.out.2⟩

set_option maxRecDepth 100000 in
set_option maxHeartbeats 2000000 in
theorem refints_ok (w : World) (v1 v2 : Value) (l : List Int) (h1 : IntsAt w v1 l) (h2 : IntsAt w v2 l) (hl : l.length ≤ 1000000) :
    Calls Tryz.prog 34 #[v1, v2] w fun e w' => e = .returned (.bool true) ∧ Touch [] w w' := by
  have form : ∀ {v : Value}, IntsAt w v l → ∃ a c, v = .slice a l.length c ∧ ∀ (j : Nat) (x : Int), l[j]? = some x → ∃ b o, a = some ⟨b, o, none⟩ ∧ w.cell? ⟨b, o + j, none⟩ = some (.int .i64 x) := by
    intro v h
    rcases h with ⟨a, c, rfl, rfl⟩ | ⟨b, o, c, rfl, hc⟩
    · exact ⟨a, c, rfl, fun j x hj => by simp at hj⟩
    · exact ⟨_, c, rfl, fun j x hj => ⟨b, o, rfl, hc j x hj⟩⟩
  obtain ⟨a1, c1, rfl, g1⟩ := form h1
  obtain ⟨a2, c2, rfl, g2⟩ := form h2
  clear form
  obtain ⟨n, hn⟩ : ∃ n, n = l.length := ⟨_, rfl⟩
  rw [← hn] at hl ⊢
  have BN : (n : Int) ≤ 1000000 := by omega
  have HX := Lib.hid (And.intro g1 (And.intro g2 (And.intro hl hn)))
  clear h1 h2 g1 g2 hl hn
  go_enter Tryz.func34, Tryz.ntmps34
  go_wp2_with fail
  go_loopg [5] n (fun k vi wr => ∃ j : Nat, j + k = n ∧ vi = .int .i64 j ∧ Touch [] w wr)
  case atStart => exact ⟨0, by omega, by go_num, Touch.refl _ _⟩
  case round =>
    obtain ⟨j, hj, rfl, hT⟩ := hrel
    have HJ := Lib.hid (And.intro hj hT)
    by_cases hlt : j < n
    · have hjk : j < l.length := by rw [← HX.out.2.2.2]; exact hlt
      obtain ⟨b1, o1, e1, x1⟩ := HX.out.1 j _ (List.getElem?_eq_getElem hjk)
      obtain ⟨b2, o2, e2, x2⟩ := HX.out.2.1 j _ (List.getElem?_eq_getElem hjk)
      subst e1
      subst e2
      have x1 := hT.cell x1 (by simp)
      have x2 := hT.cell x2 (by simp)
      obtain ⟨s, hs⟩ : ∃ s, s = l[j] := ⟨_, rfl⟩
      rw [← hs] at x1 x2
      clear hs hT hj
      have BJ : (j : Int) < n := by omega
      go_wp2_with fail
      go_quiet (fail)
      go_wp2_with fail
      go_roundg (n - (j + 1))
      case measure => have := HJ.out.1; omega
      case rel => exact ⟨j + 1, by have := HJ.out.1; omega, by go_num, HJ.out.2.drewN _⟩
    · have hjn : (j : Int) = n := by omega
      have hd : decide ((j : Int) < n) = false := by simp; omega
      clear hj hT
      go_wp2_with fail
      go_ret
      exact ⟨rfl, HJ.out.2⟩

set_option maxRecDepth 100000 in
set_option maxHeartbeats 4000000 in
theorem ref06same_ok (w : World) (m : MsgM) (kv1 kv2 : Value) (h1 : KeysAt w kv1 m.keys) (h2 : KeysAt w kv2 m.keys) (hl : m.keys.length ≤ 1000000) :
    Calls Tryz.prog 46 #[msgV m kv1, msgV m kv2] w fun e w' => e = .returned (.bool true) ∧ Touch [] w w' := by
  obtain ⟨a1, c1, rfl, s1⟩ := h1
  obtain ⟨a2, c2, rfl, s2⟩ := h2
  obtain ⟨w0, hw0⟩ : ∃ w0, w0 = (w.alloc (msgObj m (.slice a1 m.keys.length c1))).alloc (msgObj m (.slice a2 m.keys.length c2)) := ⟨_, rfl⟩
  have hT0 : Touch [] w w0 := by rw [hw0]; exact ((Touch.refl _ _).alloc _).alloc _
  have hcall := ref01same_ok w0 a1 a2 c1 c2 m.keys (s1.touch hT0 (by simp)) (s2.touch hT0 (by simp)) hl
  rw [hw0] at hcall
  have HT := Lib.hid hT0
  rw [hw0] at HT
  unfold msgObj at hcall HT
  have HC := Lib.hid hcall
  clear hcall hT0 hw0 s1 s2 hl
  unfold msgV
  go_enter Tryz.func46, Tryz.ntmps46
  go_wp2_with fail
  refine HC.out.mono ?_
  rintro e w1 ⟨rfl, hT1⟩
  have HT1 := Lib.hid hT1
  clear hT1
  go_wp2_with fail
  go_ret
  exact ⟨rfl, HT.out.trans' HT1.out⟩
end Go.Proofs.YtljgifbnmgpdbaaGreatDoor

namespace Go.Proofs.YtljgifbnmgpdbaaGreatDoor
open Go Go.ChangeShapes Go.WideShapes Go.ChangeAt Go.RowKit

theorem strings_read {H : Type} {enc : TypeId × Value → H} {W : World} {fuel : Nat} {c : Value} {x : DataW H × List MemPlace} (h : DataW.trod enc Tryz.prog W 0 (fun _ => true) true fuel 44 [c] = some x) : ∃ ks : List ByteArray, KeysAt W c ks ∧ ks.length ≤ maxLen := by
  rcases open_strings Tryz.underlying44 Tryz.underlying9 (by kernel_rfl) h with ⟨hcs, -⟩ | ⟨a, len, cap, ss, hcs, -, hl, hm, hz, -, hcell, -⟩
  · simp only [List.cons.injEq, and_true] at hcs
    subst hcs
    exact ⟨[], ⟨none, 0, rfl, fun i s hi => by simp at hi⟩, Nat.zero_le _⟩
  · simp only [List.cons.injEq, and_true] at hcs
    subst hcs
    simp only [if_true] at hz
    have hlen : (ss.take len).length = len := by simp; omega
    refine ⟨ss.take len, ⟨some a, cap, by rw [hlen], fun i s hi => ?_⟩, by rw [hlen]; omega⟩
    have hil : i < len := by rw [← hlen]; exact (List.getElem?_eq_some_iff.1 hi).1
    have hc := hcell i (by omega)
    obtain ⟨b, o, st⟩ := a
    have hst : st = none := by simpa [Addr.add] using World.cell?_spot (hcell 0 (by omega))
    subst hst
    rw [addr_add] at hc
    refine ⟨b, o, rfl, ?_⟩
    rw [hc]
    have : ss[i]? = some s := by rw [List.getElem?_take_of_lt hil] at hi; exact hi
    simp [List.getD_eq_getElem?_getD, this]

theorem ints_read {H : Type} {enc : TypeId × Value → H} {W : World} {fuel : Nat} {c : Value} {x : DataW H × List MemPlace} (h : DataW.trod enc Tryz.prog W 0 (fun _ => true) true fuel 43 [c] = some x) : ∃ l : List Int, IntsAt W c l ∧ l.length ≤ maxLen := by
  rcases open_ints Tryz.underlying43 Tryz.underlying3 (by kernel_rfl) h with ⟨hcs, -⟩ | ⟨a, len, cap, zs, hcs, -, hl, hm, hz, -, hcell, -⟩
  · simp only [List.cons.injEq, and_true] at hcs
    subst hcs
    exact ⟨[], .inl ⟨_, _, rfl, rfl⟩, Nat.zero_le _⟩
  · simp only [List.cons.injEq, and_true] at hcs
    subst hcs
    simp only [if_true] at hz
    have hlen : (zs.take len).length = len := by simp; omega
    obtain ⟨b, o, st⟩ := a
    by_cases h0 : len = 0
    · subst h0
      exact ⟨[], .inl ⟨_, _, rfl, rfl⟩, Nat.zero_le _⟩
    · have hst : st = none := by simpa [Addr.add] using World.cell?_spot (hcell 0 (by omega))
      subst hst
      refine ⟨zs.take len, .inr ⟨b, o, cap, by rw [hlen], fun i x hi => ?_⟩, by rw [hlen]; omega⟩
      have hil : i < len := by rw [← hlen]; exact (List.getElem?_eq_some_iff.1 hi).1
      have hc := hcell i (by omega)
      rw [addr_add] at hc
      rw [hc]
      have : zs[i]? = some x := by rw [List.getElem?_take_of_lt hil] at hi; exact hi
      simp [List.getD_eq_getElem?_getD, this]
end Go.Proofs.YtljgifbnmgpdbaaGreatDoor

namespace Go.Proofs.YtljgifbnmgpdbaaGreatDoor
open Go Go.ChangeShapes Go.WideShapes Go.ChangeAt Go.RowKit

set_option maxRecDepth 100000 in
theorem msg_read {H : Type} {enc : TypeId × Value → H} {W : World} {base : Nat} {v : Value} {d : DataW H} {p : List MemPlace} (hv : Value.okWide Tryz.prog W .any base 46 v)
    (h : DataW.Trod enc Tryz.prog W 0 (fun _ => true) true 46 v d p) : ∃ (m : MsgM) (kv : Value), v = msgV m kv ∧ KeysAt W kv m.keys ∧ m.keys.length ≤ maxLen ∧ m.body.size ≤ maxLen ∧ m.topic.size ≤ maxLen ∧ m.tag.size ≤ maxLen := by
  obtain ⟨cs, rfl, hsz⟩ := okWide_struct Tryz.underlying46 hv
  rw [show Tryz.prog.cellsOf 46 = 10 by kernel_rfl] at hsz
  obtain ⟨fuel, hf⟩ := h
  obtain ⟨xs, n, -, -, -, hxl, hfld⟩ := DataW.trod_struct Tryz.underlying46 hf
  have hxl : xs.length = 10 := hxl
  obtain ⟨c0, c1, c2, c3, c4, c5, c6, c7, c8, c9, rfl⟩ : ∃ c0 c1 c2 c3 c4 c5 c6 c7 c8 c9, cs = #[c0, c1, c2, c3, c4, c5, c6, c7, c8, c9] := by
    obtain ⟨l⟩ := cs
    match l, hsz with
    | [c0, c1, c2, c3, c4, c5, c6, c7, c8, c9], _ => exact ⟨_, _, _, _, _, _, _, _, _, _, rfl⟩
  have k3 : Tryz.prog.cellsOf 3 = 1 := by kernel_rfl
  have k9 : Tryz.prog.cellsOf 9 = 1 := by kernel_rfl
  have k44 : Tryz.prog.cellsOf 44 = 1 := by kernel_rfl
  have f0 : DataW.trod enc Tryz.prog W 0 (fun _ => true) true n 3 (List.take (Tryz.prog.cellsOf 3) [c0, c1, c2, c3, c4, c5, c6, c7, c8, c9]) = xs[0]? := hfld 0 _ rfl
  rw [k3, List.getElem?_eq_getElem (by omega)] at f0
  have f0 : DataW.trod enc Tryz.prog W 0 (fun _ => true) true n 3 [c0] = some xs[0] := f0
  have f1 : DataW.trod enc Tryz.prog W 0 (fun _ => true) true n 3 (List.take (Tryz.prog.cellsOf 3) [c1, c2, c3, c4, c5, c6, c7, c8, c9]) = xs[1]? := hfld 1 _ rfl
  rw [k3, List.getElem?_eq_getElem (by omega)] at f1
  have f1 : DataW.trod enc Tryz.prog W 0 (fun _ => true) true n 3 [c1] = some xs[1] := f1
  have f2 : DataW.trod enc Tryz.prog W 0 (fun _ => true) true n 3 (List.take (Tryz.prog.cellsOf 3) [c2, c3, c4, c5, c6, c7, c8, c9]) = xs[2]? := hfld 2 _ rfl
  rw [k3, List.getElem?_eq_getElem (by omega)] at f2
  have f2 : DataW.trod enc Tryz.prog W 0 (fun _ => true) true n 3 [c2] = some xs[2] := f2
  have f3 : DataW.trod enc Tryz.prog W 0 (fun _ => true) true n 3 (List.take (Tryz.prog.cellsOf 3) [c3, c4, c5, c6, c7, c8, c9]) = xs[3]? := hfld 3 _ rfl
  rw [k3, List.getElem?_eq_getElem (by omega)] at f3
  have f3 : DataW.trod enc Tryz.prog W 0 (fun _ => true) true n 3 [c3] = some xs[3] := f3
  have f4 : DataW.trod enc Tryz.prog W 0 (fun _ => true) true n 3 (List.take (Tryz.prog.cellsOf 3) [c4, c5, c6, c7, c8, c9]) = xs[4]? := hfld 4 _ rfl
  rw [k3, List.getElem?_eq_getElem (by omega)] at f4
  have f4 : DataW.trod enc Tryz.prog W 0 (fun _ => true) true n 3 [c4] = some xs[4] := f4
  have f5 : DataW.trod enc Tryz.prog W 0 (fun _ => true) true n 3 (List.take (Tryz.prog.cellsOf 3) [c5, c6, c7, c8, c9]) = xs[5]? := hfld 5 _ rfl
  rw [k3, List.getElem?_eq_getElem (by omega)] at f5
  have f5 : DataW.trod enc Tryz.prog W 0 (fun _ => true) true n 3 [c5] = some xs[5] := f5
  have f6 : DataW.trod enc Tryz.prog W 0 (fun _ => true) true n 9 (List.take (Tryz.prog.cellsOf 9) [c6, c7, c8, c9]) = xs[6]? := hfld 6 _ rfl
  rw [k9, List.getElem?_eq_getElem (by omega)] at f6
  have f6 : DataW.trod enc Tryz.prog W 0 (fun _ => true) true n 9 [c6] = some xs[6] := f6
  have f7 : DataW.trod enc Tryz.prog W 0 (fun _ => true) true n 9 (List.take (Tryz.prog.cellsOf 9) [c7, c8, c9]) = xs[7]? := hfld 7 _ rfl
  rw [k9, List.getElem?_eq_getElem (by omega)] at f7
  have f7 : DataW.trod enc Tryz.prog W 0 (fun _ => true) true n 9 [c7] = some xs[7] := f7
  have f8 : DataW.trod enc Tryz.prog W 0 (fun _ => true) true n 9 (List.take (Tryz.prog.cellsOf 9) [c8, c9]) = xs[8]? := hfld 8 _ rfl
  rw [k9, List.getElem?_eq_getElem (by omega)] at f8
  have f8 : DataW.trod enc Tryz.prog W 0 (fun _ => true) true n 9 [c8] = some xs[8] := f8
  have f9 : DataW.trod enc Tryz.prog W 0 (fun _ => true) true n 44 (List.take (Tryz.prog.cellsOf 44) [c9]) = xs[9]? := hfld 9 _ rfl
  rw [k44, List.getElem?_eq_getElem (by omega)] at f9
  have f9 : DataW.trod enc Tryz.prog W 0 (fun _ => true) true n 44 [c9] = some xs[9] := f9
  obtain ⟨n0, e0, -, -⟩ := DataW.trod_int Tryz.underlying3 f0
  obtain ⟨n1, e1, -, -⟩ := DataW.trod_int Tryz.underlying3 f1
  obtain ⟨n2, e2, -, -⟩ := DataW.trod_int Tryz.underlying3 f2
  obtain ⟨n3, e3, -, -⟩ := DataW.trod_int Tryz.underlying3 f3
  obtain ⟨n4, e4, -, -⟩ := DataW.trod_int Tryz.underlying3 f4
  obtain ⟨n5, e5, -, -⟩ := DataW.trod_int Tryz.underlying3 f5
  obtain ⟨s6, e6, -, z6⟩ := DataW.trod_string Tryz.underlying9 f6
  obtain ⟨s7, e7, -, z7⟩ := DataW.trod_string Tryz.underlying9 f7
  obtain ⟨s8, e8, -, z8⟩ := DataW.trod_string Tryz.underlying9 f8
  obtain ⟨ks, hks, hkl⟩ := strings_read f9
  simp only [List.cons.injEq, and_true] at e0 e1 e2 e3 e4 e5 e6 e7 e8
  subst e0 e1 e2 e3 e4 e5 e6 e7 e8
  exact ⟨⟨n0, n1, n2, n3, n4, n5, s6, s7, s8, ks⟩, c9, rfl, hks, hkl, z8, z6, z7⟩

set_option maxRecDepth 100000 in
theorem flags_read {H : Type} {enc : TypeId × Value → H} {W : World} {base : Nat} {v : Value} {d : DataW H} {p : List MemPlace} (hv : Value.okWide Tryz.prog W .any base 22 v)
    (h : DataW.Trod enc Tryz.prog W 0 (fun _ => true) true 22 v d p) : ∃ f0 f1 f2 : Bool, v = .agg #[.bool f0, .bool f1, .bool f2] := by
  simp only [Value.okWide, Tryz.underlying22] at hv
  obtain ⟨cs, rfl, hsz, -⟩ := hv
  rw [show Tryz.prog.cellsOf 22 = 3 by kernel_rfl] at hsz
  obtain ⟨fuel, hf⟩ := h
  obtain ⟨xs, n, -, -, -, hxl, hfld⟩ := DataW.trod_array Tryz.underlying22 hf
  obtain ⟨c0, c1, c2, rfl⟩ : ∃ c0 c1 c2, cs = #[c0, c1, c2] := by
    obtain ⟨l⟩ := cs
    match l, hsz with
    | [c0, c1, c2], _ => exact ⟨_, _, _, rfl⟩
  have k4 : Tryz.prog.cellsOf 4 = 1 := by kernel_rfl
  rw [k4] at hfld
  have f0 := hfld 0 (by omega)
  have f1 := hfld 1 (by omega)
  have f2 := hfld 2 (by omega)
  rw [List.getElem?_eq_getElem (by omega)] at f0 f1 f2
  have f0 : DataW.trod enc Tryz.prog W 0 (fun _ => true) true n 4 [c0] = some xs[0] := f0
  have f1 : DataW.trod enc Tryz.prog W 0 (fun _ => true) true n 4 [c1] = some xs[1] := f1
  have f2 : DataW.trod enc Tryz.prog W 0 (fun _ => true) true n 4 [c2] = some xs[2] := f2
  obtain ⟨b0, e0, -⟩ := DataW.trod_bool Tryz.underlying4 f0
  obtain ⟨b1, e1, -⟩ := DataW.trod_bool Tryz.underlying4 f1
  obtain ⟨b2, e2, -⟩ := DataW.trod_bool Tryz.underlying4 f2
  simp only [List.cons.injEq, and_true] at e0 e1 e2
  subst e0 e1 e2
  exact ⟨b0, b1, b2, rfl⟩
end Go.Proofs.YtljgifbnmgpdbaaGreatDoor

namespace Go.Proofs.YtljgifbnmgpdbaaGreatDoor
open Go Go.ChangeShapes Go.WideShapes Go.ChangeAt Go.RowKit

theorem own : ownKnob Tryz.prog.godebug = none := by kernel_rfl
theorem laidOut : laidOutB Tryz.prog = true := by kernel_rfl
theorem gTabType : (Tryz.prog.globals[3]?).map (·.type) = some 406 := by kernel_rfl
theorem cellsTab : Tryz.prog.cellsOf 406 = 20 := by kernel_rfl
theorem cellsWord : Tryz.prog.cellsOf 304 = 1 := by kernel_rfl
theorem eight {W : World} (h : W.ShapedOpen Tryz.prog) : 8 ≤ W.heap.size := by
  have h0 : (begin Tryz.prog (fun _ _ => 0) default).world.heap[7]?.isSome = true := by kernel_rfl
  by_cases h8 : 8 ≤ W.heap.size
  · exact h8
  · exfalso
    obtain ⟨z, t, hz⟩ : ∃ zero t, ((begin Tryz.prog (fun _ _ => 0) default).world.heap[7]?).bind Obj.row? = some (zero, t) := by
      have : (((begin Tryz.prog (fun _ _ => 0) default).world.heap[7]?).bind Obj.row?).isSome = true := by kernel_rfl
      obtain ⟨x, hx⟩ := Option.isSome_iff_exists.1 this
      exact ⟨x.1, x.2, hx⟩
    obtain ⟨cs, hcs, -⟩ := h.1 7 z t (of_decide_eq_true (by kernel_rfl)) hz
    have := (Array.getElem?_eq_some_iff.1 hcs).1
    omega

/-- The rows' list. -/
def laidL : List (String × DataW Unit) := [("math/bits.deBruijn32tab", Rows.laid_math_bits_deBruijn32tab), ("math/bits.deBruijn64tab", Rows.laid_math_bits_deBruijn64tab), ("internal/strconv.uint64pow10", Rows.laid_internal_strconv_uint64pow10), ("unicode/utf8.acceptRanges", Rows.laid_unicode_utf8_acceptRanges), ("strconv.ErrRange", Rows.laid_strconv_ErrRange), ("strconv.ErrSyntax", Rows.laid_strconv_ErrSyntax), ("unicode/utf8.first", Rows.laid_unicode_utf8_first)]
theorem laid_plain (W : World) : laidMetH Tryz.prog laidL W = laidMet Tryz.prog laidL W := MakeChecks.laidMetH_plain _ _ _ (by kernel_rfl)

theorem glob_of {W : World} (h8 : W.ShapedOpen Tryz.prog) (h : laidMetH Tryz.prog laidL W) : Glob W := by
  rw [laid_plain] at h
  have h3 : laidMet Tryz.prog (("internal/strconv.uint64pow10", Lib.tabData .u64 Lib.pow10Tab) :: _) W := laidMet.tail (laidMet.tail h)
  exact ⟨eight h8, Lib.tabIs_of_head glob_at gTabType Tryz.underlying406 Tryz.underlying304 cellsWord cellsTab h3⟩

noncomputable def laidWorld (os : Os) : World := World.laidAll Tryz.prog os laidL
theorem laid_met (os : Os) (args : Array Value) : laidMetH Tryz.prog laidL ((laidWorld os).forCall (fun _ _ => 0) ⟨#[], args, []⟩).memory := by
  rw [laid_plain]; exact laidMet_laidAll _ (by kernel_rfl) (by kernel_rfl)

theorem witness_laid {H : Type} {enc : TypeId × Value → H} {C : Checked} {os : Os} {f : FuncId} {fn : Func} {s : OpenSpec} {conds : List PathCond} {apart : Bool} {laid : List (String × DataW Unit)} (w0 : World) (args : Array Value) (hos : w0.os = os)
    (hsh : (w0.forCall (fun _ _ => 0) ⟨#[], args, []⟩).Shaped C.prog) (hok : Input.okWideB C.prog (w0.forCall (fun _ _ => 0) ⟨#[], args, []⟩) f ⟨#[], args, []⟩ = true)
    (hrow : s.preRow enc C.prog fn conds apart laid (w0.forCall (fun _ _ => 0) ⟨#[], args, []⟩).memory args) :
    ∃ (w : World) (tape : Tape) (i : Input), w.os = os ∧ (w.forCall tape i).Shaped C.prog ∧ i.vars = [] ∧ Input.okWide C.prog (w.forCall tape i) .any w.heap.size f i ∧
      s.preRow enc C.prog fn conds apart laid (w.forCall tape i).memory i.args ∧ ({} : Assume).holds C.prog (lone (Frame.enter C.prog f i.args .normal) [] (w.forCall tape i)) :=
  ⟨w0, fun _ _ => 0, ⟨#[], args, []⟩, hos, hsh, (Input.okWide_of_okWideB (base := 0) hok).1, (Input.okWide_of_okWideB hok).2, hrow, by
    simp only [Assume.holds]
    exact ⟨by simp, by simp, by simp, by simp, by simp⟩⟩

/-- No function starts a goroutine: so no call does. -/
theorem no_goes : Tryz.prog.funcs.any Func.goes = false := by kernel_rfl
theorem goes_of (c : OpenClaim) (hs : c.start = .entering) : false = c.goesBy Tryz.pinned.checked.prog := by
  have hn : (Tryz.pinned.checked.prog).funcs.any Func.goes = false := no_goes
  generalize Tryz.pinned.checked.prog = P at hn
  have hg : ∀ f, P.goes f = false := by
    intro f
    unfold Program.goes
    rw [hn, Bool.and_false, Bool.or_false, List.any_eq_false]
    intro g _
    cases hf : P.funcs[g]? with
    | none => simp
    | some fn =>
      have h1 := (Array.any_eq_false.1 hn) g (Array.getElem?_eq_some_iff.1 hf).1
      rw [(Array.getElem?_eq_some_iff.1 hf).2] at h1
      simpa using h1
  unfold OpenClaim.goesBy Program.goesAt Program.goesFrom
  rw [hs]
  cases P.funcNamed c.func with
  | none => rfl
  | some f => simp [hg]
end Go.Proofs.YtljgifbnmgpdbaaGreatDoor
