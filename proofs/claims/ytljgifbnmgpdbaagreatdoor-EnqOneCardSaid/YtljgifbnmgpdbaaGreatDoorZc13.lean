/- Layer 20 (deq): deliver. (Here too: Layer 7 (entry): places, links, marks out of their bytes. Layer 8 (tape): Open of an empty disk. Layers 15, 16 (wheel, tlog): what a timer log is in memory; New; the hand. Layer 20 (deq): what a dequeuer is in memory; New, Add, Due, Busy. Layer 20 (deq): Busy, deliver of what isn't pending; a step over it. Layer 20 (deq): a step at what is due. A region: its first operations leave a world of the class C, in whatever order; then one call, into the class D; then the rest, in whatever order. One walk in the text's order serves all. Plain; over any program.) -/
import Derived.Test.YtljgifbnmgpdbaaGreatDoorZc12
set_option linter.unusedSimpArgs false
set_option linter.unusedVariables false
set_option linter.unnecessarySimpa false
namespace Go.Proofs.YtljgifbnmgpdbaaGreatDoor
open Go Go.RowKit

theorem alloc6 (w : World) (o0 o1 o2 o3 o4 o5 : Obj) : (((((((w.alloc o0).alloc o1).alloc o2).alloc o3).alloc o4).alloc o5).heap[w.heap.size]? = some o0) ∧ (((((((w.alloc o0).alloc o1).alloc o2).alloc o3).alloc o4).alloc o5).heap[w.heap.size + 1]? = some o1) ∧
    (((((((w.alloc o0).alloc o1).alloc o2).alloc o3).alloc o4).alloc o5).heap[w.heap.size + 1 + 1]? = some o2) ∧ (((((((w.alloc o0).alloc o1).alloc o2).alloc o3).alloc o4).alloc o5).heap[w.heap.size + 1 + 1 + 1]? = some o3) ∧
    (((((((w.alloc o0).alloc o1).alloc o2).alloc o3).alloc o4).alloc o5).heap[w.heap.size + 1 + 1 + 1 + 1]? = some o4) ∧ (((((((w.alloc o0).alloc o1).alloc o2).alloc o3).alloc o4).alloc o5).heap[w.heap.size + 1 + 1 + 1 + 1 + 1]? = some o5) ∧
    Touch [] w ((((((w.alloc o0).alloc o1).alloc o2).alloc o3).alloc o4).alloc o5) := by
  refine ⟨?_, ?_, ?_, ?_, ?_, ?_, (((((((Touch.refl [] w).alloc _).alloc _).alloc _).alloc _).alloc _).alloc _)⟩
  · exact heap_alloc_lt (heap_alloc_lt (heap_alloc_lt (heap_alloc_lt (heap_alloc_lt (heap_alloc_at w o0) _) _) _) _) _
  · exact heap_alloc_lt (heap_alloc_lt (heap_alloc_lt (heap_alloc_lt (heap_at _ o1 _ (by simp)) _) _) _) _
  · exact heap_alloc_lt (heap_alloc_lt (heap_alloc_lt (heap_at _ o2 _ (by simp)) _) _) _
  · exact heap_alloc_lt (heap_alloc_lt (heap_at _ o3 _ (by simp)) _) _
  · exact heap_alloc_lt (heap_at _ o4 _ (by simp)) _
  · exact heap_at _ o5 _ (by simp)


set_option maxRecDepth 100000 in
set_option maxHeartbeats 2000000 in
theorem getPlace_ok (w : World) (a b c d : Nat) (ha : a < 256 ^ 6) (hb : b < 256 ^ 2) (hc : c < 256 ^ 5) (hd : d < 256 ^ 7) :
    Calls Tryz.prog 162 #[.string (bytesOf (wideB [(6, a), (2, b), (5, c), (7, d)]))] w fun e w' => e = .returned (.tuple #[.agg #[.int .i64 a, .int .i64 b, .int .i64 c, .int .i64 d], .bool true]) ∧ Touch [] w w' := by
  have HH := Lib.hid (And.intro ha (And.intro hb (And.intro hc hd)))
  obtain ⟨s, hs⟩ : ∃ s, s = bytesOf (wideB [(6, a), (2, b), (5, c), (7, d)]) := ⟨_, rfl⟩
  rw [← hs]
  have HS := Lib.hid hs
  clear ha hb hc hd hs
  go_enter Tryz.func162, Tryz.ntmps162
  go_wp2_with fail
  obtain ⟨h0, h1, h2, h3, h4, h5, hT⟩ := alloc6 w (.cells #[.int .i64 0, .int .i64 0, .int .i64 0, .int .i64 0] 112) (.cells #[.int .i64 6, .int .i64 0] 290) (.cells #[.int .i64 2, .int .i64 0] 290) (.cells #[.int .i64 5, .int .i64 0] 290) (.cells #[.int .i64 7, .int .i64 0] 290)
    (.cells #[.pointer (some ⟨w.heap.size + 1, 0, none⟩), .pointer (some ⟨w.heap.size + 1 + 1, 0, none⟩), .pointer (some ⟨w.heap.size + 1 + 1 + 1, 0, none⟩), .pointer (some ⟨w.heap.size + 1 + 1 + 1 + 1, 0, none⟩)] 292)
  obtain ⟨W, hW⟩ : ∃ W, W = (((((w.alloc (.cells #[.int .i64 0, .int .i64 0, .int .i64 0, .int .i64 0] 112)).alloc (.cells #[.int .i64 6, .int .i64 0] 290)).alloc (.cells #[.int .i64 2, .int .i64 0] 290)).alloc (.cells #[.int .i64 5, .int .i64 0] 290)).alloc (.cells #[.int .i64 7, .int .i64 0] 290)).alloc
    (.cells #[.pointer (some ⟨w.heap.size + 1, 0, none⟩), .pointer (some ⟨w.heap.size + 1 + 1, 0, none⟩), .pointer (some ⟨w.heap.size + 1 + 1 + 1, 0, none⟩), .pointer (some ⟨w.heap.size + 1 + 1 + 1 + 1, 0, none⟩)] 292) := ⟨_, rfl⟩
  rw [← hW] at h0 h1 h2 h3 h4 h5 hT ⊢
  clear hW
  obtain ⟨B, hB⟩ : ∃ B, B = w.heap.size := ⟨_, rfl⟩
  rw [← hB] at h0 h1 h2 h3 h4 h5 ⊢
  have HB := Lib.hid hB
  clear hB
  have hget := eget_ok W [(B + 1, 6, a), (B + 1 + 1, 2, b), (B + 1 + 1 + 1, 5, c), (B + 1 + 1 + 1 + 1, 7, d)] (B + 1 + 1 + 1 + 1 + 1) 4
    (fun i p hi => by
      match i, hi with
      | 0, hi => simp at hi; subst hi; exact cell_of h5 0 _ rfl
      | 1, hi => simp at hi; subst hi; exact cell_of h5 1 _ rfl
      | 2, hi => simp at hi; subst hi; exact cell_of h5 2 _ rfl
      | 3, hi => simp at hi; subst hi; exact cell_of h5 3 _ rfl
      | i + 4, hi => simp at hi)
    (fun p hp => by
      simp only [List.mem_cons, List.not_mem_nil, or_false] at hp
      rcases hp with rfl | rfl | rfl | rfl
      · exact h1
      · exact h2
      · exact h3
      · exact h4)
    (by simp) (by simp; omega) (by simp)
    (fun p hp => by
      obtain ⟨ha, hb, hc, hd⟩ := HH.out
      simp only [List.mem_cons, List.not_mem_nil, or_false] at hp
      rcases hp with rfl | rfl | rfl | rfl
      · exact ⟨by simp, by simp, ha⟩
      · exact ⟨by simp, by simp, hb⟩
      · exact ⟨by simp, by simp, hc⟩
      · exact ⟨by simp, by simp, hd⟩)
  have hsL : bytesOf (wideL [(B + 1, 6, a), (B + 1 + 1, 2, b), (B + 1 + 1 + 1, 5, c), (B + 1 + 1 + 1 + 1, 7, d)]) = s := by rw [HS.out]; rfl
  rw [hsL] at hget
  have HT := Lib.hid hT
  have H0 := Lib.hid h0
  clear h1 h2 h3 h4 h5 hT hsL h0
  refine hget.mono ?_
  rintro e w2 ⟨rfl, hcs, hT2⟩
  have k0 := hT2.heap H0.out (by simp; omega)
  have j2 : w2.heap[B + 1 + 1]? = some (widthCells 2 b) := hcs (B + 1 + 1, 2, b) (by simp)
  have k2 := cell_of j2 1 _ rfl
  have j3 : w2.heap[B + 1 + 1 + 1]? = some (widthCells 5 c) := hcs (B + 1 + 1 + 1, 5, c) (by simp)
  have k3 := cell_of j3 1 _ rfl
  have j4 : w2.heap[B + 1 + 1 + 1 + 1]? = some (widthCells 7 d) := hcs (B + 1 + 1 + 1 + 1, 7, d) (by simp)
  have k4 := cell_of j4 1 _ rfl
  have j1 : w2.heap[B + 1]? = some (widthCells 6 a) := hcs (B + 1, 6, a) (by simp)
  have k1 := cell_of j1 1 _ rfl
  have r0 := cell_of k0 0 _ rfl
  have r1 := cell_of k0 1 _ rfl
  have r2 := cell_of k0 2 _ rfl
  have r3 := cell_of k0 3 _ rfl
  have f0 := free_of k0 0
  have f1 := free_of k0 1
  have f2 := free_of k0 2
  have f3 := free_of k0 3
  have HT2 := Lib.hid hT2
  have K0 := Lib.hid k0
  clear hget hcs hT2 k0 j1 j2 j3 j4
  go_wp2_with fail
  have z1 := heap_setCell_at K0.out 0 (.int .i64 (a : Int))
  have z2 := heap_setCell_at z1 1 (.int .i64 (b : Int))
  have z3 := heap_setCell_at z2 2 (.int .i64 (c : Int))
  have z4 := heap_setCell_at z3 3 (.int .i64 (d : Int))
  have hTf : Touch [B] w2 ((((w2.setCell ⟨B, 0, none⟩ (.int .i64 (a : Int))).setCell ⟨B, 1, none⟩ (.int .i64 (b : Int))).setCell ⟨B, 2, none⟩ (.int .i64 (c : Int))).setCell ⟨B, 3, none⟩ (.int .i64 (d : Int))) :=
    ((((Touch.refl [B] w2).setCell _ _ _ _ (by simp)).setCell _ _ _ _ (by simp)).setCell _ _ _ _ (by simp)).setCell _ _ _ _ (by simp)
  generalize (((w2.setCell ⟨B, 0, none⟩ (.int .i64 (a : Int))).setCell ⟨B, 1, none⟩ (.int .i64 (b : Int))).setCell ⟨B, 2, none⟩ (.int .i64 (c : Int))).setCell ⟨B, 3, none⟩ (.int .i64 (d : Int)) = W5 at *
  have s0 := cell_of z4 0 (.int .i64 (a : Int)) rfl
  have s1 := cell_of z4 1 (.int .i64 (b : Int)) rfl
  have s2 := cell_of z4 2 (.int .i64 (c : Int)) rfl
  have s3 := cell_of z4 3 (.int .i64 (d : Int)) rfl
  refine bodyPost_ret (v := .tuple #[.agg #[.int .i64 a, .int .i64 b, .int .i64 c, .int .i64 d], .bool true]) (by simp [results, Tryz.results162, go_sem, s0, s1, s2, s3]) rfl ⟨rfl, ?_⟩
  have hT3 : Touch [] w w2 := HT.out.trans HT2.out (fun x hx => by
    have := HB.out
    simp at hx; right; omega)
  exact hT3.trans hTf (fun x hx => by
    have := HB.out
    simp at hx; right; omega)

set_option maxRecDepth 100000 in
set_option maxHeartbeats 2000000 in
theorem getLink_ok (w : World) (a b c d : Nat) (ha : a < 256 ^ 5) (hb : b < 256 ^ 6) (hc : c < 256 ^ 6) (hd : d < 256 ^ 3) :
    Calls Tryz.prog 201 #[.string (bytesOf (wideB [(5, a), (6, b), (6, c), (3, d)]))] w fun e w' => e = .returned (.tuple #[.agg #[.int .i64 a, .int .i64 b, .int .i64 c, .int .i64 d], .bool true]) ∧ Touch [] w w' := by
  have HH := Lib.hid (And.intro ha (And.intro hb (And.intro hc hd)))
  obtain ⟨s, hs⟩ : ∃ s, s = bytesOf (wideB [(5, a), (6, b), (6, c), (3, d)]) := ⟨_, rfl⟩
  rw [← hs]
  have HS := Lib.hid hs
  clear ha hb hc hd hs
  go_enter Tryz.func201, Tryz.ntmps201
  go_wp2_with fail
  obtain ⟨h0, h1, h2, h3, h4, h5, hT⟩ := alloc6 w (.cells #[.int .i64 0, .int .i64 0, .int .i64 0, .int .i64 0] 150) (.cells #[.int .i64 5, .int .i64 0] 290) (.cells #[.int .i64 6, .int .i64 0] 290) (.cells #[.int .i64 6, .int .i64 0] 290) (.cells #[.int .i64 3, .int .i64 0] 290)
    (.cells #[.pointer (some ⟨w.heap.size + 1, 0, none⟩), .pointer (some ⟨w.heap.size + 1 + 1, 0, none⟩), .pointer (some ⟨w.heap.size + 1 + 1 + 1, 0, none⟩), .pointer (some ⟨w.heap.size + 1 + 1 + 1 + 1, 0, none⟩)] 292)
  obtain ⟨W, hW⟩ : ∃ W, W = (((((w.alloc (.cells #[.int .i64 0, .int .i64 0, .int .i64 0, .int .i64 0] 150)).alloc (.cells #[.int .i64 5, .int .i64 0] 290)).alloc (.cells #[.int .i64 6, .int .i64 0] 290)).alloc (.cells #[.int .i64 6, .int .i64 0] 290)).alloc (.cells #[.int .i64 3, .int .i64 0] 290)).alloc
    (.cells #[.pointer (some ⟨w.heap.size + 1, 0, none⟩), .pointer (some ⟨w.heap.size + 1 + 1, 0, none⟩), .pointer (some ⟨w.heap.size + 1 + 1 + 1, 0, none⟩), .pointer (some ⟨w.heap.size + 1 + 1 + 1 + 1, 0, none⟩)] 292) := ⟨_, rfl⟩
  rw [← hW] at h0 h1 h2 h3 h4 h5 hT ⊢
  clear hW
  obtain ⟨B, hB⟩ : ∃ B, B = w.heap.size := ⟨_, rfl⟩
  rw [← hB] at h0 h1 h2 h3 h4 h5 ⊢
  have HB := Lib.hid hB
  clear hB
  have hget := eget_ok W [(B + 1, 5, a), (B + 1 + 1, 6, b), (B + 1 + 1 + 1, 6, c), (B + 1 + 1 + 1 + 1, 3, d)] (B + 1 + 1 + 1 + 1 + 1) 4
    (fun i p hi => by
      match i, hi with
      | 0, hi => simp at hi; subst hi; exact cell_of h5 0 _ rfl
      | 1, hi => simp at hi; subst hi; exact cell_of h5 1 _ rfl
      | 2, hi => simp at hi; subst hi; exact cell_of h5 2 _ rfl
      | 3, hi => simp at hi; subst hi; exact cell_of h5 3 _ rfl
      | i + 4, hi => simp at hi)
    (fun p hp => by
      simp only [List.mem_cons, List.not_mem_nil, or_false] at hp
      rcases hp with rfl | rfl | rfl | rfl
      · exact h1
      · exact h2
      · exact h3
      · exact h4)
    (by simp) (by simp; omega) (by simp)
    (fun p hp => by
      obtain ⟨ha, hb, hc, hd⟩ := HH.out
      simp only [List.mem_cons, List.not_mem_nil, or_false] at hp
      rcases hp with rfl | rfl | rfl | rfl
      · exact ⟨by simp, by simp, ha⟩
      · exact ⟨by simp, by simp, hb⟩
      · exact ⟨by simp, by simp, hc⟩
      · exact ⟨by simp, by simp, hd⟩)
  have hsL : bytesOf (wideL [(B + 1, 5, a), (B + 1 + 1, 6, b), (B + 1 + 1 + 1, 6, c), (B + 1 + 1 + 1 + 1, 3, d)]) = s := by rw [HS.out]; rfl
  rw [hsL] at hget
  have HT := Lib.hid hT
  have H0 := Lib.hid h0
  clear h1 h2 h3 h4 h5 hT hsL h0
  refine hget.mono ?_
  rintro e w2 ⟨rfl, hcs, hT2⟩
  have k0 := hT2.heap H0.out (by simp; omega)
  have j2 : w2.heap[B + 1 + 1]? = some (widthCells 6 b) := hcs (B + 1 + 1, 6, b) (by simp)
  have k2 := cell_of j2 1 _ rfl
  have j3 : w2.heap[B + 1 + 1 + 1]? = some (widthCells 6 c) := hcs (B + 1 + 1 + 1, 6, c) (by simp)
  have k3 := cell_of j3 1 _ rfl
  have j4 : w2.heap[B + 1 + 1 + 1 + 1]? = some (widthCells 3 d) := hcs (B + 1 + 1 + 1 + 1, 3, d) (by simp)
  have k4 := cell_of j4 1 _ rfl
  have j1 : w2.heap[B + 1]? = some (widthCells 5 a) := hcs (B + 1, 5, a) (by simp)
  have k1 := cell_of j1 1 _ rfl
  have r0 := cell_of k0 0 _ rfl
  have r1 := cell_of k0 1 _ rfl
  have r2 := cell_of k0 2 _ rfl
  have r3 := cell_of k0 3 _ rfl
  have f0 := free_of k0 0
  have f1 := free_of k0 1
  have f2 := free_of k0 2
  have f3 := free_of k0 3
  have HT2 := Lib.hid hT2
  have K0 := Lib.hid k0
  clear hget hcs hT2 k0 j1 j2 j3 j4
  go_wp2_with fail
  have z1 := heap_setCell_at K0.out 0 (.int .i64 (a : Int))
  have z2 := heap_setCell_at z1 1 (.int .i64 (b : Int))
  have z3 := heap_setCell_at z2 2 (.int .i64 (c : Int))
  have z4 := heap_setCell_at z3 3 (.int .i64 (d : Int))
  have hTf : Touch [B] w2 ((((w2.setCell ⟨B, 0, none⟩ (.int .i64 (a : Int))).setCell ⟨B, 1, none⟩ (.int .i64 (b : Int))).setCell ⟨B, 2, none⟩ (.int .i64 (c : Int))).setCell ⟨B, 3, none⟩ (.int .i64 (d : Int))) :=
    ((((Touch.refl [B] w2).setCell _ _ _ _ (by simp)).setCell _ _ _ _ (by simp)).setCell _ _ _ _ (by simp)).setCell _ _ _ _ (by simp)
  generalize (((w2.setCell ⟨B, 0, none⟩ (.int .i64 (a : Int))).setCell ⟨B, 1, none⟩ (.int .i64 (b : Int))).setCell ⟨B, 2, none⟩ (.int .i64 (c : Int))).setCell ⟨B, 3, none⟩ (.int .i64 (d : Int)) = W5 at *
  have s0 := cell_of z4 0 (.int .i64 (a : Int)) rfl
  have s1 := cell_of z4 1 (.int .i64 (b : Int)) rfl
  have s2 := cell_of z4 2 (.int .i64 (c : Int)) rfl
  have s3 := cell_of z4 3 (.int .i64 (d : Int)) rfl
  refine bodyPost_ret (v := .tuple #[.agg #[.int .i64 a, .int .i64 b, .int .i64 c, .int .i64 d], .bool true]) (by simp [results, Tryz.results201, go_sem, s0, s1, s2, s3]) rfl ⟨rfl, ?_⟩
  have hT3 : Touch [] w w2 := HT.out.trans HT2.out (fun x hx => by
    have := HB.out
    simp at hx; right; omega)
  exact hT3.trans hTf (fun x hx => by
    have := HB.out
    simp at hx; right; omega)

set_option maxRecDepth 100000 in
set_option maxHeartbeats 2000000 in
theorem getMark_ok (w : World) (a b c d : Nat) (ha : a < 256 ^ 6) (hb : b < 256 ^ 6) (hc : c < 256 ^ 6) (hd : d < 256 ^ 2) :
    Calls Tryz.prog 150 #[.string (bytesOf (wideB [(6, a), (6, b), (6, c), (2, d)]))] w fun e w' => e = .returned (.tuple #[.agg #[.int .i64 a, .int .i64 b, .int .i64 c, .int .i64 d], .bool true]) ∧ Touch [] w w' := by
  have HH := Lib.hid (And.intro ha (And.intro hb (And.intro hc hd)))
  obtain ⟨s, hs⟩ : ∃ s, s = bytesOf (wideB [(6, a), (6, b), (6, c), (2, d)]) := ⟨_, rfl⟩
  rw [← hs]
  have HS := Lib.hid hs
  clear ha hb hc hd hs
  go_enter Tryz.func150, Tryz.ntmps150
  go_wp2_with fail
  obtain ⟨h0, h1, h2, h3, h4, h5, hT⟩ := alloc6 w (.cells #[.int .i64 0, .int .i64 0, .int .i64 0, .int .i64 0] 171) (.cells #[.int .i64 6, .int .i64 0] 290) (.cells #[.int .i64 6, .int .i64 0] 290) (.cells #[.int .i64 6, .int .i64 0] 290) (.cells #[.int .i64 2, .int .i64 0] 290)
    (.cells #[.pointer (some ⟨w.heap.size + 1, 0, none⟩), .pointer (some ⟨w.heap.size + 1 + 1, 0, none⟩), .pointer (some ⟨w.heap.size + 1 + 1 + 1, 0, none⟩), .pointer (some ⟨w.heap.size + 1 + 1 + 1 + 1, 0, none⟩)] 292)
  obtain ⟨W, hW⟩ : ∃ W, W = (((((w.alloc (.cells #[.int .i64 0, .int .i64 0, .int .i64 0, .int .i64 0] 171)).alloc (.cells #[.int .i64 6, .int .i64 0] 290)).alloc (.cells #[.int .i64 6, .int .i64 0] 290)).alloc (.cells #[.int .i64 6, .int .i64 0] 290)).alloc (.cells #[.int .i64 2, .int .i64 0] 290)).alloc
    (.cells #[.pointer (some ⟨w.heap.size + 1, 0, none⟩), .pointer (some ⟨w.heap.size + 1 + 1, 0, none⟩), .pointer (some ⟨w.heap.size + 1 + 1 + 1, 0, none⟩), .pointer (some ⟨w.heap.size + 1 + 1 + 1 + 1, 0, none⟩)] 292) := ⟨_, rfl⟩
  rw [← hW] at h0 h1 h2 h3 h4 h5 hT ⊢
  clear hW
  obtain ⟨B, hB⟩ : ∃ B, B = w.heap.size := ⟨_, rfl⟩
  rw [← hB] at h0 h1 h2 h3 h4 h5 ⊢
  have HB := Lib.hid hB
  clear hB
  have hget := eget_ok W [(B + 1, 6, a), (B + 1 + 1, 6, b), (B + 1 + 1 + 1, 6, c), (B + 1 + 1 + 1 + 1, 2, d)] (B + 1 + 1 + 1 + 1 + 1) 4
    (fun i p hi => by
      match i, hi with
      | 0, hi => simp at hi; subst hi; exact cell_of h5 0 _ rfl
      | 1, hi => simp at hi; subst hi; exact cell_of h5 1 _ rfl
      | 2, hi => simp at hi; subst hi; exact cell_of h5 2 _ rfl
      | 3, hi => simp at hi; subst hi; exact cell_of h5 3 _ rfl
      | i + 4, hi => simp at hi)
    (fun p hp => by
      simp only [List.mem_cons, List.not_mem_nil, or_false] at hp
      rcases hp with rfl | rfl | rfl | rfl
      · exact h1
      · exact h2
      · exact h3
      · exact h4)
    (by simp) (by simp; omega) (by simp)
    (fun p hp => by
      obtain ⟨ha, hb, hc, hd⟩ := HH.out
      simp only [List.mem_cons, List.not_mem_nil, or_false] at hp
      rcases hp with rfl | rfl | rfl | rfl
      · exact ⟨by simp, by simp, ha⟩
      · exact ⟨by simp, by simp, hb⟩
      · exact ⟨by simp, by simp, hc⟩
      · exact ⟨by simp, by simp, hd⟩)
  have hsL : bytesOf (wideL [(B + 1, 6, a), (B + 1 + 1, 6, b), (B + 1 + 1 + 1, 6, c), (B + 1 + 1 + 1 + 1, 2, d)]) = s := by rw [HS.out]; rfl
  rw [hsL] at hget
  have HT := Lib.hid hT
  have H0 := Lib.hid h0
  clear h1 h2 h3 h4 h5 hT hsL h0
  refine hget.mono ?_
  rintro e w2 ⟨rfl, hcs, hT2⟩
  have k0 := hT2.heap H0.out (by simp; omega)
  have j2 : w2.heap[B + 1 + 1]? = some (widthCells 6 b) := hcs (B + 1 + 1, 6, b) (by simp)
  have k2 := cell_of j2 1 _ rfl
  have j3 : w2.heap[B + 1 + 1 + 1]? = some (widthCells 6 c) := hcs (B + 1 + 1 + 1, 6, c) (by simp)
  have k3 := cell_of j3 1 _ rfl
  have j4 : w2.heap[B + 1 + 1 + 1 + 1]? = some (widthCells 2 d) := hcs (B + 1 + 1 + 1 + 1, 2, d) (by simp)
  have k4 := cell_of j4 1 _ rfl
  have j1 : w2.heap[B + 1]? = some (widthCells 6 a) := hcs (B + 1, 6, a) (by simp)
  have k1 := cell_of j1 1 _ rfl
  have r0 := cell_of k0 0 _ rfl
  have r1 := cell_of k0 1 _ rfl
  have r2 := cell_of k0 2 _ rfl
  have r3 := cell_of k0 3 _ rfl
  have f0 := free_of k0 0
  have f1 := free_of k0 1
  have f2 := free_of k0 2
  have f3 := free_of k0 3
  have HT2 := Lib.hid hT2
  have K0 := Lib.hid k0
  clear hget hcs hT2 k0 j1 j2 j3 j4
  go_wp2_with fail
  have z1 := heap_setCell_at K0.out 0 (.int .i64 (a : Int))
  have z2 := heap_setCell_at z1 1 (.int .i64 (b : Int))
  have z3 := heap_setCell_at z2 2 (.int .i64 (c : Int))
  have z4 := heap_setCell_at z3 3 (.int .i64 (d : Int))
  have hTf : Touch [B] w2 ((((w2.setCell ⟨B, 0, none⟩ (.int .i64 (a : Int))).setCell ⟨B, 1, none⟩ (.int .i64 (b : Int))).setCell ⟨B, 2, none⟩ (.int .i64 (c : Int))).setCell ⟨B, 3, none⟩ (.int .i64 (d : Int))) :=
    ((((Touch.refl [B] w2).setCell _ _ _ _ (by simp)).setCell _ _ _ _ (by simp)).setCell _ _ _ _ (by simp)).setCell _ _ _ _ (by simp)
  generalize (((w2.setCell ⟨B, 0, none⟩ (.int .i64 (a : Int))).setCell ⟨B, 1, none⟩ (.int .i64 (b : Int))).setCell ⟨B, 2, none⟩ (.int .i64 (c : Int))).setCell ⟨B, 3, none⟩ (.int .i64 (d : Int)) = W5 at *
  have s0 := cell_of z4 0 (.int .i64 (a : Int)) rfl
  have s1 := cell_of z4 1 (.int .i64 (b : Int)) rfl
  have s2 := cell_of z4 2 (.int .i64 (c : Int)) rfl
  have s3 := cell_of z4 3 (.int .i64 (d : Int)) rfl
  refine bodyPost_ret (v := .tuple #[.agg #[.int .i64 a, .int .i64 b, .int .i64 c, .int .i64 d], .bool true]) (by simp [results, Tryz.results150, go_sem, s0, s1, s2, s3]) rfl ⟨rfl, ?_⟩
  have hT3 : Touch [] w w2 := HT.out.trans HT2.out (fun x hx => by
    have := HB.out
    simp at hx; right; omega)
  exact hT3.trans hTf (fun x hx => by
    have := HB.out
    simp at hx; right; omega)
end Go.Proofs.YtljgifbnmgpdbaaGreatDoor

namespace Go.Proofs.YtljgifbnmgpdbaaGreatDoor
open Go Go.RowKit

def TapeMade (w : World) (F : List Nat) (cap : Nat) (e : Ending) (w' : World) : Prop :=
  ∃ t F', e = .returned (.tuple #[.pointer (some ⟨t, 0, none⟩), .int .i64 0]) ∧ TapeV w' t F' ⟨[], 0, 0⟩ cap ∧ Touch F w w' ∧ Grew w.heap.size F F'

set_option maxRecDepth 100000 in
set_option maxHeartbeats 2000000 in
theorem scan_none (w : World) (t r d : Nat) (pv : Value) (R : RowM) (h : RowIn w r d pv R) (hb : R.begin = 0) (he : R.fin = 0) (hc : w.cell? ⟨t, 0, none⟩ = some (.pointer (some ⟨r, 0, none⟩))) :
    Calls Tryz.prog 119 #[.pointer (some ⟨t, 0, none⟩)] w fun e w' => e = .returned (.int .i64 0) ∧ w = w' := by
  have h1 := begin_ok w r d pv R h
  have h2 := end_ok w r d pv R h
  rw [hb] at h1
  rw [he] at h2
  clear h hb he
  go_enter Tryz.func119, Tryz.ntmps119
  go_wp2_with fail
  refine h1.mono ?_
  rintro e w' ⟨rfl, rfl⟩
  go_wp2_with fail
  go_loopg [3] 1 (fun k va wr => va = .int .i64 0 ∧ w = wr)
  case atStart => exact ⟨rfl, rfl⟩
  case round =>
    obtain ⟨rfl, rfl⟩ := hrel
    go_wp2_with fail
    refine h2.mono ?_
    rintro e w' ⟨rfl, rfl⟩
    go_wp2_with fail
    go_ret
    exact ⟨rfl, rfl⟩

set_option maxRecDepth 100000 in
set_option maxHeartbeats 2000000 in
theorem topen_ok (w : World) (d : Nat) (F : List Nat) (cap : Nat) (hD : DiskV w d F (fun _ => none) cap 0 0) (hg : Glob w) :
    Calls Tryz.prog 66 #[.pointer (some ⟨d, 0, none⟩)] w (TapeMade w F cap) := by
  have hmm := @run_makeMap Tryz.prog
  have hdl := hD.lt
  have hdlow := hD.low
  have hopen := open_none (w := w) tapeHead 1024 hD (by omega) (fun s x h => by cases h) (by omega) (by omega) hg.1
  have hth : (⟨#[116, 97, 112, 101, 45]⟩ : ByteArray) = tapeHead := rfl
  have HD := Lib.hid (And.intro hD (And.intro hdl (And.intro hdlow hg)))
  have HO := Lib.hid hopen
  clear hopen hD hdl hdlow hg
  go_enter Tryz.func66, Tryz.ntmps66
  rw [hth]
  clear hth
  go_wp2_with fail
  refine HO.out.mono ?_
  rintro e w1 ⟨r, rfl, hrl, hrow, hT1⟩
  have H1 := Lib.hid (And.intro hrl (And.intro hrow hT1))
  clear hrl hrow hT1
  go_wp2_with fail
  refine (crcnew_ok w1).mono ?_
  rintro e w2 ⟨c, T, rfl, hcl, htab, hT2⟩
  have H2 := Lib.hid (And.intro hcl (And.intro htab hT2))
  clear hcl htab hT2
  go_wp2_with fail
  obtain ⟨w3, hw3⟩ : ∃ w3, w3 = (w2.alloc (.map #[] 0)).alloc (.cells #[.pointer (some ⟨r, 0, none⟩), .pointer (some ⟨c, 0, none⟩), .slice none 0 0, .map (some w2.heap.size), .int .i64 0] 136) := ⟨_, rfl⟩
  have hmap : MapAt w3 w2.heap.size [] := by rw [hw3]; exact (MapAt.made w2).same (Below.heap_alloc _ _ _ (by simp))
  have hcells : w3.heap[w2.heap.size + 1]? = some (.cells #[.pointer (some ⟨r, 0, none⟩), .pointer (some ⟨c, 0, none⟩), .slice none 0 0, .map (some w2.heap.size), .int .i64 0] 136 (0, 0)) := by
    rw [hw3]; exact heap_at _ _ _ (by simp)
  have hT3 : Touch [] w2 w3 := by rw [hw3]; exact ((Touch.refl _ _).alloc _).alloc _
  rw [← hw3]
  clear hw3
  obtain ⟨mb, hmb⟩ : ∃ mb, mb = w2.heap.size := ⟨_, rfl⟩
  rw [← hmb] at hmap hcells ⊢
  have hrow3 := (H1.out.2.1.touch H2.out.2.2 (by simp)).touch hT3 (by simp)
  have htab3 := H2.out.2.1.touch hT3 (by simp)
  have H3 := Lib.hid (And.intro hmap (And.intro hcells (And.intro hrow3 (And.intro htab3 (And.intro hT3 hmb)))))
  have c0 := cell_of hcells 0 _ rfl
  clear hmap hcells htab3 hT3 hmb
  refine (scan_none w3 (mb + 1) r d _ _ hrow3 rfl rfl c0).mono ?_
  rintro e w' ⟨rfl, rfl⟩
  have hend := end_ok w3 r d _ _ hrow3
  have HE := Lib.hid hend
  clear hend hrow3 c0
  go_wp2_with fail
  refine HE.out.mono ?_
  rintro e w' ⟨rfl, rfl⟩
  have hef : (emptyRow tapeHead 1024).fin = 0 := rfl
  rw [hef]
  clear hef
  go_wp2_with fail
  have hT13 : Touch [] w w3 := H1.out.2.2.trans' (H2.out.2.2.trans' H3.out.2.2.2.2.1)
  have hD3 := HD.out.1.quiet hT13
  have hdis : ∀ b ∈ rowFoot r (.slice none 0 0), b ∉ F := fun b hb hm => by
    have h1 := HD.out.2.1 b hm
    have h2 := H1.out.1
    simp [rowFoot, Value.ownBlock] at hb
    omega
  have hsy := rsync_ok H3.out.2.2.1 hD3 hdis (HD.out.2.2.2.touch hT13 (by simp)) (free_segs (fun s x h => by cases h) (by decide) 1024) (by omega)
  have HT13 := Lib.hid (And.intro hT13 hdis)
  clear hT13 hD3 hdis
  refine hsy.mono ?_
  rintro e w4 ⟨rfl, F', hrow4, hdisk4, hT4, hG4, hdis4⟩
  have hlt := HD.out.2.1
  have h1 := H1.out.1
  have h2 := H2.out.1
  have h3 := H3.out.2.2.2.2.2
  have hs1 := H1.out.2.2.size
  have hs2 := H2.out.2.2.size
  have hrl := lt_of_heap H1.out.2.1.cells
  have hcl := H2.out.2.1.lt
  have hnot : ∀ b, w.heap.size ≤ b → b ≠ r → b ∉ rowFoot r (.slice none 0 0) ++ F := fun b hb hr hm => by
    simp [rowFoot, Value.ownBlock] at hm
    rcases hm with hm | hm
    · exact hr hm
    · have := hlt b hm; omega
  have hg8 : 8 ≤ w.heap.size := HD.out.2.2.2.1
  have hown : (ownT (mb + 1) ⟨r, d, c, mb, .slice none 0 0, .slice none 0 0, 0, { emptyRow tapeHead 1024 with synced := (emptyRow tapeHead 1024).fin }, F', fun _ => none, ⟨#[]⟩, T, cap, 0⟩).Nodup := by
    simp [ownT, rowFoot, Value.ownBlock]
    omega
  have hmem : ∀ b ∈ ownT (mb + 1) ⟨r, d, c, mb, .slice none 0 0, .slice none 0 0, 0, { emptyRow tapeHead 1024 with synced := (emptyRow tapeHead 1024).fin }, F', fun _ => none, ⟨#[]⟩, T, cap, 0⟩, w.heap.size ≤ b ∧ b < w3.heap.size := by
    have hl3 := lt_of_heap H3.out.2.1
    have hs3 := H3.out.2.2.2.2.1.size
    intro b hb
    simp [ownT, rowFoot, Value.ownBlock] at hb
    omega
  have hfin : TapeMade w F cap (.returned (.tuple #[.pointer (some ⟨mb + 1, 0, none⟩), .int .i64 0])) w4 := by
    refine ⟨mb + 1, _, rfl, ⟨⟨r, d, c, mb, .slice none 0 0, .slice none 0 0, 0, { emptyRow tapeHead 1024 with synced := (emptyRow tapeHead 1024).fin }, F', fun _ => none, ⟨#[]⟩, T, cap, 0⟩, ?_, rfl, rfl, Nat.zero_le _, by decide⟩, ?_, ?_⟩
    · have hTn : ∀ b, w.heap.size ≤ b → b ≠ r → b ∉ rowFoot r (.slice none 0 0) ++ F := hnot
      refine ⟨hT4.heap H3.out.2.1 (hTn _ (by omega) (by omega)), hrow4, hdisk4, ⟨rfl, (by show tapeHead.size ≤ 900; decide), (fun i hi => by simp [emptyRow] at hi), fun _ _ _ => rfl⟩, H3.out.2.2.2.1.touch hT4 (hTn c (by omega) (by omega)), World.ownsRow_nil _ _ _ _, MapAt.touch H3.out.1 hT4 (hTn mb (by omega) (by omega)), hown, ?_, ?_, rfl, rfl, rfl, rfl, rfl, ⟨(fun p hp => by cases hp), List.Pairwise.nil⟩⟩
      · intro b hb hm
        have h4 := hmem b hb
        rcases hG4 b hm with h5 | h5
        · have := hlt b h5; omega
        · omega
      · intro b hb
        have := hmem b hb; omega
    · have := HT13.out.1.nil.trans hT4 (G := rowFoot r (.slice none 0 0) ++ F) (F := F) (fun x hx => by
        rcases List.mem_append.1 hx with hx | hx
        · right; simp [rowFoot, Value.ownBlock] at hx; omega
        · exact .inl hx)
      exact this
    · intro b hb
      rcases List.mem_append.1 hb with hb | hb
      · exact .inr (hmem b hb).1
      · rcases hG4 b hb with h5 | h5
        · exact .inl h5
        · right; have := HT13.out.1.size; omega
  have HF := Lib.hid hfin
  clear hrow4 hdisk4 hT4 hG4 hdis4 hlt h1 h2 h3 hs1 hs2 hrl hcl hnot hg8 hown hmem hfin hsy
  go_wp2_with fail
  go_ret2
  exact HF.out
end Go.Proofs.YtljgifbnmgpdbaaGreatDoor

namespace Go.Proofs.YtljgifbnmgpdbaaGreatDoor
open Go Go.RowKit

structure MarkE where
  due : Nat
  at_ : Nat
  ahead : Nat
  puts : Nat

structure LogM where
  hand : Int
  heads : List Nat
  marks : List MarkE

def slotsName : ByteArray := ⟨#[119, 45, 115, 108, 111, 116, 115]⟩
def marksName : ByteArray := ⟨#[119, 45, 109, 97, 114, 107, 115]⟩
def slotsB (hs : List Nat) : ByteArray := bytesOf (hs.flatMap (be 6))
def markB (m : MarkE) : List UInt8 := wideB [(6, m.due), (6, m.at_), (6, m.ahead), (2, m.puts)]
def marksB (l : List MarkE) : ByteArray := bytesOf (l.flatMap markB)
def MarkE.Fine (m : MarkE) : Prop := m.due < 281474976710656 ∧ m.at_ < 281474976710656 ∧ m.ahead < 281474976710656 ∧ m.puts < 65536

structure LogX where
  wb : Nat
  d : Nat
  Fd : List Nat
  V : ByteArray → Option ByteArray
  q : Nat

structure LogAt (w : World) (l : Nat) (X : LogX) (L : LogM) (cap : Nat) : Prop where
  cells : w.heap[l]? = some (.cells #[.pointer (some ⟨X.wb, 0, none⟩), .int .i64 (L.marks.length : Nat)] 168 (0, 0))
  wheel : w.heap[X.wb]? = some (.cells #[.pointer (some ⟨X.d, 0, none⟩), .int .i64 L.hand] 234 (0, 0))
  disk : DiskV w X.d X.Fd X.V cap (96 + 20 * L.marks.length) X.q
  slots : X.V slotsName = some (slotsB L.heads)
  marks : X.V marksName = some (marksB L.marks)
  apart : l ≠ X.wb ∧ l ∉ X.Fd ∧ X.wb ∉ X.Fd
  low : 8 ≤ l ∧ 8 ≤ X.wb
  sixteen : L.heads.length = 16
  heads : ∀ h ∈ L.heads, h ≤ L.marks.length
  fine : ∀ m ∈ L.marks, m.Fine
  ahead : ∀ (i : Nat) (m : MarkE), L.marks[i]? = some m → m.ahead ≤ i

/-- A timer log, for the layers above. -/
def LogV (w : World) (l : Nat) (F : List Nat) (L : LogM) (cap q : Nat) : Prop := ∃ X, LogAt w l X L cap ∧ F = l :: X.wb :: X.Fd ∧ X.q ≤ q

section
variable {w w' : World} {l : Nat} {F G : List Nat} {L : LogM} {cap q : Nat}
theorem LogAt.touch {X : LogX} (h : LogAt w l X L cap) (hT : Touch G w w') (hG : ∀ b ∈ l :: X.wb :: X.Fd, b ∉ G) : LogAt w' l X L cap :=
  ⟨hT.heap h.cells (hG _ (by simp)), hT.heap h.wheel (hG _ (by simp)), h.disk.touch hT (fun b hb => hG b (by simp [hb])), h.slots, h.marks, h.apart, h.low, h.sixteen, h.heads, h.fine, h.ahead⟩
theorem LogV.lt (h : LogV w l F L cap q) : ∀ b ∈ F, b < w.heap.size := by
  obtain ⟨X, h, rfl, -⟩ := h
  intro b hb
  simp only [List.mem_cons] at hb
  rcases hb with rfl | rfl | hb
  · exact lt_of_heap h.cells
  · exact lt_of_heap h.wheel
  · exact h.disk.lt b hb
theorem LogV.low (h : LogV w l F L cap q) : ∀ b ∈ F, 8 ≤ b := by
  obtain ⟨X, h, rfl, -⟩ := h
  intro b hb
  simp only [List.mem_cons] at hb
  rcases hb with rfl | rfl | hb
  · exact h.low.1
  · exact h.low.2
  · exact h.disk.low b hb
theorem LogV.self (h : LogV w l F L cap q) : l ∈ F := by obtain ⟨X, h, rfl, -⟩ := h; simp
theorem LogV.touch (h : LogV w l F L cap q) (hT : Touch G w w') (hG : ∀ b ∈ F, b ∉ G) : LogV w' l F L cap q := by
  obtain ⟨X, h, rfl, hq⟩ := h; exact ⟨X, h.touch hT hG, rfl, hq⟩
theorem LogV.quiet (h : LogV w l F L cap q) (hT : Touch [] w w') : LogV w' l F L cap q := h.touch hT (by simp)
end

theorem slots_none : slotsB (List.replicate 16 0) = ⟨(List.replicate 96 0).toArray⟩ := by
  unfold slotsB bytesOf
  congr 2

def WheelMade (w : World) (d : Nat) (F : List Nat) (cap : Nat) (hand : Int) (e : Ending) (w' : World) : Prop :=
  ∃ wb Fd V, e = .returned (.tuple #[.pointer (some ⟨wb, 0, none⟩), .int .i64 0]) ∧ DiskV w' d Fd V cap 96 2 ∧ V slotsName = some (slotsB (List.replicate 16 0)) ∧ V marksName = none ∧
    w'.heap[wb]? = some (.cells #[.pointer (some ⟨d, 0, none⟩), .int .i64 hand] 234 (0, 0)) ∧ wb ∉ Fd ∧ w.heap.size ≤ wb ∧ Touch F w w' ∧ Grew w.heap.size F Fd

set_option maxRecDepth 100000 in
set_option maxHeartbeats 2000000 in
theorem wheelnew_ok (w : World) (d : Nat) (F : List Nat) (cap : Nat) (hD : DiskV w d F (fun _ => none) cap 0 0) (hcap : 96 ≤ cap) (hand : Int) (h0 : 0 ≤ hand) (h1 : hand ≤ 1099511627776) :
    Calls Tryz.prog 148 #[.pointer (some ⟨d, 0, none⟩), .int .i64 hand] w (WheelMade w d F cap hand) := by
  have hd0 : decide (hand < 0) = false := by simp; omega
  have hd1 : decide (1099511627776 < hand) = false := by simp; omega
  have HH := Lib.hid (And.intro hD hcap)
  clear hD hcap h0 h1
  go_enter Tryz.func148, Tryz.ntmps148
  go_wp2_with fail
  refine (listV_none HH.out.1 (by omega) ⟨#[119, 45]⟩ (fun s x h => by cases h)).mono ?_
  rintro e w1 ⟨a, cp, rfl, hT1⟩
  have H1 := Lib.hid hT1
  clear hT1
  go_wp2_with fail
  refine (createV_ok (HH.out.1.quiet H1.out) slotsName rfl (by decide)).mono ?_
  rintro e w2 ⟨rfl, F2, hD2, hT2, hG2⟩
  obtain ⟨w3, hmk, hrow, hT3⟩ := make_bytes w2 96 (by omega)
  have hmk : (Instr.makeSlice 94 (.int .i64 96) (.int .i64 96)).run Tryz.prog w2 = .ok (.slice (some ⟨w2.heap.size, 0, none⟩) 96 96) w3 := hmk
  have hcv := back_of_row (l := List.replicate 96 0) (cap := 96) (by simpa using hrow)
  rw [List.length_replicate] at hcv
  obtain ⟨tx, htx⟩ : ∃ tx : ByteArray, tx = ⟨(List.replicate 96 (0 : UInt8)).toArray⟩ := ⟨_, rfl⟩
  rw [← htx] at hcv
  have htn : tx.size = 96 := by rw [htx]; rfl
  have H2 := Lib.hid (And.intro hD2 (And.intro hT2 (And.intro hG2 (And.intro hT3 (And.intro htx htn)))))
  obtain ⟨g, hg⟩ : ∃ g, g = w2.heap.size := ⟨_, rfl⟩
  rw [← hg] at hmk hcv
  clear hD2 hT2 hG2 hT3 htx htn hrow hg
  go_wp2_with fail
  refine (writeV_ok (H2.out.1.quiet H2.out.2.2.2.1) slotsName tx noBytes 0 (setV_at _ _ _) (by omega) (by have := H2.out.2.2.2.2.2; omega) (by have h1 := H2.out.2.2.2.2.2; have h2 := HH.out.2; simp only [noBytes]; show 0 + (max 0 (0 + tx.size) - 0) ≤ cap; omega) (by omega)).mono ?_
  rintro e w4 ⟨rfl, F4, hD4, hT4, hG4⟩
  have H4 := Lib.hid (And.intro hD4 (And.intro hT4 hG4))
  clear hD4 hT4 hG4 hcv hmk
  go_wp2_with fail
  go_ret2
  have htot : 0 + (max noBytes.size (0 + tx.size) - noBytes.size) = 96 := by
    have h1 := H2.out.2.2.2.2.2
    show 0 + (max 0 (0 + tx.size) - 0) = 96; omega
  have hD4 := H4.out.1
  rw [htot] at hD4
  have hs1 := H1.out.size
  have hs2 := H2.out.2.1.size
  have hs3 := H2.out.2.2.2.1.size
  have hs4 := H4.out.2.1.size
  have hT14 : Touch F w w4 := ((H1.out.nil.trans' H2.out.2.1).trans' H2.out.2.2.2.1.nil).trans H4.out.2.1 (fun x hx => by
    rcases H2.out.2.2.1 x hx with h | h
    · exact .inl h
    · right; omega)
  refine ⟨w4.heap.size, F4, _, rfl, hD4.quiet ((Touch.refl _ _).alloc _), ?_, ?_, heap_at _ _ _ (by simp), ?_, ?_, ?_, ?_⟩
  · rw [setV_at]
    congr 1
    rw [slots_none, H2.out.2.2.2.2.1]
    rfl
  · rfl
  · intro hm
    have := hD4.lt _ hm; omega
  · omega
  · exact hT14.trans' ((Touch.refl _ _).alloc _).nil
  · intro b hb
    rcases (H2.out.2.2.1.trans (H4.out.2.2) (by omega)) b hb with h | h
    · exact .inl h
    · right; omega

def LogMade (w : World) (F : List Nat) (cap : Nat) (hand : Int) (e : Ending) (w' : World) : Prop :=
  ∃ l F', e = .returned (.tuple #[.pointer (some ⟨l, 0, none⟩), .int .i64 0]) ∧ LogV w' l F' ⟨hand, List.replicate 16 0, []⟩ cap 3 ∧ Touch F w w' ∧ Grew w.heap.size F F'

set_option maxRecDepth 100000 in
set_option maxHeartbeats 2000000 in
theorem lognew_ok (w : World) (d : Nat) (F : List Nat) (cap : Nat) (hD : DiskV w d F (fun _ => none) cap 0 0) (hcap : 96 ≤ cap) (h8 : 8 ≤ w.heap.size) (hand : Int) (h0 : 0 ≤ hand) (h1 : hand ≤ 1099511627776) :
    Calls Tryz.prog 86 #[.pointer (some ⟨d, 0, none⟩), .int .i64 hand] w (LogMade w F cap hand) := by
  have HN := Lib.hid (wheelnew_ok w d F cap hD hcap hand h0 h1)
  have H0 := Lib.hid (And.intro hD.lt h8)
  clear hD hcap h0 h1 h8
  go_enter Tryz.func86, Tryz.ntmps86
  go_wp2_with fail
  refine HN.out.mono ?_
  rintro e w1 ⟨wb, Fd, V, rfl, hD1, hs, hm, hwb, hnm, hle, hT1, hG1⟩
  have H1 := Lib.hid (And.intro hD1 (And.intro hs (And.intro hm (And.intro hwb (And.intro hnm (And.intro hle (And.intro hT1 hG1)))))))
  clear hD1 hs hm hwb hnm hle hT1 hG1
  go_wp2_with fail
  refine (createV_ok H1.out.1 marksName H1.out.2.2.1 (by decide)).mono ?_
  rintro e w2 ⟨rfl, F2, hD2, hT2, hG2⟩
  have H2 := Lib.hid (And.intro hD2 (And.intro hT2 hG2))
  clear hD2 hT2 hG2
  go_wp2_with fail
  go_ret2
  obtain ⟨hD1, hs, hm, hwb, hnm, hle, hT1, hG1⟩ := H1.out
  obtain ⟨hD2, hT2, hG2⟩ := H2.out
  have hs1 := hT1.size
  have hs2 := hT2.size
  have hl1 := lt_of_heap hwb
  have h8 := H0.out.2
  have hwb2 : wb ∉ F2 := fun hm => by
    rcases hG2 wb hm with h | h
    · exact hnm h
    · omega
  have hTa : Touch [] w2 (w2.alloc (.cells #[.pointer (some ⟨wb, 0, none⟩), .int .i64 0] 168)) := (Touch.refl _ _).alloc _
  refine ⟨w2.heap.size, w2.heap.size :: wb :: F2, rfl, ⟨⟨wb, d, F2, setV V marksName noBytes, 3⟩, ⟨heap_at _ _ _ (by simp), hTa.heap (hT2.heap hwb hnm) (by simp), hD2.quiet hTa, ?_, ?_, ⟨by show w2.heap.size ≠ wb; omega, ?_, hwb2⟩, ⟨by omega, by show 8 ≤ wb; omega⟩, rfl, ?_, (fun m h => by cases h), (fun i m h => by simp at h)⟩, rfl, Nat.le_refl _⟩, ?_, ?_⟩
  · show setV V marksName noBytes slotsName = _
    rw [setV_ne _ _ (by decide)]; exact hs
  · show setV V marksName noBytes marksName = some (marksB [])
    rw [setV_at]; rfl
  · show w2.heap.size ∉ F2
    intro hm
    have := hD2.lt _ hm; omega
  · intro h hm
    have := List.eq_of_mem_replicate hm
    subst this; exact Nat.zero_le _
  · have : Touch F w w2 := hT1.trans hT2 (fun x hx => by
      rcases hG1 x hx with h | h
      · exact .inl h
      · exact .inr h)
    exact this.trans' hTa.nil
  · intro b hb
    simp only [List.mem_cons] at hb
    rcases hb with rfl | rfl | hb
    · right; omega
    · right; omega
    · rcases (hG1.trans hG2 hs1) b hb with h | h
      · exact .inl h
      · exact .inr h

set_option maxRecDepth 100000 in
set_option maxHeartbeats 1000000 in
theorem whand_ok (w : World) (wb d : Nat) (hand : Int) (h : w.heap[wb]? = some (.cells #[.pointer (some ⟨d, 0, none⟩), .int .i64 hand] 234 (0, 0))) :
    Calls Tryz.prog 97 #[.pointer (some ⟨wb, 0, none⟩)] w fun e w' => e = .returned (.int .i64 hand) ∧ w = w' := by
  have c1 := cell_of h 1 _ rfl
  clear h
  go_enter Tryz.func97, Tryz.ntmps97
  go_wp2_with fail
  go_ret
  exact ⟨rfl, rfl⟩

set_option maxRecDepth 100000 in
set_option maxHeartbeats 1000000 in
theorem lhand_ok (w : World) (l : Nat) (F : List Nat) (L : LogM) (cap q : Nat) (h : LogV w l F L cap q) :
    Calls Tryz.prog 50 #[.pointer (some ⟨l, 0, none⟩)] w fun e w' => e = .returned (.int .i64 L.hand) ∧ w = w' := by
  obtain ⟨X, h, -, -⟩ := h
  have c0 := cell_of h.cells 0 _ rfl
  have hw := whand_ok w _ _ _ h.wheel
  clear h
  go_enter Tryz.func50, Tryz.ntmps50
  go_wp2_with fail
  refine hw.mono ?_
  rintro e w' ⟨rfl, rfl⟩
  go_wp2_with fail
  go_ret
  exact ⟨rfl, rfl⟩
end Go.Proofs.YtljgifbnmgpdbaaGreatDoor

namespace Go.Proofs.YtljgifbnmgpdbaaGreatDoor
open Go Go.RowKit

/-- Blocks of many owners, no two of which share one. -/
def Apart (ls : List (List Nat)) : Prop := ∀ (i j : Nat) (a b : List Nat), i ≠ j → ls[i]? = some a → ls[j]? = some b → ∀ x ∈ a, x ∉ b

theorem Apart.set {ls : List (List Nat)} (h : Apart ls) {k n : Nat} {F F' : List Nat} (hk : ls[k]? = some F) (hg : ∀ x ∈ F', x ∈ F ∨ n ≤ x) (hlt : ∀ a ∈ ls, ∀ x ∈ a, x < n) : Apart (ls.set k F') := by
  intro i j a b hij hi hj x hx hxb
  rw [List.getElem?_set] at hi hj
  by_cases h1 : k = i
  · subst h1
    rw [if_neg (fun e => hij e)] at hj
    rw [if_pos rfl] at hi
    split at hi
    · injection hi with hi
      subst hi
      rcases hg x hx with h2 | h2
      · exact h k j F b hij hk hj x h2 hxb
      · have := hlt b (List.mem_of_getElem? hj) x hxb; omega
    · cases hi
  · rw [if_neg h1] at hi
    by_cases h2 : k = j
    · subst h2
      rw [if_pos rfl] at hj
      split at hj
      · injection hj with hj
        subst hj
        rcases hg x hxb with h3 | h3
        · exact h i k a F hij hi hk x hx h3
        · have := hlt a (List.mem_of_getElem? hi) x hx; omega
      · cases hj
    · rw [if_neg h2] at hj
      exact h i j a b hij hi hj x hx hxb

structure DeqX where
  t : Nat
  s : Nat
  l : Nat
  Ft : List Nat
  Fs : List Nat
  Fl : List Nat
  sv : Value
  cap : Nat
  capL : Nat
  ql : Nat

def deqParts (q : Nat) (X : DeqX) : List (List Nat) := [[q], X.sv.ownBlock.toList, X.Ft, X.Fs, X.Fl]

structure DeqAt (w : World) (q : Nat) (X : DeqX) (M : TapeM) (P : PendM) (L : LogM) (due : List Int) : Prop where
  cells : w.heap[q]? = some (.cells #[.pointer (some ⟨X.t, 0, none⟩), .pointer (some ⟨X.s, 0, none⟩), .pointer (some ⟨X.l, 0, none⟩), X.sv] 162 (0, 0))
  tape : TapeV w X.t X.Ft M X.cap
  pend : PendV w X.s X.Fs P
  log : LogV w X.l X.Fl L X.capL X.ql
  row : IntRow w X.sv due
  apart : Apart (deqParts q X)
  low : ∀ a ∈ deqParts q X, ∀ b ∈ a, 8 ≤ b

section
variable {w w' : World} {q : Nat} {X : DeqX} {M : TapeM} {P : PendM} {L : LogM} {due : List Int} {G : List Nat}
theorem DeqAt.lt (h : DeqAt w q X M P L due) : ∀ a ∈ deqParts q X, ∀ b ∈ a, b < w.heap.size := by
  intro a ha b hb
  simp only [deqParts, List.mem_cons, List.not_mem_nil, or_false] at ha
  rcases ha with rfl | rfl | rfl | rfl | rfl
  · simp at hb; subst hb; exact lt_of_heap h.cells
  · exact h.row.lt b (by simpa using hb)
  · exact h.tape.lt b hb
  · exact h.pend.lt b hb
  · exact h.log.lt b hb
theorem DeqAt.touch (h : DeqAt w q X M P L due) (hT : Touch G w w') (hG : ∀ a ∈ deqParts q X, ∀ b ∈ a, b ∉ G) : DeqAt w' q X M P L due where
  cells := hT.heap h.cells (hG [q] (by simp [deqParts]) q (by simp))
  tape := h.tape.touch hT (hG X.Ft (by simp [deqParts]))
  pend := h.pend.touch hT (hG X.Fs (by simp [deqParts]))
  log := h.log.touch hT (hG X.Fl (by simp [deqParts]))
  row := h.row.touch hT (fun b hb => hG X.sv.ownBlock.toList (by simp [deqParts]) b (by simpa using hb))
  apart := h.apart
  low := h.low
theorem DeqAt.quiet (h : DeqAt w q X M P L due) (hT : Touch [] w w') : DeqAt w' q X M P L due := h.touch hT (by simp)
theorem DeqAt.sep (h : DeqAt w q X M P L due) (i j : Nat) {a b : List Nat} (hij : i ≠ j) (hi : (deqParts q X)[i]? = some a) (hj : (deqParts q X)[j]? = some b) : ∀ x ∈ a, x ∉ b := h.apart i j a b hij hi hj
end

set_option maxRecDepth 100000 in
set_option maxHeartbeats 1000000 in
theorem deqnew_ok (w : World) (t s l : Nat) :
    Calls Tryz.prog 44 #[.pointer (some ⟨t, 0, none⟩), .pointer (some ⟨s, 0, none⟩), .pointer (some ⟨l, 0, none⟩)] w fun e w' => e = .returned (.tuple #[.pointer (some ⟨w.heap.size, 0, none⟩), .int .i64 0]) ∧
      w' = w.alloc (.cells #[.pointer (some ⟨t, 0, none⟩), .pointer (some ⟨s, 0, none⟩), .pointer (some ⟨l, 0, none⟩), .slice none 0 0] 162) := by
  go_enter Tryz.func44, Tryz.ntmps44
  go_wp2_with fail
  go_ret2
  exact ⟨rfl, rfl⟩


set_option maxRecDepth 100000 in
set_option maxHeartbeats 1000000 in
theorem deqnew_t (w : World) (t s l : Option Addr) : Calls Tryz.prog 44 #[.pointer none, .pointer s, .pointer l] w fun e w' => e = .returned (.tuple #[.pointer none, .int .i64 1]) ∧ w = w' := by
  cases t <;> cases s <;> cases l
  all_goals
    go_enter Tryz.func44, Tryz.ntmps44
    go_wp2_with fail
    go_ret2
    exact ⟨rfl, rfl⟩

set_option maxRecDepth 100000 in
set_option maxHeartbeats 1000000 in
theorem deqnew_s (w : World) (t s l : Option Addr) : Calls Tryz.prog 44 #[.pointer t, .pointer none, .pointer l] w fun e w' => e = .returned (.tuple #[.pointer none, .int .i64 1]) ∧ w = w' := by
  cases t <;> cases s <;> cases l
  all_goals
    go_enter Tryz.func44, Tryz.ntmps44
    go_wp2_with fail
    go_ret2
    exact ⟨rfl, rfl⟩

set_option maxRecDepth 100000 in
set_option maxHeartbeats 1000000 in
theorem deqnew_l (w : World) (t s l : Option Addr) : Calls Tryz.prog 44 #[.pointer t, .pointer s, .pointer none] w fun e w' => e = .returned (.tuple #[.pointer none, .int .i64 1]) ∧ w = w' := by
  cases t <;> cases s <;> cases l
  all_goals
    go_enter Tryz.func44, Tryz.ntmps44
    go_wp2_with fail
    go_ret2
    exact ⟨rfl, rfl⟩

def DeqTo (w : World) (q : Nat) (X : DeqX) (M : TapeM) (P : PendM) (L : LogM) (due : List Int) (w' : World) : Prop :=
  ∃ X', DeqAt w' q X' M P L due ∧ X'.t = X.t ∧ X'.s = X.s ∧ X'.l = X.l ∧ X'.cap = X.cap ∧ X'.capL = X.capL ∧ Touch (deqParts q X).flatten w w' ∧ ∀ a ∈ deqParts q X', ∀ b ∈ a, b ∈ (deqParts q X).flatten ∨ w.heap.size ≤ b

theorem mem_flat {ls : List (List Nat)} {a : List Nat} {b : Nat} (ha : a ∈ ls) (hb : b ∈ a) : b ∈ ls.flatten := List.mem_flatten.2 ⟨a, ha, hb⟩

theorem deq_row {w w1 : World} {q : Nat} {X : DeqX} {M : TapeM} {P : PendM} {L : LogM} {due due' : List Int} (h : DeqAt w q X M P L due) {v' : Value} (hm : IntMade w X.sv due' v' w1) :
    DeqTo w q X M P L due' (w1.setCell ⟨q, 3, none⟩ v') := by
  obtain ⟨hrow, hT1, hfr⟩ := hm
  have hq : q ∉ X.sv.ownBlock.toList := h.sep 0 1 (by decide) rfl rfl q (by simp)
  have hc1 := hT1.heap h.cells hq
  have hT2 : Touch [q] w1 (w1.setCell ⟨q, 3, none⟩ v') := (Touch.refl _ w1).setCell _ _ _ _ (by simp)
  have hc2 : (w1.setCell ⟨q, 3, none⟩ v').heap[q]? = some (.cells #[.pointer (some ⟨X.t, 0, none⟩), .pointer (some ⟨X.s, 0, none⟩), .pointer (some ⟨X.l, 0, none⟩), v'] 162 (0, 0)) := by rw [heap_setCell_at hc1]; rfl
  have hlt := h.lt
  have hset : deqParts q { X with sv := v' } = (deqParts q X).set 1 v'.ownBlock.toList := rfl
  have hap : Apart (deqParts q { X with sv := v' }) := by
    rw [hset]
    refine h.apart.set (n := w.heap.size) rfl (fun x hx => ?_) hlt
    rcases hfr x (by simpa using hx) with h1 | h1
    · exact .inl (by simpa using h1)
    · exact .inr h1
  have hvq : ∀ b, v'.ownBlock = some b → b ∉ [q] := fun b hb => hap 1 0 _ _ (by decide) rfl rfl b (by simpa using hb)
  have hto : ∀ {F : List Nat}, (∀ x ∈ F, x ∉ [q]) → (∀ x ∈ F, x ∉ X.sv.ownBlock.toList) → ∀ b ∈ F, b ∉ X.sv.ownBlock.toList ∧ b ∉ [q] := fun h1 h2 b hb => ⟨h2 b hb, h1 b hb⟩
  refine ⟨{ X with sv := v' }, ⟨hc2, ?_, ?_, ?_, hrow.touch hT2 hvq, hap, ?_⟩, rfl, rfl, rfl, rfl, rfl, ?_, ?_⟩
  · exact (h.tape.touch hT1 (h.sep 2 1 (by decide) rfl rfl)).touch hT2 (h.sep 2 0 (by decide) rfl rfl)
  · exact (h.pend.touch hT1 (h.sep 3 1 (by decide) rfl rfl)).touch hT2 (h.sep 3 0 (by decide) rfl rfl)
  · exact (h.log.touch hT1 (h.sep 4 1 (by decide) rfl rfl)).touch hT2 (h.sep 4 0 (by decide) rfl rfl)
  · intro a ha b hb
    rw [hset] at ha
    rcases List.mem_or_eq_of_mem_set ha with ha | rfl
    · exact h.low a ha b hb
    · have h8 := h.low [q] (by simp [deqParts]) q (by simp)
      have hql := hlt [q] (by simp [deqParts]) q (by simp)
      rcases hfr b (by simpa using hb) with h1 | h1
      · exact h.low X.sv.ownBlock.toList (by simp [deqParts]) b (by simpa using h1)
      · omega
  · refine (hT1.mono fun x hx => mem_flat (a := X.sv.ownBlock.toList) (by simp [deqParts]) hx).trans' (hT2.mono fun x hx => mem_flat (a := [q]) (by simp [deqParts]) hx)
  · intro a ha b hb
    rw [hset] at ha
    rcases List.mem_or_eq_of_mem_set ha with ha | rfl
    · exact .inl (mem_flat ha hb)
    · rcases hfr b (by simpa using hb) with h1 | h1
      · exact .inl (mem_flat (a := X.sv.ownBlock.toList) (by simp [deqParts]) (by simpa using h1))
      · exact .inr h1

set_option maxRecDepth 100000 in
set_option maxHeartbeats 1000000 in
theorem deqadd_ok (w : World) (q : Nat) (X : DeqX) (M : TapeM) (P : PendM) (L : LogM) (due : List Int) (h : DeqAt w q X M P L due) (v : Value) (news : List Int) (hv : IntsAt w v news) (hl : due.length + news.length ≤ 10000000) :
    Calls Tryz.prog 39 #[.pointer (some ⟨q, 0, none⟩), v] w fun e w' => e = .returned (.tuple #[]) ∧ DeqTo w q X M P L (due ++ news) w' := by
  obtain ⟨v', w1, hrun, hmade⟩ := ints_append (ty := 43) h.row hv hl
  obtain ⟨a', n', rfl⟩ := hmade.1.form
  have hfin := deq_row h hmade
  have hq : q ∉ X.sv.ownBlock.toList := h.sep 0 1 (by decide) rfl rfl q (by simp)
  have hc1 := hmade.2.1.heap h.cells hq
  obtain ⟨a, cp, hsv⟩ := h.row.form
  have c3 := cell_of h.cells 3 _ rfl
  have k3 := cell_of hc1 3 _ rfl
  have f3 := free_of hc1 3
  rw [hsv] at hrun c3 k3
  have HR := Lib.hid hrun
  have HF := Lib.hid hfin
  clear hrun hmade hfin hq hc1 h hsv
  go_enter Tryz.func39, Tryz.ntmps39
  go_wp2_with (at_builtin; refine wpList_append_run rfl _ _ _ _ rfl rfl rfl HR.out ?_)
  go_end0
  have hF := HF.out
  rw [List.length_append] at hF
  exact ⟨rfl, hF⟩

set_option maxRecDepth 100000 in
set_option maxHeartbeats 1000000 in
theorem deqadd_none (w : World) (v : Value) : Calls Tryz.prog 39 #[.pointer none, v] w fun e w' => e = .returned (.tuple #[]) ∧ w = w' := by
  go_enter Tryz.func39, Tryz.ntmps39
  go_wp2_with fail
  go_end0
  exact ⟨rfl, rfl⟩

def IntsIs (w : World) (l : List Int) (e : Ending) (w' : World) : Prop :=
  ∃ v, e = .returned v ∧ w'.ownsRow w.heap.size 3 1 v l.length (l.map (Value.int .i64)) ∧ Touch [] w w'

theorem iclone_ok (w : World) (v : Value) (l : List Int) (h : IntRow w v l) (hl : l.length ≤ 10000000) : Calls Tryz.prog 91 #[v] w (IntsIs w l) := by
  rcases h with ⟨rfl, rfl⟩ | ⟨g, k, cp, cur, rfl, hg, hn, hk, hm, hcu⟩
  · refine (Tryz.slices_Clone_int_nil 0 0 w).mono ?_
    rintro e w' ⟨rfl, rfl⟩
    exact ⟨_, rfl, World.ownsRow_nil _ _ _ _, Touch.refl _ _⟩
  · refine (Tryz.slices_Clone_int g k l.length cp l w (Nat.le_refl _) (by omega) (fun j hj => ?_)).mono ?_
    · have := hcu j _ (List.getElem?_eq_getElem hj)
      rw [cell_of hg (k + j) _ this]
      simp [List.getD_eq_getElem?_getD, List.getElem?_eq_getElem hj]
    · rintro e w' ⟨v, rfl, hown, -, hb⟩
      rw [List.take_length] at hown
      exact ⟨v, rfl, hown, Touch.of_below hb⟩

set_option maxRecDepth 100000 in
set_option maxHeartbeats 1000000 in
theorem deqdue_ok (w : World) (q : Nat) (X : DeqX) (M : TapeM) (P : PendM) (L : LogM) (due : List Int) (h : DeqAt w q X M P L due) (hl : due.length ≤ 10000000) :
    Calls Tryz.prog 40 #[.pointer (some ⟨q, 0, none⟩)] w (IntsIs w due) := by
  have hcl := iclone_ok w X.sv due h.row hl
  have c3 := cell_of h.cells 3 _ rfl
  obtain ⟨a, cp, hsv⟩ := h.row.form
  rw [hsv] at hcl c3
  have HC := Lib.hid hcl
  clear h hcl hsv
  go_enter Tryz.func40, Tryz.ntmps40
  go_wp2_with fail
  refine HC.out.mono ?_
  rintro e w1 ⟨v, rfl, hown, hT⟩
  have HO := Lib.hid (And.intro hown hT)
  have hvs : ∃ a3 n3 c3, v = .slice a3 n3 c3 := by
    rcases hown.2 with ⟨e, -⟩ | ⟨g, cp, cur, e, -⟩
    · exact ⟨_, _, _, e⟩
    · exact ⟨_, _, _, e⟩
  obtain ⟨a2, n2, cp2, rfl⟩ := hvs
  clear hown hT
  go_wp2_with fail
  go_ret
  exact ⟨_, rfl, HO.out.1, HO.out.2⟩

set_option maxRecDepth 100000 in
set_option maxHeartbeats 1000000 in
theorem deqdue_none (w : World) : Calls Tryz.prog 40 #[.pointer none] w fun e w' => e = .returned (.slice none 0 0) ∧ w = w' := by
  go_enter Tryz.func40, Tryz.ntmps40
  go_wp2_with fail
  go_ret
  exact ⟨rfl, rfl⟩
end Go.Proofs.YtljgifbnmgpdbaaGreatDoor

namespace Go.Proofs.YtljgifbnmgpdbaaGreatDoor
open Go Go.RowKit

set_option maxRecDepth 100000 in
set_option maxHeartbeats 1000000 in
theorem deqbusy_ok (w : World) (q : Nat) (X : DeqX) (M : TapeM) (P : PendM) (L : LogM) (due : List Int) (h : DeqAt w q X M P L due) (now : Int) :
    Calls Tryz.prog 42 #[.pointer (some ⟨q, 0, none⟩), .int .i64 now] w fun e w' => e = .returned (.bool (decide (0 < due.length) || decide (L.hand < now))) ∧ w = w' := by
  have hha := lhand_ok w _ _ _ _ _ h.log
  have c2 := cell_of h.cells 2 _ rfl
  have c3 := cell_of h.cells 3 _ rfl
  obtain ⟨a, cp, hsv⟩ := h.row.form
  rw [hsv] at c3
  have HA := Lib.hid hha
  obtain ⟨n, hn⟩ : ∃ n, n = due.length := ⟨_, rfl⟩
  rw [← hn] at c3 ⊢
  clear h hha hsv hn
  by_cases h0 : n = 0
  · subst h0
    go_enter Tryz.func42, Tryz.ntmps42
    go_wp2_with fail
    refine HA.out.mono ?_
    rintro e w' ⟨rfl, rfl⟩
    go_wp2_with fail
    go_ret
    exact ⟨by simp, rfl⟩
  · have d1 : decide ((0 : Int) < (n : Int)) = true := by simp; omega
    have d2 : decide (0 < n) = true := by simp; omega
    go_enter Tryz.func42, Tryz.ntmps42
    go_wp2_with fail
    go_ret
    exact ⟨by simp [d2], rfl⟩

set_option maxRecDepth 100000 in
set_option maxHeartbeats 1000000 in
theorem deqbusy_none (w : World) (now : Int) : Calls Tryz.prog 42 #[.pointer none, .int .i64 now] w fun e w' => e = .returned (.bool false) ∧ w = w' := by
  go_enter Tryz.func42, Tryz.ntmps42
  go_wp2_with fail
  go_ret
  exact ⟨rfl, rfl⟩

set_option maxRecDepth 100000 in
set_option maxHeartbeats 1000000 in
theorem deqstep_none (w : World) (now : Int) : Calls Tryz.prog 41 #[.pointer none, .int .i64 now] w fun e w' => e = .returned (.tuple #[.bool false, .int .i64 1]) ∧ w = w' := by
  go_enter Tryz.func41, Tryz.ntmps41
  go_wp2_with fail
  go_ret2
  exact ⟨rfl, rfl⟩

set_option maxRecDepth 100000 in
set_option maxHeartbeats 1000000 in
theorem deliver_over (w : World) (q : Nat) (X : DeqX) (M : TapeM) (P : PendM) (L : LogM) (due : List Int) (h : DeqAt w q X M P L due) (id now : Int) (hp : (pendGet P id).1 ≠ 1) :
    Calls Tryz.prog 93 #[.pointer (some ⟨q, 0, none⟩), .int .i64 id, .int .i64 now] w fun e w' => e = .returned (.int .i64 0) ∧ w = w' := by
  have hst := pstate_ok w _ _ _ h.pend id
  have c1 := cell_of h.cells 1 _ rfl
  obtain ⟨x, hx⟩ : ∃ x, x = (pendGet P id).1 := ⟨_, rfl⟩
  rw [← hx] at hst hp
  have HS := Lib.hid hst
  have h1' : (x != 1) = true := by simpa using hp
  have h1'' : (x == 1) = false := by simpa using hp
  have h1d : decide (x = 1) = false := by simpa using hp
  clear h hst hx hp
  go_enter Tryz.func93, Tryz.ntmps93
  go_wp2_with fail
  refine HS.out.mono ?_
  rintro e w' ⟨rfl, rfl⟩
  go_wp2_with fail
  go_ret
  exact ⟨rfl, rfl⟩

theorem int_cut {w : World} {v : Value} {x : Int} {l : List Int} (h : IntRow w v (x :: l)) : ∃ a n cp, v = .slice a n cp ∧ n = l.length + 1 ∧ 1 ≤ cp ∧
    IntMade w v l (.slice (if cp = 1 then a else Option.map (fun x => x.add 1) a) (n - 1) (cp - 1)) w := by
  obtain ⟨a, cp, e, h1, hr⟩ := h.tail
  refine ⟨a, l.length + 1, cp, e, rfl, h1, hr, Touch.refl _ _, fun g hg => ?_⟩
  left
  rw [e]
  cases a with
  | none => split at hg <;> simp [Value.ownBlock] at hg
  | some a =>
    split at hg
    · exact hg
    · simp only [Option.map_some, Value.ownBlock, Option.some.injEq] at hg ⊢
      rw [← hg]
      unfold Addr.add; split <;> rfl
end Go.Proofs.YtljgifbnmgpdbaaGreatDoor

namespace Go.Proofs.YtljgifbnmgpdbaaGreatDoor
open Go Go.RowKit

def Deliv (w : World) (q : Nat) (X : DeqX) (M : TapeM) (P : PendM) (L : LogM) (due : List Int) (e : Ending) (w' : World) : Prop :=
  e = .returned (.int .i64 0) ∧ DeqTo w q X M P L due w'

theorem DeqTo.trans {w w1 w2 : World} {q : Nat} {X X1 : DeqX} {M : TapeM} {P : PendM} {L : LogM} {due : List Int} {M1 : TapeM} {P1 : PendM} {L1 : LogM} {due1 : List Int}
    (h1 : DeqAt w1 q X1 M1 P1 L1 due1) (e1 : X1.t = X.t ∧ X1.s = X.s ∧ X1.l = X.l ∧ X1.cap = X.cap ∧ X1.capL = X.capL) (hT : Touch (deqParts q X).flatten w w1) (hg : ∀ a ∈ deqParts q X1, ∀ b ∈ a, b ∈ (deqParts q X).flatten ∨ w.heap.size ≤ b)
    (h2 : DeqTo w1 q X1 M P L due w2) : DeqTo w q X M P L due w2 := by
  obtain ⟨X2, h, a1, a2, a3, a4, a5, hT2, hg2⟩ := h2
  obtain ⟨b1, b2, b3, b4, b5⟩ := e1
  refine ⟨X2, h, a1.trans b1, a2.trans b2, a3.trans b3, a4.trans b4, a5.trans b5, hT.trans hT2 (fun x hx => ?_), fun a ha b hb => ?_⟩
  · obtain ⟨a, ha, hx⟩ := List.mem_flatten.1 hx
    exact hg a ha x hx
  · rcases hg2 a ha b hb with h3 | h3
    · obtain ⟨a', ha', hx⟩ := List.mem_flatten.1 h3
      exact hg a' ha' b hx
    · right; have := hT.size; omega

set_option maxRecDepth 100000 in
set_option maxHeartbeats 2000000 in
theorem deqstep_go (w : World) (q : Nat) (X : DeqX) (M : TapeM) (P : PendM) (L : LogM) (id : Int) (due : List Int) (h : DeqAt w q X M P L (id :: due)) (now : Int) (hl : due.length ≤ 10000000) (M' : TapeM) (P' : PendM)
    (hd : Calls Tryz.prog 93 #[.pointer (some ⟨q, 0, none⟩), .int .i64 id, .int .i64 now] w (Deliv w q X M' P' L (id :: due))) :
    Calls Tryz.prog 41 #[.pointer (some ⟨q, 0, none⟩), .int .i64 now] w fun e w' => e = .returned (.tuple #[.bool true, .int .i64 0]) ∧ DeqTo w q X M' P' L due w' := by
  obtain ⟨g, k, cp, hsv, hcell⟩ := h.row.cell (j := 0) (x := id) rfl
  have c3 := cell_of h.cells 3 _ rfl
  rw [hsv] at c3
  obtain ⟨n, hn⟩ : ∃ n, n = (id :: due).length := ⟨_, rfl⟩
  rw [← hn] at c3
  have hn1 : n = due.length + 1 := hn
  have d1 : ((n : Int) == 0) = false := by simp; omega
  have d2 : decide ((n : Int) = 0) = false := by simp; omega
  have B1 : (0 : Int) < n := by omega
  have B2 : (n : Int) ≤ 10000001 := by omega
  have hcell : w.cell? ⟨g, k, none⟩ = some (.int .i64 id) := hcell
  have HD := Lib.hid hd
  clear h hd hsv hn hn1
  go_enter Tryz.func41, Tryz.ntmps41
  go_wp2_with fail
  refine HD.out.mono ?_
  rintro e w1 ⟨rfl, X1, h1, e1, e2, e3, e4, e5, hT1, hg1⟩
  obtain ⟨a, n2, cp2, hsv2, hn2, hcp2, hmade⟩ := int_cut h1.row
  have hfin := (deq_row h1 hmade)
  replace hfin := DeqTo.trans h1 ⟨e1, e2, e3, e4, e5⟩ hT1 hg1 hfin
  have k3 := cell_of h1.cells 3 _ rfl
  have f3 := free_of h1.cells 3
  rw [hsv2] at k3
  have B3 : (1 : Int) ≤ n2 := by omega
  have B4 : (n2 : Int) ≤ 10000001 := by omega
  have HF := Lib.hid hfin
  clear hfin hmade h1 e1 e2 e3 e4 e5 hT1 hg1 hsv2 hn2 c3 hcell
  by_cases hc : cp2 = 1
  · rw [if_pos hc] at HF
    have hc' := hc.symm
    subst hc'
    go_wp2_with fail
    go_ret2
    exact ⟨rfl, HF.out⟩
  · rw [if_neg hc] at HF
    go_wp2_with fail
    go_ret2
    exact ⟨rfl, HF.out⟩
theorem deq_self {w : World} {q : Nat} {X : DeqX} {M : TapeM} {P : PendM} {L : LogM} {due : List Int} (h : DeqAt w q X M P L due) : DeqTo w q X M P L due w :=
  ⟨X, h, rfl, rfl, rfl, rfl, rfl, Touch.refl _ _, fun a ha b hb => .inl (mem_flat ha hb)⟩

theorem deqstep_over (w : World) (q : Nat) (X : DeqX) (M : TapeM) (P : PendM) (L : LogM) (id : Int) (due : List Int) (h : DeqAt w q X M P L (id :: due)) (now : Int) (hl : due.length ≤ 10000000) (hp : (pendGet P id).1 ≠ 1) :
    Calls Tryz.prog 41 #[.pointer (some ⟨q, 0, none⟩), .int .i64 now] w fun e w' => e = .returned (.tuple #[.bool true, .int .i64 0]) ∧ DeqTo w q X M P L due w' :=
  deqstep_go w q X M P L id due h now hl M P ((deliver_over w q X M P L _ h id now hp).mono fun e w' hh => ⟨hh.1, by rw [← hh.2]; exact deq_self h⟩)
end Go.Proofs.YtljgifbnmgpdbaaGreatDoor

namespace Go.Proofs.YtljgifbnmgpdbaaGreatDoor
open Go Go.RowKit

section
variable {P : Program} {ops : Array Oper} {md : Region.Mode} {C D : World → Prop}

/-- Each operation behind n waits for one from n on. -/
def restB (md : Region.Mode) (ops : Array Oper) (n : Nat) : Bool :=
  (List.range ops.size).all fun t => decide (t ≤ n) || (List.range ops.size).any fun k => decide (n ≤ k) && Region.waitsFor md ops t k

theorem mid_waits {n : Nat} {listed : Array Bool} (hs : Region.sinkB md ops n = true) (hc : restB md ops n = true) (hn : n < ops.size) (inv : HeadInv md ops n listed) :
    ∀ (d i : Nat), n - i = d → i < n → listed.getD i true = false → ∀ t, n ≤ t → t ∉ Region.ready md ops listed := by
  intro d
  induction d using Nat.strongRecOn with
  | _ d ih =>
    intro i hd hi hun t ht hr
    obtain ⟨_, ot, hot, hall⟩ := mem_ready.1 hr
    have htlt : t < ops.size := (Array.getElem?_eq_some_iff.1 hot).1
    by_cases htn : t = n
    · subst htn
      have h1 := List.all_eq_true.1 hs i (List.mem_range.2 hi)
      obtain ⟨j, hj, hj2⟩ := List.any_eq_true.1 h1
      simp only [Bool.and_eq_true, decide_eq_true_eq] at hj2
      obtain ⟨oj, hoj, e, he, hb, hon⟩ := Region.waitsFor_spec hj2.2
      have hjle : j ≤ t := by have := List.mem_range.1 hj; omega
      by_cases hjt : j = t
      · subst hjt
        have : oj = ot := Option.some.inj (hoj.symm.trans hot)
        subst this
        have h2 := hall e he hb
        rw [hon, getD_both hun] at h2
        cases h2
      · cases hl : listed.getD j false with
        | true =>
          have h2 := inv.closed j oj hoj hl e he hb
          rw [hon, getD_both hun] at h2
          cases h2
        | false =>
          have hjs : j < listed.size := by rw [inv.size]; omega
          exact ih (t - j) (by omega) j rfl (by omega) (getD_in hjs hl) t (Nat.le_refl _) hr
    · have h1 := List.all_eq_true.1 hc t (List.mem_range.2 htlt)
      simp only [Bool.or_eq_true, decide_eq_true_eq] at h1
      rcases h1 with h1 | h1
      · omega
      · obtain ⟨k, hk, hk2⟩ := List.any_eq_true.1 h1
        simp only [Bool.and_eq_true, decide_eq_true_eq] at hk2
        obtain ⟨o', ho', e, he, hb, hon⟩ := Region.waitsFor_spec hk2.2
        have : o' = ot := Option.some.inj (ho'.symm.trans hot)
        subst this
        have h2 := hall e he hb
        rw [hon, getD_both (inv.tail k hk2.1 (List.mem_range.1 hk))] at h2
        cases h2

theorem headMid_take {n i : Nat} {oi : Oper} {v : Value} {L : Array Bool → Act → Prop} (hi : ops[i]? = some oi) (hsel : ∀ (j : Nat) (o : Oper) cs b, ops[j]? = some o → o.op ≠ .select cs b)
    (hs : Region.sinkB md ops n = true) (hc : restB md ops n = true) (hn : n < ops.size) (hin : i < n) (hend : ∀ listed a, L listed a → ∀ j ∈ Region.ready md ops listed, n ≤ j) :
    ∀ (f : Nat) (listed : Array Bool) (a : Act), HeadInv md ops n listed →
      (∀ j oj, ops[j]? = some oj → j ≠ i → listed.getD j true = false → (∀ e ∈ oj.after, Region.binds md e = true → e.on ≠ i) → oi.apart ops oj = true) →
      i ∈ Region.ready md ops listed → YieldsIn P ops C oi v a →
      headAny P md ops C n L f (listed.setIfInBounds i true) (a.put oi.dst v) → headAny P md ops C n L (f + 1) listed a := by
  intro f
  induction f with
  | zero =>
    intro listed a inv _ hr hy H
    have hun := (mem_ready.1 hr).1
    refine ⟨fun h => (by rw [h] at hr; cases hr), fun j hj => ?_⟩
    have hjn : j < n := (Nat.lt_or_ge j n).elim id fun h => absurd hj (mid_waits hs hc hn inv _ i rfl hin hun j h)
    refine ⟨hjn, ?_⟩
    by_cases hji : j = i
    · subst hji; exact hy.qOp hi H
    · have := hend _ _ H j (ready_mono hj hji)
      omega
  | succ f ih =>
    intro listed a inv hfree hr hy H
    have hun := (mem_ready.1 hr).1
    refine ⟨fun h => (by rw [h] at hr; cases hr), fun j hj => ?_⟩
    have hjn : j < n := (Nat.lt_or_ge j n).elim id fun h => absurd hj (mid_waits hs hc hn inv _ i rfl hin hun j h)
    refine ⟨hjn, ?_⟩
    by_cases hji : j = i
    · subst hji; exact hy.qOp hi H
    · have h1 := (H.2 j (ready_mono hj hji)).2
      obtain ⟨hjun, oj, hoj, hall⟩ := mem_ready.1 hj
      have hnot : ∀ e ∈ oj.after, Region.binds md e = true → e.on ≠ i := fun e he hb heq => by
        have h1 := hall e he hb
        rw [heq, getD_both hun] at h1
        cases h1
      have h2 := qOp_put hoj (hfree j oj hoj hji hjun hnot) (fun cs b => hsel i oi cs b hi) (fun cs b => hsel j oj cs b hoj) hy h1
      refine qOp_mono (fun a' h3 => ih (listed.setIfInBounds j true) a' (inv.set hj hjn) (fun k ok hk hki hun hno => hfree k ok hk hki ?_ hno) (ready_mono hr (Ne.symm hji)) h3.1 ?_) h2
      · by_cases hjk : j = k
        · subst hjk; exact hjun
        · rw [getD_set_ne true hjk] at hun; exact hun
      · rw [Array.setIfInBounds_comm _ _ hji]
        exact h3.2

/-- Behind the first: the middle one is the only one that is ready; behind it the text's order serves. -/
def midEnd (md : Region.Mode) (ops : Array Oper) (n : Nat) (listed : Array Bool) : Bool :=
  decide (Region.ready md ops listed = [n]) && Region.lexFrom md ops (ops.size - (n + 1)) (n + 1) (listed.setIfInBounds n true)

def lexMid (md : Region.Mode) (ops : Array Oper) (n : Nat) : Nat → Nat → Array Bool → Bool
  | 0, _, listed => midEnd md ops n listed
  | f + 1, k, listed => (Region.ready md ops listed).contains k && Region.free md ops listed k && lexMid md ops n f (k + 1) (listed.setIfInBounds k true)

def lexMidB (md : Region.Mode) (ops : Array Oper) (n : Nat) : Bool :=
  Region.noSelect ops && decide (n < ops.size) && Region.sinkB md ops n && restB md ops n && lexMid md ops n n 0 (Array.replicate ops.size false)

theorem headMid_lex {n : Nat} {Lq : Act → Prop} (hsel : Region.noSelect ops = true) (hs : Region.sinkB md ops n = true) (hc : restB md ops n = true) (hn : n < ops.size) :
    ∀ (l : List Oper) (k : Nat) (listed : Array Bool) (a : Act), (∀ j, j < l.length → l[j]? = ops[k + j]?) → k + l.length = n → HeadInv md ops n listed →
    lexMid md ops n l.length k listed = true → wpQuiet P ops C Lq l a →
    headAny P md ops C n (fun listed' a' => midEnd md ops n listed' = true ∧ Lq a') l.length listed a := by
  intro l
  induction l with
  | nil =>
    intro k listed a _ hk _ hB h
    exact ⟨by simpa [lexMid] using hB, h⟩
  | cons o l ih =>
    intro k listed a hl hk inv hB h
    have h0 : ops[k]? = some o := by simpa using (hl 0 (by simp)).symm
    simp only [List.length_cons, lexMid, Bool.and_eq_true] at hB
    obtain ⟨⟨hr, hf⟩, hB'⟩ := hB
    have hkn : k < n := by simp only [List.length_cons] at hk; omega
    have hr' : k ∈ Region.ready md ops listed := by simpa using hr
    have hst : qOp P ops C k (wpQuiet P ops C Lq l) a := by unfold qOp; simp only [h0]; exact h
    obtain ⟨v, hy, hK⟩ := yieldsIn_of_qOp h0 hst
    exact headMid_take h0 (Region.noSelect_spec hsel) hs hc hn hkn (fun listed' a' hL j hj => by
      have h1 := hL.1
      unfold midEnd at h1
      simp only [Bool.and_eq_true, decide_eq_true_eq] at h1
      rw [h1.1] at hj
      have : j = n := by simpa using hj
      omega) l.length listed a inv (Region.free_spec h0 hf) hr' hy
      (ih (k + 1) _ _ (fun j hj => by have := hl (j + 1) (by simp; omega); simpa [Nat.add_assoc, Nat.add_comm 1 j] using this) (by simp only [List.length_cons] at hk; omega) (inv.set hr' hkn) hB' hK)

theorem exec_call {o : Oper} {f : Nat} {cs : Array Operand} {ts : Array TypeId} (hop : o.op = .call { callee := .value (.func f), args := cs, argTypes := ts }) {fn : Func} (hf : P.funcs[f]? = some fn) (hnm : (fn.name == "runtime.NumGoroutine") = false)
    (hbd : fn.body.isNone = false) (ev : Operand → Value) (w : World) (hev : ev (.func f) = .func (.func f) #[] #[]) : (execOp ev o).run P w = .ok (.enter f (cs.map ev)) w := by
  have h1 : ¬ fn.name = "runtime.NumGoroutine" := by simpa using hnm
  have h2 : ¬ fn.body = none := fun e => by rw [e] at hbd; cases hbd
  simp [execOp, hop, resolve, Deferred.ofValue, invoke, callFunc, hf, h1, h2, go_sem, hev]

theorem region_class_mid {id : Nat} {Q : Exit → Act → World → Prop} {a : Act} {w : World} {l : List Oper} (n : Nat) (C D : World → Prop) {o : Oper} (ho : l[n]? = some o) (hgd : o.guard = none) {f : Nat} {cs : Array Operand} {ts : Array TypeId}
    (hop : o.op = .call { callee := .value (.func f), args := cs, argTypes := ts }) {fn : Func} (hf : P.funcs[f]? = some fn) (hnm : (fn.name == "runtime.NumGoroutine") = false) (hbd : fn.body.isNone = false)
    (hm : P.follows .mixedOrders = true) (hB : lexMidB .any l.toArray n = true) (hC : C w.drew)
    (h : wpQuiet P l.toArray (Cls C) (fun a' => ∃ args v, cs.map a'.eval = args ∧ (∀ w', C w' → Calls P f args w' fun e w2 => e = .returned v ∧ D w2) ∧
      wpQuiet P l.toArray (Cls D) (fun a3 => ∀ w3, D w3 → Q .normal a3 w3) (l.drop (n + 1)) (a'.put o.dst v)) (l.take n) a) : (Code.region id l.toArray true).wp P Q a w := by
  simp only [lexMidB, Bool.and_eq_true, decide_eq_true_eq] at hB
  obtain ⟨⟨⟨⟨hsel, hn⟩, hs⟩, hc⟩, hlex⟩ := hB
  have hn' : n < l.length := by simpa using hn
  have htl : (l.take n).length = n := by simp; omega
  have inv0 : HeadInv .any l.toArray n (Array.replicate l.toArray.size false) :=
    ⟨by simp, fun j oj _ hl => (by rw [getD_replicate_false] at hl; cases hl), fun t _ ht => getD_in (by simpa using ht) (getD_replicate_false _ _)⟩
  have H := headMid_lex (md := .any) (C := Cls C) hsel hs hc hn (l.take n) 0 _ a (fun j hj => by
    have hj' : j < n := by rw [htl] at hj; exact hj
    simp [hj']) (by simpa using htl) inv0 (by rw [htl]; exact hlex) h
  refine wp_region_any hm ?_
  have := headAny_any (Q' := Q) (g := l.toArray.size - (n + 1) + 1) (C := Cls C) (fun listed a' w' hw' hL => by
    obtain ⟨hE, args, v, rfl, hcall, hrest⟩ := hL
    unfold midEnd at hE
    simp only [Bool.and_eq_true, decide_eq_true_eq] at hE
    refine ⟨fun h0 => (by rw [hE.1] at h0; cases h0), fun i hi => ?_⟩
    rw [hE.1] at hi
    have hin : i = n := by simpa using hi
    subst hin
    unfold wpOp
    have ho' : l.toArray[i]? = some o := by simpa using ho
    simp only [ho']
    have hw : Region.wanted o (yielded l.toArray a'.tmps) = true := by simp [Region.wanted, hgd]
    rw [if_pos hw]
    left
    unfold Oper.wp
    rw [exec_call hop hf hnm hbd _ _ rfl]
    refine (hcall w' hw').mono fun e w2 hh => ?_
    obtain ⟨rfl, hD⟩ := hh
    refine wpAny_of_quiet (C := Cls D) (Q := fun a3 => ∀ w3, D w3 → Q .normal a3 w3) (fun _ w3 hw3 h => h w3 hw3) _ _ _ _ hD ?_
    have hdl : (l.drop (i + 1)).length = l.toArray.size - (i + 1) := by simp
    have := wpAnyQ_lex (C := Cls D) (md := .any) hsel (l.drop (i + 1)) (i + 1) (listed.setIfInBounds i true) _ (fun j => by simp [List.getElem?_drop]) (by rw [hdl]; exact hE.2) hrest
    rw [hdl] at this
    exact this) _ _ _ _ (show Cls C { w with drawn := w.drawn + 1 } from hC) H
  rw [htl, show n + (l.toArray.size - (n + 1) + 1) = l.toArray.size by omega] at this
  exact this
end
end Go.Proofs.YtljgifbnmgpdbaaGreatDoor

namespace Go.Proofs.YtljgifbnmgpdbaaGreatDoor
open Go Go.RowKit

theorem deq_tape {w w' : World} {q : Nat} {X : DeqX} {M M' : TapeM} {P : PendM} {L : LogM} {due : List Int} (h : DeqAt w q X M P L due) {F' : List Nat} (ht : TapeV w' X.t F' M' X.cap) (hT : Touch X.Ft w w') (hg : Grew w.heap.size X.Ft F') :
    DeqAt w' q { X with Ft := F' } M' P L due ∧ (∀ a ∈ deqParts q { X with Ft := F' }, ∀ b ∈ a, b ∈ (deqParts q X).flatten ∨ w.heap.size ≤ b) := by
  have hset : deqParts q { X with Ft := F' } = (deqParts q X).set 2 F' := rfl
  refine ⟨⟨hT.heap h.cells (h.sep 0 2 (by decide) rfl rfl q (by simp)), ht, h.pend.touch hT (h.sep 3 2 (by decide) rfl rfl), h.log.touch hT (h.sep 4 2 (by decide) rfl rfl),
    h.row.touch hT (fun b hb => h.sep 1 2 (by decide) rfl rfl b (by simpa using hb)), ?_, ?_⟩, ?_⟩
  · rw [hset]; exact h.apart.set rfl hg h.lt
  · intro a ha b hb
    rw [hset] at ha
    rcases List.mem_or_eq_of_mem_set ha with ha | rfl
    · exact h.low a ha b hb
    · exact ht.low b hb
  · intro a ha b hb
    rw [hset] at ha
    rcases List.mem_or_eq_of_mem_set ha with ha | rfl
    · exact .inl (mem_flat ha hb)
    · rcases hg b hb with h1 | h1
      · exact .inl (mem_flat (a := X.Ft) (by simp [deqParts]) h1)
      · exact .inr h1

theorem deq_pend {w w' : World} {q : Nat} {X : DeqX} {M : TapeM} {P P' : PendM} {L : LogM} {due : List Int} (h : DeqAt w q X M P L due) (hp : PendV w' X.s X.Fs P') (hT : Touch X.Fs w w') : DeqAt w' q X M P' L due :=
  ⟨hT.heap h.cells (h.sep 0 3 (by decide) rfl rfl q (by simp)), h.tape.touch hT (h.sep 2 3 (by decide) rfl rfl), hp, h.log.touch hT (h.sep 4 3 (by decide) rfl rfl), h.row.touch hT (fun b hb => h.sep 1 3 (by decide) rfl rfl b (by simpa using hb)), h.apart, h.low⟩

set_option maxRecDepth 100000 in
set_option maxHeartbeats 2000000 in
theorem deliver_go (w : World) (q : Nat) (X : DeqX) (M : TapeM) (P : PendM) (L : LogM) (due : List Int) (h : DeqAt w q X M P L due) (hg : Glob w) (id : Nat) (m : MsgM) (now : Int) (hp : (pendGet P id).1 = 1) (hm : (id, m) ∈ M.recs)
    (hr : rightM (deliveredM id m now) = true) (hl : M.recs.length ≤ 200000) (hcap : M.fin + M.cost (deliveredM id m now) ≤ X.cap) :
    Calls Tryz.prog 93 #[.pointer (some ⟨q, 0, none⟩), .int .i64 id, .int .i64 now] w (Deliv w q X (M.push (deliveredM id m now)) (pendSet P id (2, 0)) L due) := by
  have hst := pstate_ok w _ _ _ h.pend id
  rw [hp] at hst
  have hread := tread_ok w _ _ _ _ h.tape hg id m hm
  have hk3 : m.keys.length ≤ 3 := (right_facts hr).keys
  have c0 := cell_of h.cells 0 _ rfl
  have c1 := cell_of h.cells 1 _ rfl
  have HH := Lib.hid (And.intro h (And.intro hg hk3))
  have HS := Lib.hid hst
  have HRD := Lib.hid hread
  have HP := Lib.hid (And.intro hp (And.intro hr (And.intro hl hcap)))
  clear h hg hp hm hr hl hcap hst hread hk3
  obtain ⟨M', hM'⟩ : ∃ M', M' = M.push (deliveredM id m now) := ⟨_, rfl⟩
  rw [← hM']
  have HM := Lib.hid hM'
  clear hM'
  go_enter Tryz.func93, Tryz.ntmps93
  go_wp2_with fail
  refine HS.out.mono ?_
  rintro e w' ⟨rfl, rfl⟩
  go_wp2_with fail
  refine HRD.out.mono ?_
  rintro e w1 ⟨kv, rfl, hks, hfr, hT1⟩
  obtain ⟨a', cp', rfl, hstr⟩ := hks
  have hks : KeysAt w1 (.slice a' m.keys.length cp') m.keys := ⟨a', cp', rfl, hstr⟩
  have h1 := HH.out.1.quiet hT1
  -- the record's own block
  obtain ⟨B, hB⟩ : ∃ B, B = w1.heap.size := ⟨_, rfl⟩
  obtain ⟨w3, hw3⟩ : ∃ w3, w3 = w1.alloc (msgObj m (.slice a' m.keys.length cp')) := ⟨_, rfl⟩
  have hT13 : Touch [] w1 w3 := by rw [hw3]; exact (Touch.refl _ _).alloc _
  have k2 : w3.heap[w1.heap.size]? = some (msgObj m (.slice a' m.keys.length cp')) := by rw [hw3]; exact heap_alloc_at _ _
  have h3 := h1.quiet hT13
  have hg3 := HH.out.2.1.touch (hT1.trans' hT13) (by simp)
  have hks3 := hks.quiet hT13
  unfold msgObj at k2 hw3
  have H3 := Lib.hid (And.intro h3 (And.intro hg3 (And.intro hks3 (And.intro (hT1.trans' hT13) (And.intro k2 hB)))))
  have HW3 := Lib.hid hw3
  have HB0 := Lib.hid hT1.size
  clear h1 hks hfr hstr hT1 hg3 hks3 h3 hT13 hw3 k2 hB
  unfold msgV
  go_upto_region 4 with fail
  rw [← HW3.out]
  rw [← H3.out.2.2.2.2.2]
  have k2 := H3.out.2.2.2.2.1
  rw [← H3.out.2.2.2.2.2] at k2
  clear c0 c1
  have x0 := cell_of k2 0 _ rfl
  have x1 := cell_of k2 1 _ rfl
  have x2 := cell_of k2 2 _ rfl
  have x3 := cell_of k2 3 _ rfl
  have x4 := cell_of k2 4 _ rfl
  have x5 := cell_of k2 5 _ rfl
  have x6 := cell_of k2 6 _ rfl
  have x7 := cell_of k2 7 _ rfl
  have x8 := cell_of k2 8 _ rfl
  have x9 := cell_of k2 9 _ rfl
  have K2 := Lib.hid k2
  clear k2
  go_wp2_with fail
  refine (delivered_ok w3 id m now _ H3.out.2.2.1 (by have := HH.out.2.2; omega)).mono ?_
  rintro e w4 ⟨kv, rfl, hks, hfr, hT4⟩
  obtain ⟨a4, cp4, rfl, hstr⟩ := hks
  have hks : KeysAt w4 (.slice a4 (deliveredM id m now).keys.length cp4) (deliveredM id m now).keys := ⟨a4, cp4, rfl, hstr⟩
  have g4 := hT4.heap K2.out (by simp)
  clear x0 x1 x2 x3 x4 x5 x6 x7 x8 x9
  unfold msgV
  simp only [deliveredM]
  have x0 := cell_of g4 0 _ rfl
  have x1 := cell_of g4 1 _ rfl
  have x2 := cell_of g4 2 _ rfl
  have x3 := cell_of g4 3 _ rfl
  have x4 := cell_of g4 4 _ rfl
  have x5 := cell_of g4 5 _ rfl
  have x6 := cell_of g4 6 _ rfl
  have x7 := cell_of g4 7 _ rfl
  have x8 := cell_of g4 8 _ rfl
  have x9 := cell_of g4 9 _ rfl
  have y0 := free_of g4 0
  have y1 := free_of g4 1
  have y2 := free_of g4 2
  have y3 := free_of g4 3
  have y4 := free_of g4 4
  have y5 := free_of g4 5
  have y6 := free_of g4 6
  have y7 := free_of g4 7
  have y8 := free_of g4 8
  have y9 := free_of g4 9
  have hks : KeysAt w4 (.slice a4 m.keys.length cp4) m.keys := ⟨a4, cp4, rfl, hstr⟩
  obtain ⟨k5, hT5⟩ := store10 g4 (.int .i64 3) (.int .i64 m.queue) (.int .i64 m.due) (.int .i64 m.retry) (.int .i64 id) (.int .i64 now) (.string m.topic) (.string m.tag) (.string m.body) (.slice a4 m.keys.length cp4)
  obtain ⟨w5, hw5⟩ : ∃ w5, w5 = ((((((((((((w4).setCell ⟨B, 0, none⟩ (.int .i64 3)).setCell ⟨B, 1, none⟩ (.int .i64 m.queue)).setCell ⟨B, 2, none⟩ (.int .i64 m.due)).setCell ⟨B, 3, none⟩ (.int .i64 m.retry)).setCell ⟨B, 4, none⟩ (.int .i64 id)).setCell ⟨B, 5, none⟩ (.int .i64 now)).setCell ⟨B, 6, none⟩ (.string m.topic)).setCell ⟨B, 7, none⟩ (.string m.tag)).setCell ⟨B, 8, none⟩ (.string m.body)).setCell ⟨B, 9, none⟩ (.slice a4 m.keys.length cp4))) := ⟨_, rfl⟩
  rw [← hw5] at k5 hT5
  have hBw : w.heap.size ≤ B := H3.out.2.2.2.2.2 ▸ HB0.out
  have h5 : DeqAt w5 q X M P L due := (H3.out.1.quiet hT4).touch hT5 (fun a ha b hb hm => by
    have h0 := HH.out.1.lt a ha b hb
    simp at hm; subst hm; omega)
  have hTB : Touch [] w w5 := (H3.out.2.2.2.1.trans' hT4).trans hT5 (fun x hx => by simp at hx; right; omega)
  have hBl : B < w3.heap.size := lt_of_heap K2.out
  have hks5 := hks.touch hT5 (fun b hb hm => by have := hfr b hb; simp at hm; omega)
  have H5 := Lib.hid (And.intro h5 (And.intro hTB (And.intro hks5 (And.intro k5 hBw))))
  have HW5 := Lib.hid hw5
  have HF5 := Lib.hid (And.intro hfr hBl)
  clear h5 hTB hks5 k5 hBw hks hfr hBl hT4 hT5 g4 hw5 hstr
  go_upto_region 11 with fail
  rw [← HW5.out]
  obtain ⟨M1, hM1⟩ : ∃ M1, M1 = M.idOf (deliveredM id m now) := ⟨_, rfl⟩
  have HM1 := Lib.hid hM1
  clear hM1
  refine region_class_mid 5 (fun w' => w'.heap[q]? = some (.cells #[.pointer (some ⟨X.t, 0, none⟩), .pointer (some ⟨X.s, 0, none⟩), .pointer (some ⟨X.l, 0, none⟩), X.sv] 162 (0, 0)) ∧ w'.heap[B]? = some (.cells #[.int .i64 3, .int .i64 m.queue, .int .i64 m.due, .int .i64 m.retry, .int .i64 id, .int .i64 now, .string m.topic, .string m.tag, .string m.body, .slice a4 m.keys.length cp4] 46 (0, 0)) ∧ Touch [] w5 w') (fun w' => ∃ w6 F', Touch [] w5 w6 ∧ TapeV w' X.t F' M' X.cap ∧ Touch X.Ft w6 w' ∧ Grew w6.heap.size X.Ft F') rfl rfl rfl Tryz.func22 (by kernel_rfl) (by kernel_rfl) (by kernel_rfl) (by kernel_rfl) ⟨H5.out.1.cells, H5.out.2.2.2.1, (Touch.refl [] w5).drew⟩ ?_
  simp only [List.take_succ_cons, List.take_zero, List.drop_succ_cons, List.drop_zero]
  repeat (first | go_big_quiet_skip | (go_big_quiet_want; go_big_quiet_op; first | go_big_quiet_on | (refine Exists.intro _ ⟨fun _ _ => rfl, ?_⟩; go_big_quiet_on) | (refine Exists.intro (.pointer (some ⟨X.t, 0, none⟩)) (And.intro ?_ ?_); (next => (intro w' hC; have c0 := cell_of hC.out.1 0 _ rfl; rw [c0]; exact ⟨rfl, rfl⟩)); go_big_quiet_on) | (refine Exists.intro (.agg #[.int .i64 3, .int .i64 m.queue, .int .i64 m.due, .int .i64 m.retry, .int .i64 id, .int .i64 now, .string m.topic, .string m.tag, .string m.body, .slice a4 m.keys.length cp4]) (And.intro ?_ ?_); (next => (intro w' hC; have c0 := cell_of hC.out.2.1 0 _ rfl; have c1 := cell_of hC.out.2.1 1 _ rfl; have c2 := cell_of hC.out.2.1 2 _ rfl; have c3 := cell_of hC.out.2.1 3 _ rfl; have c4 := cell_of hC.out.2.1 4 _ rfl; have c5 := cell_of hC.out.2.1 5 _ rfl; have c6 := cell_of hC.out.2.1 6 _ rfl; have c7 := cell_of hC.out.2.1 7 _ rfl; have c8 := cell_of hC.out.2.1 8 _ rfl; have c9 := cell_of hC.out.2.1 9 _ rfl; simp [c0, c1, c2, c3, c4, c5, c6, c7, c8, c9, Result.andThen]; done)); go_big_quiet_on)))
  refine wpQuiet_nil ?_
  refine ⟨#[.pointer (some ⟨X.t, 0, none⟩), msgV (deliveredM id m now) (.slice a4 m.keys.length cp4)], .tuple #[.int .i64 M1, .int .i64 0], by simp [Act.eval, Act.put, msgV, deliveredM], fun w6 hC => ?_, ?_⟩
  · have hT6 := hC.2.2
    have h6 := H5.out.1.quiet hT6
    have hap := tappend_ok w6 _ _ _ _ h6.tape (HH.out.2.1.touch (H5.out.2.1.trans' hT6) (by simp)) (deliveredM id m now) _ (H5.out.2.2.1.quiet hT6) (fun _ b hb hm => by
      have h1 := HF5.out.1 b hb
      have h2 := HH.out.1.lt X.Ft (by simp [deqParts]) b hm
      have h3 := H3.out.2.2.2.1.size
      omega) HP.out.2.1 HP.out.2.2.1 HP.out.2.2.2
    refine hap.mono ?_
    rintro e w7 ⟨rfl, F', ht7, hT7, hG7⟩
    exact ⟨by rw [HM1.out], w6, F', hT6, by rw [HM.out]; exact ht7, hT7, hG7⟩
  simp only [Act.put, List.setIfInBounds_toArray, List.set_cons_succ, List.set_cons_zero]
  repeat (first | go_big_quiet_skip | (go_big_quiet_want; go_big_quiet_op; first | go_big_quiet_on | (refine Exists.intro _ ⟨fun _ _ => rfl, ?_⟩; go_big_quiet_on)))
  refine wpQuiet_nil ?_
  rintro w7 ⟨w6, F', hT6, ht7, hT7, hG7⟩
  obtain ⟨h7, hg7⟩ := deq_tape (H5.out.1.quiet hT6) ht7 hT7 hG7
  have k7 := hT7.heap (hT6.heap H5.out.2.2.2.1 (by simp)) (fun hm => by
    have h2 := HH.out.1.lt X.Ft (by simp [deqParts]) B hm
    have h3 := H5.out.2.2.2.2
    omega)
  have H7 := Lib.hid (And.intro h7 (And.intro hg7 (And.intro hT6 (And.intro hT7 k7))))
  clear h7 hg7 ht7 hT7 hG7 k7 hT6
  go_upto_region 13 with fail
  have hnote : ∀ W, Touch [] w7 W → Calls Tryz.prog 53 #[.pointer (some ⟨X.s, 0, none⟩), .int .i64 M1, msgV (deliveredM id m now) (.slice a4 m.keys.length cp4)] W (PendOut W X.s X.Fs (true, pendSet P id (2, 0))) := by
    intro W hT
    have h := pnote_ok W _ _ _ (H7.out.1.quiet hT).pend (M1 : Int) (deliveredM id m now) a4 m.keys.length cp4
    have e : pendNote P (M1 : Int) (deliveredM id m now) = (true, pendSet P id (2, 0)) := by
      unfold pendNote
      rw [if_neg (by omega), if_pos (show (deliveredM id m now).kind = 3 from rfl)]
      show pendEnds P id 2 = _
      unfold pendEnds
      rw [if_pos HP.out.1]
    rw [e] at h
    exact h
  have HNO := Lib.hid hnote
  clear hnote
  refine region_class_mid 6 (fun w' => w'.heap[q]? = some (.cells #[.pointer (some ⟨X.t, 0, none⟩), .pointer (some ⟨X.s, 0, none⟩), .pointer (some ⟨X.l, 0, none⟩), X.sv] 162 (0, 0)) ∧ w'.heap[B]? = some (.cells #[.int .i64 3, .int .i64 m.queue, .int .i64 m.due, .int .i64 m.retry, .int .i64 id, .int .i64 now, .string m.topic, .string m.tag, .string m.body, .slice a4 m.keys.length cp4] 46 (0, 0)) ∧ Touch [] w7 w') (fun w' => ∃ w8, Touch [] w7 w8 ∧ PendV w' X.s X.Fs (pendSet P id (2, 0)) ∧ Touch X.Fs w8 w') rfl rfl rfl Tryz.func53 (by kernel_rfl) (by kernel_rfl) (by kernel_rfl) (by kernel_rfl) ⟨H7.out.1.cells, H7.out.2.2.2.2, (Touch.refl [] w7).drew⟩ ?_
  simp only [List.take_succ_cons, List.take_zero, List.drop_succ_cons, List.drop_zero]
  repeat (first | go_big_quiet_skip | (go_big_quiet_want; go_big_quiet_op; first | go_big_quiet_on | (refine Exists.intro _ ⟨fun _ _ => rfl, ?_⟩; go_big_quiet_on) | (refine Exists.intro (.pointer (some ⟨X.s, 0, none⟩)) (And.intro ?_ ?_); (next => (intro w' hC; have c0 := cell_of hC.out.1 1 _ rfl; rw [c0]; exact ⟨rfl, rfl⟩)); go_big_quiet_on) | (refine Exists.intro (.agg #[.int .i64 3, .int .i64 m.queue, .int .i64 m.due, .int .i64 m.retry, .int .i64 id, .int .i64 now, .string m.topic, .string m.tag, .string m.body, .slice a4 m.keys.length cp4]) (And.intro ?_ ?_); (next => (intro w' hC; have c0 := cell_of hC.out.2.1 0 _ rfl; have c1 := cell_of hC.out.2.1 1 _ rfl; have c2 := cell_of hC.out.2.1 2 _ rfl; have c3 := cell_of hC.out.2.1 3 _ rfl; have c4 := cell_of hC.out.2.1 4 _ rfl; have c5 := cell_of hC.out.2.1 5 _ rfl; have c6 := cell_of hC.out.2.1 6 _ rfl; have c7 := cell_of hC.out.2.1 7 _ rfl; have c8 := cell_of hC.out.2.1 8 _ rfl; have c9 := cell_of hC.out.2.1 9 _ rfl; simp [c0, c1, c2, c3, c4, c5, c6, c7, c8, c9, Result.andThen]; done)); go_big_quiet_on)))
  refine wpQuiet_nil ?_
  refine ⟨#[.pointer (some ⟨X.s, 0, none⟩), .int .i64 M1, msgV (deliveredM id m now) (.slice a4 m.keys.length cp4)], .bool true, by simp [Act.eval, Act.put, msgV, deliveredM], fun w8 hC => ?_, ?_⟩
  · refine (HNO.out w8 hC.2.2).mono ?_
    rintro e w9 ⟨rfl, hp9, hT9⟩
    exact ⟨rfl, w8, hC.2.2, hp9, hT9⟩
  simp only [Act.put, List.setIfInBounds_toArray, List.set_cons_succ, List.set_cons_zero]
  repeat (first | go_big_quiet_skip | (go_big_quiet_want; go_big_quiet_op; first | go_big_quiet_on | (refine Exists.intro _ ⟨fun _ _ => rfl, ?_⟩; go_big_quiet_on)))
  refine wpQuiet_nil ?_
  rintro w9 ⟨w8, hT8, hp9, hT9⟩
  have h9 := deq_pend (H7.out.1.quiet hT8) hp9 hT9
  have hmem : ∀ (w0 : World), w.heap.size ≤ w0.heap.size → ∀ x ∈ (deqParts q X).flatten, x ∈ (deqParts q X).flatten ∨ w0.heap.size ≤ x := fun _ _ x hx => .inl hx
  have hT59 : Touch (deqParts q X).flatten w w9 :=
    (((H5.out.2.1.nil.trans' H7.out.2.2.1.nil).trans' (H7.out.2.2.2.1.mono fun x hx => mem_flat (a := X.Ft) (by simp [deqParts]) hx)).trans' hT8.nil).trans' (hT9.mono fun x hx => mem_flat (a := X.Fs) (by simp [deqParts]) hx)
  have hs5 := H5.out.2.1.size
  have HF := Lib.hid (show Deliv w q X M' (pendSet P id (2, 0)) L due (.returned (.int .i64 0)) w9 from ⟨rfl, { X with Ft := F' }, h9, rfl, rfl, rfl, rfl, rfl, hT59, fun a ha b hb => by
    rcases H7.out.2.1 a ha b hb with h | h
    · exact .inl h
    · right; have := H7.out.2.2.1.size; omega⟩)
  clear h9 hmem hT59 hs5 hT8 hp9 hT9
  go_wp2_with fail
  go_ret
  exact HF.out
end Go.Proofs.YtljgifbnmgpdbaaGreatDoor
