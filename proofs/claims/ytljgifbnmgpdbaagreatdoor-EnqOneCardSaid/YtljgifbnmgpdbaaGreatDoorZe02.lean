/- The law of layer 19: EnqNone's contract. (Here too: Layer 16 (tlog): lay, Put. slices.Reverse of marks: the shelf's contract laid at this instance. Layer 16 (tlog): Chain, Waits. Layer 19 (enq): look. Layer 19 (enq): Step, All, Left. Layer 19 (enq): All, Left. The law of layer 19: Sync in a rig; awake.) -/
import Derived.Test.YtljgifbnmgpdbaaGreatDoorZe01
import Derived.Shelf.SlicesQ.Reverse
set_option linter.unusedSimpArgs false
set_option linter.unusedVariables false
set_option linter.unnecessarySimpa false
namespace Go.Proofs.YtljgifbnmgpdbaaGreatDoor
open Go Go.RowKit

def LogTo (w : World) (l : Nat) (F : List Nat) (L : LogM) (cap q : Nat) (w' : World) : Prop := ∃ F', LogV w' l F' L cap q ∧ Touch F w w' ∧ Grew w.heap.size F F'

theorem LogAt.head_at {w : World} {l : Nat} {X : LogX} {L : LogM} {cap : Nat} (h : LogAt w l X L cap) {s : Nat} (hs : s < 16) : ∃ x, L.heads[s]? = some x ∧ L.heads.getD s 0 = x ∧ x ≤ L.marks.length := by
  have hl : s < L.heads.length := by rw [h.sixteen]; exact hs
  refine ⟨L.heads[s], List.getElem?_eq_getElem hl, by rw [List.getD_eq_getElem?_getD, List.getElem?_eq_getElem hl]; rfl, h.heads _ (List.getElem_mem _)⟩

/-- A slot's last mark, in whatever world the log stands. -/
theorem lhead_ok (w : World) (l : Nat) (X : LogX) (L : LogM) (cap : Nat) (h : LogAt w l X L cap) (s : Nat) (hs : s < 16) :
    Calls Tryz.prog 149 #[.pointer (some ⟨X.wb, 0, none⟩), .int .i64 s] w fun e w' => e = .returned (.tuple #[.int .i64 (L.heads.getD s 0 : Nat), .int .i64 0]) ∧ Touch [] w w' := by
  obtain ⟨x, hx, he, hle⟩ := h.head_at hs
  rw [he]
  have := h.disk.le
  exact whead_ok w X.wb X.d L.hand X.Fd X.V cap _ X.q h.wheel h.disk L.heads h.slots s x hx hs (by omega)

theorem fine_ahead {m : MarkE} (h : m.Fine) {a : Nat} (ha : a < 281474976710656) : MarkE.Fine { m with ahead := a } := ⟨h.1, h.2.1, ha, h.2.2.2⟩

set_option maxRecDepth 100000 in
set_option maxHeartbeats 2000000 in
theorem lay_ok (w : World) (l : Nat) (F : List Nat) (L : LogM) (cap q : Nat) (h : LogV w l F L cap q) (m : MarkE) (hm : m.Fine) (hd : m.due ≤ 1099511627776) (hcap : 96 + 20 * (L.marks.length + 1) ≤ cap) (hq : q + 2 ≤ 1000000) :
    Calls Tryz.prog 98 #[.pointer (some ⟨l, 0, none⟩), markV m] w fun e w' => e = .returned (.int .i64 0) ∧ LogTo w l F (layM L m) cap (q + 2) w' := by
  obtain ⟨X, hA, rfl, hXq⟩ := h
  have hs16 : m.due % 16 < 16 := Nat.mod_lt _ (by omega)
  obtain ⟨s, hs⟩ : ∃ s, s = m.due % 16 := ⟨_, rfl⟩
  obtain ⟨hd0, hhx, hhe, hhle⟩ := hA.head_at hs16
  rw [← hs] at hs16 hhx hhe
  have hle := hA.disk.le
  obtain ⟨n, hn⟩ : ∃ n, n = L.marks.length := ⟨_, rfl⟩
  -- the record that is laid
  obtain ⟨m1, hm1⟩ : ∃ m1 : MarkE, m1 = { m with ahead := hd0 } := ⟨_, rfl⟩
  have hf1 : m1.Fine := by rw [hm1]; exact fine_ahead hm (by omega)
  have hlay : layM L m = { L with heads := L.heads.set s (n + 1), marks := L.marks ++ [m1] } := by
    unfold layM
    rw [← hs, hhe, ← hn, hm1]
  have hokL := (LogOk.lay ⟨hA.sixteen, hA.heads, hA.ahead⟩ m)
  rw [hlay] at hokL
  -- the calls
  have hhead : ∀ W, Touch [] w W → Calls Tryz.prog 149 #[.pointer (some ⟨X.wb, 0, none⟩), .int .i64 s] W fun e w' => e = .returned (.tuple #[.int .i64 hd0, .int .i64 0]) ∧ Touch [] W w' := by
    intro W hT
    have := lhead_ok W l X L cap (hA.touch hT (by simp)) s hs16
    rw [hhe] at this; exact this
  have hput : ∀ W, Calls Tryz.prog 155 #[.agg #[.int .i64 m.due, .int .i64 m.at_, .int .i64 hd0, .int .i64 m.puts]] W fun e w' => e = .returned (.tuple #[.string (bytesOf (markB m1)), .bool true]) ∧ Touch [] W w' := by
    intro W
    have := mput_ok W m.due m.at_ hd0 m.puts hm.1 hm.2.1 (by have := hf1.2.2.1; rw [hm1] at this; exact this) hm.2.2.2
    rw [hm1]; exact this
  have hsz : (bytesOf (markB m1)).size = 20 := by rw [bytesOf_size, markB_len]
  have hms := marksB_size L.marks
  rw [← hn] at hms
  have hwrite : ∀ W, Touch [] w W → Calls Tryz.prog 124 #[.pointer (some ⟨X.d, 0, none⟩), .string marksName, .int .i64 ((n : Int) * 20), .string (bytesOf (markB m1))] W fun e w' => e = .returned (.int .i64 0) ∧
      ∃ F', DiskV w' X.d F' (setV X.V marksName (marksB (L.marks ++ [m1]))) cap (96 + 20 * (n + 1)) (X.q + 1) ∧ Touch X.Fd W w' ∧ Grew W.heap.size X.Fd F' := by
    intro W hT
    have h := writeV_ok (hA.disk.quiet hT) marksName (bytesOf (markB m1)) _ (n * 20) hA.marks (by rw [hms]; omega) (by omega) (by rw [hms, hsz]; omega) (by omega)
    have e1 : laidB (marksB L.marks) (n * 20) (bytesOf (markB m1)) = marksB (L.marks ++ [m1]) := by rw [hn]; exact chunk_push markB_len L.marks m1
    have e2 : 96 + 20 * L.marks.length + (max (marksB L.marks).size (n * 20 + (bytesOf (markB m1)).size) - (marksB L.marks).size) = 96 + 20 * (n + 1) := by rw [hms, hsz]; omega
    have ha : ((n * 20 : Nat) : Int) = (n : Int) * 20 := by omega
    rw [e1, e2, ha] at h
    exact h
  obtain ⟨w0, hw0⟩ : ∃ w0, w0 = w.alloc (.cells #[.int .i64 m.due, .int .i64 m.at_, .int .i64 m.ahead, .int .i64 m.puts] 171) := ⟨_, rfl⟩
  have hT0 : Touch [] w w0 := by rw [hw0]; exact (Touch.refl _ _).alloc _
  have hB0 : w0.heap[w.heap.size]? = some (.cells #[.int .i64 m.due, .int .i64 m.at_, .int .i64 m.ahead, .int .i64 m.puts] 171 (0, 0)) := by rw [hw0]; exact heap_alloc_at _ _
  obtain ⟨B, hB⟩ : ∃ B, B = w.heap.size := ⟨_, rfl⟩
  rw [← hB] at hB0
  have hslot : Calls Tryz.prog 154 #[.int .i64 m.due] w0 fun e w' => e = .returned (.int .i64 s) ∧ w0 = w' := by rw [hs]; exact slot_ok w0 m.due hd
  have HC := Lib.hid (And.intro hhead (And.intro hput (And.intro hwrite hslot)))
  have HX := Lib.hid (And.intro hA (And.intro hs16 (And.intro hokL (And.intro hf1 (And.intro hn (And.intro hXq (And.intro hq (And.intro hlay hcap))))))))
  have H0 := Lib.hid (And.intro hT0 (And.intro hB0 hB))
  have HW0 := Lib.hid hw0
  have HB := Lib.hid hB
  have BN : (n : Int) ≤ 1000000 := by omega
  have x0 := cell_of hB0 0 _ rfl
  rw [hlay]
  clear hhead hput hwrite hslot hA hs16 hokL hf1 hn hXq hq hlay hT0 hB0 hB hw0 hsz hms hle hhle hhe hhx hm1 hm hd hs hcap
  unfold markV
  go_enter Tryz.func98, Tryz.ntmps98
  go_upto_region 1 with fail
  rw [← HW0.out]
  rw [← HB.out]
  go_wp2_with fail
  refine HC.out.2.2.2.mono ?_
  rintro e w' ⟨rfl, rfl⟩
  have hl0 := H0.out.1.heap HX.out.1.cells (by simp)
  have c0 := cell_of hl0 0 _ rfl
  clear hl0
  go_wp2_with fail
  refine (HC.out.1 w0 H0.out.1).mono ?_
  rintro e w1 ⟨rfl, hT1⟩
  have hb1 := hT1.heap H0.out.2.1 (by simp)
  obtain ⟨w2, hw2⟩ : ∃ w2, w2 = w1.setCell ⟨B, 2, none⟩ (.int .i64 hd0) := ⟨_, rfl⟩
  have hT2 : Touch [B] w1 w2 := by rw [hw2]; exact (Touch.refl _ _).setCell _ _ _ _ (by simp)
  have hb2 : w2.heap[B]? = some (.cells #[.int .i64 m.due, .int .i64 m.at_, .int .i64 hd0, .int .i64 m.puts] 171 (0, 0)) := by rw [hw2, heap_setCell_at hb1]; rfl
  have hTw2 : Touch [] w w2 := (H0.out.1.trans' hT1).trans hT2 (fun x hx => by simp at hx; right; have := H0.out.2.2; omega)
  have x2 := cell_of hb1 2 _ rfl
  have f2 := free_of hb1 2
  have H2 := Lib.hid (And.intro hTw2 hb2)
  have HW2 := Lib.hid hw2
  clear x0 c0 hb1 hT1 hT2 hw2 hTw2
  go_upto_region 6 with fail
  rw [← HW2.out]
  clear x2 f2
  have x0 := cell_of hb2 0 _ rfl
  have x1 := cell_of hb2 1 _ rfl
  have x2 := cell_of hb2 2 _ rfl
  have x3 := cell_of hb2 3 _ rfl
  clear hb2
  go_wp2_with fail
  refine (HC.out.2.1 w2).mono ?_
  rintro e w3 ⟨rfl, hT3⟩
  have HT3 := Lib.hid (H2.out.1.trans' hT3)
  clear hT3 x0 x1 x2 x3
  have hl3 := HT3.out.heap HX.out.1.cells (by simp)
  have hw3 := HT3.out.heap HX.out.1.wheel (by simp)
  rw [← HX.out.2.2.2.2.1] at hl3
  have H3 := Lib.hid (And.intro hl3 hw3)
  clear hl3 hw3
  go_upto_region 7 with fail
  refine region_class_mid 13 (fun w' => w'.heap[l]? = some (.cells #[.pointer (some ⟨X.wb, 0, none⟩), .int .i64 (n : Nat)] 168 (0, 0)) ∧ w'.heap[X.wb]? = some (.cells #[.pointer (some ⟨X.d, 0, none⟩), .int .i64 L.hand] 234 (0, 0)) ∧ Touch [] w3 w') (fun w' => ∃ w4 F', Touch [] w3 w4 ∧ DiskV w' X.d F' (setV X.V marksName (marksB (L.marks ++ [m1]))) cap (96 + 20 * (n + 1)) (X.q + 1) ∧ Touch X.Fd w4 w' ∧ Grew w4.heap.size X.Fd F') rfl rfl rfl Tryz.func124 (by kernel_rfl) (by kernel_rfl) (by kernel_rfl) (by kernel_rfl) ⟨H3.out.1, H3.out.2, (Touch.refl [] w3).drew⟩ ?_
  simp only [List.take_succ_cons, List.take_zero, List.drop_succ_cons, List.drop_zero]
  repeat (first | go_big_quiet_skip | (go_big_quiet_want; go_big_quiet_op; first | go_big_quiet_on | (refine Exists.intro _ ⟨fun _ _ => rfl, ?_⟩; go_big_quiet_on) | (refine Exists.intro (.pointer (some ⟨X.wb, 0, none⟩)) (And.intro ?_ ?_); (next => (intro w' hC; have c0 := cell_of hC.out.1 0 _ rfl; rw [c0]; exact ⟨rfl, rfl⟩)); go_big_quiet_on) | (refine Exists.intro (.pointer (some ⟨X.d, 0, none⟩)) (And.intro ?_ ?_); (next => (intro w' hC; have c0 := cell_of hC.out.2.1 0 _ rfl; rw [c0]; exact ⟨rfl, rfl⟩)); go_big_quiet_on) | (refine Exists.intro (.int .i64 (n : Nat)) (And.intro ?_ ?_); (next => (intro w' hC; have c0 := cell_of hC.out.1 1 _ rfl; rw [c0]; exact ⟨rfl, rfl⟩)); go_big_quiet_on)))
  refine wpQuiet_nil ?_
  refine ⟨#[.pointer (some ⟨X.d, 0, none⟩), .string marksName, .int .i64 ((n : Int) * 20), .string (bytesOf (markB m1))], .int .i64 0, by simp [Act.eval, Act.put, marksName]; try omega, fun w4 hC => ?_, ?_⟩
  · refine (HC.out.2.2.1 w4 (HT3.out.trans' hC.2.2)).mono ?_
    rintro e w5 ⟨rfl, F', h1, h2, h3⟩
    exact ⟨rfl, w4, F', hC.2.2, h1, h2, h3⟩
  simp only [Act.put, List.setIfInBounds_toArray, List.set_cons_succ, List.set_cons_zero]
  repeat (first | go_big_quiet_skip | (go_big_quiet_want; go_big_quiet_op; first | go_big_quiet_on | (refine Exists.intro _ ⟨fun _ _ => rfl, ?_⟩; go_big_quiet_on)))
  refine wpQuiet_nil ?_
  rintro w5 ⟨w4, F', hT4, hD5, hT5, hG5⟩
  have hA := HX.out.1
  have hlF : l ∉ X.Fd := hA.apart.2.1
  have hwF : X.wb ∉ X.Fd := hA.apart.2.2
  have hl5 := hT5.heap (hT4.heap H3.out.1 (by simp)) hlF
  have hw5 := hT5.heap (hT4.heap H3.out.2 (by simp)) hwF
  have hT35 : Touch X.Fd w3 w5 := hT4.nil.trans' hT5
  have hG35 : Grew w3.heap.size X.Fd F' := fun b hb => by
    rcases hG5 b hb with h | h
    · exact .inl h
    · right; have := hT4.size; omega
  obtain ⟨w6, hw6⟩ : ∃ w6, w6 = w5.setCell ⟨l, 1, none⟩ (.int .i64 ((n : Int) + 1)) := ⟨_, rfl⟩
  have hT6 : Touch [l] w5 w6 := by rw [hw6]; exact (Touch.refl _ _).setCell _ _ _ _ (by simp)
  have hl6 : w6.heap[l]? = some (.cells #[.pointer (some ⟨X.wb, 0, none⟩), .int .i64 ((n : Int) + 1)] 168 (0, 0)) := by rw [hw6, heap_setCell_at hl5]; rfl
  have hwl : X.wb ∉ [l] := by simp; exact fun e => hA.apart.1 e.symm
  have hw6' := hT6.heap hw5 hwl
  have hlF' : l ∉ F' := hG35.apart (G := [l]) (by simp; exact Nat.lt_of_lt_of_le (lt_of_heap hA.cells) HT3.out.size) (by simpa using hlF) l (by simp)
  have hwF' : X.wb ∉ F' := hG35.apart (G := [X.wb]) (by simp; exact Nat.lt_of_lt_of_le (lt_of_heap hA.wheel) HT3.out.size) (by simpa using hwF) X.wb (by simp)
  have hD6 := hD5.touch hT6 (fun b hb hm => by simp at hm; subst hm; exact hlF' hb)
  have hset : ∀ W, Touch [] w6 W → Calls Tryz.prog 156 #[.pointer (some ⟨X.wb, 0, none⟩), .int .i64 s, .int .i64 ((n : Int) + 1)] W (WSet W X.d F' (setV X.V marksName (marksB (L.marks ++ [m1]))) (L.heads.set s (n + 1)) cap (96 + 20 * (n + 1)) (X.q + 1)) := by
    intro W hT
    have h := wset_ok W X.wb X.d L.hand F' _ cap _ _ (hT.heap hw6' (by simp)) hwF' (hD6.quiet hT) L.heads (by rw [setV_ne _ _ (by decide)]; exact hA.slots) hA.sixteen s (n + 1) HX.out.2.1 (by have := HX.out.2.2.2.2.1; have := hA.disk.le; omega) (by have := HX.out.2.2.2.2.2; omega)
    have e : ((n + 1 : Nat) : Int) = (n : Int) + 1 := by omega
    rw [e] at h; exact h
  have c1 := cell_of hl5 1 _ rfl
  have f1 := free_of hl5 1
  have H6 := Lib.hid (And.intro hl6 (And.intro hw6' (And.intro hT6 (And.intro hT35 (And.intro hG35 (And.intro hlF' hwF'))))))
  have HS := Lib.hid hset
  have HW6 := Lib.hid hw6
  clear hA hlF hwF hl5 hw5 hT35 hG35 hT6 hl6 hwl hw6' hlF' hwF' hD6 hset hD5 hT5 hG5 hT4 hw6
  go_upto_region 11 with fail
  rw [← HW6.out]
  clear c1 f1
  refine region_class_mid 9 (fun w' => w'.heap[l]? = some (.cells #[.pointer (some ⟨X.wb, 0, none⟩), .int .i64 ((n : Int) + 1)] 168 (0, 0)) ∧ Touch [] w6 w') (fun w' => ∃ w7, Touch [] w6 w7 ∧ WSet w7 X.d F' (setV X.V marksName (marksB (L.marks ++ [m1]))) (L.heads.set s (n + 1)) cap (96 + 20 * (n + 1)) (X.q + 1) (.returned (.int .i64 0)) w') rfl rfl rfl Tryz.func156 (by kernel_rfl) (by kernel_rfl) (by kernel_rfl) (by kernel_rfl) ⟨H6.out.1, (Touch.refl [] w6).drew⟩ ?_
  simp only [List.take_succ_cons, List.take_zero, List.drop_succ_cons, List.drop_zero]
  repeat (first | go_big_quiet_skip | (go_big_quiet_want; go_big_quiet_op; first | go_big_quiet_on | (refine Exists.intro _ ⟨fun _ _ => rfl, ?_⟩; go_big_quiet_on) | (refine Exists.intro (.pointer (some ⟨X.wb, 0, none⟩)) (And.intro ?_ ?_); (next => (intro w' hC; have c0 := cell_of hC.out.1 0 _ rfl; rw [c0]; exact ⟨rfl, rfl⟩)); go_big_quiet_on) | (refine Exists.intro (.int .i64 ((n : Int) + 1)) (And.intro ?_ ?_); (next => (intro w' hC; have c0 := cell_of hC.out.1 1 _ rfl; rw [c0]; exact ⟨rfl, rfl⟩)); go_big_quiet_on)))
  refine wpQuiet_nil ?_
  refine ⟨#[.pointer (some ⟨X.wb, 0, none⟩), .int .i64 s, .int .i64 ((n : Int) + 1)], .int .i64 0, by simp [Act.eval, Act.put], fun w7 hC => ?_, ?_⟩
  · refine (HS.out w7 hC.2).mono ?_
    rintro e w8 h8
    obtain ⟨he, -⟩ := id h8
    subst he
    exact ⟨rfl, w7, hC.2, h8⟩
  simp only [Act.put, List.setIfInBounds_toArray, List.set_cons_succ, List.set_cons_zero]
  repeat (first | go_big_quiet_skip | (go_big_quiet_want; go_big_quiet_op; first | go_big_quiet_on | (refine Exists.intro _ ⟨fun _ _ => rfl, ?_⟩; go_big_quiet_on)))
  refine wpQuiet_nil ?_
  rintro w8 ⟨w7, hT7, -, F2, hD8, hT8, hG8⟩
  have HF := Lib.hid (show LogTo w l (l :: X.wb :: X.Fd) { L with heads := L.heads.set s (n + 1), marks := L.marks ++ [m1] } cap (q + 2) w8 from by
    obtain ⟨hA, hs16, hokL, hf1, hn, hXq, hq, hlay, hcap⟩ := HX.out
    obtain ⟨hl6, hw6, hT6, hT35, hG35, hlF', hwF'⟩ := H6.out
    have hT38 : Touch (l :: X.wb :: X.Fd) w3 w8 := by
      refine (((hT35.mono (fun x hx => by simp [hx])).trans' (hT6.mono (by simp))).trans' hT7.nil).trans hT8 (fun x hx => ?_)
      rcases hG35 x hx with h | h
      · left; simp [h]
      · exact .inr h
    have hGG : Grew w.heap.size X.Fd F2 := fun b hb => by
      have h1 := HT3.out.size
      have h2 := hT35.size
      have h3 := hT6.size
      have h4 := hT7.size
      rcases hG8 b hb with h | h
      · rcases hG35 b h with h | h
        · exact .inl h
        · right; omega
      · right; omega
    have hl8 := hT8.heap (hT7.heap hl6 (by simp)) hlF'
    have hw8 := hT8.heap (hT7.heap hw6 (by simp)) hwF'
    have hlen : (L.marks ++ [m1]).length = n + 1 := by rw [List.length_append, ← hn]; rfl
    have hVs : setV (setV X.V marksName (marksB (L.marks ++ [m1]))) slotsName (slotsB (L.heads.set s (n + 1))) slotsName = some (slotsB (L.heads.set s (n + 1))) := setV_at _ _ _
    have hVm : setV (setV X.V marksName (marksB (L.marks ++ [m1]))) slotsName (slotsB (L.heads.set s (n + 1))) marksName = some (marksB (L.marks ++ [m1])) := by
      rw [setV_ne _ _ (by decide), setV_at]
    refine ⟨l :: X.wb :: F2, ⟨{ X with Fd := F2, V := setV (setV X.V marksName (marksB (L.marks ++ [m1]))) slotsName (slotsB (L.heads.set s (n + 1))), q := X.q + 1 + 1 }, ⟨?_, hw8, ?_, hVs, ?_, ⟨hA.apart.1, ?_, ?_⟩, hA.low, hokL.sixteen, hokL.heads, ?_, hokL.ahead⟩, rfl, by show X.q + 1 + 1 ≤ q + 2; omega⟩, HT3.out.nil.trans' hT38, ?_⟩
    · rw [hl8]; simp only [hlen]; rfl
    · simp only [hlen]; exact hD8
    · exact hVm
    · exact hGG.apart (G := [l]) (by simp; exact lt_of_heap hA.cells) (by simpa using hA.apart.2.1) l (by simp)
    · exact hGG.apart (G := [X.wb]) (by simp; exact lt_of_heap hA.wheel) (by simpa using hA.apart.2.2) X.wb (by simp)
    · intro y hy
      rcases List.mem_append.1 hy with h | h
      · exact hA.fine y h
      · simp at h; subst h; exact hf1
    · intro b hb
      simp only [List.mem_cons] at hb ⊢
      rcases hb with rfl | rfl | hb
      · exact .inl (.inl rfl)
      · exact .inl (.inr (.inl rfl))
      · rcases hGG b hb with h | h
        · exact .inl (.inr (.inr h))
        · exact .inr h)
  clear hD8 hT8 hG8 hT7
  go_wp2_with fail
  go_ret
  exact ⟨rfl, HF.out⟩

set_option maxRecDepth 100000 in
set_option maxHeartbeats 2000000 in
theorem put_log_ok (w : World) (l : Nat) (F : List Nat) (L : LogM) (cap q : Nat) (h : LogV w l F L cap q) (due at_ : Nat) (hd : due ≤ 1099511627776) (ha : at_ ≤ 1099511627776) (hlt : L.hand < due) (hcap : 96 + 20 * (L.marks.length + 1) ≤ cap) (hq : q + 2 ≤ 1000000) :
    Calls Tryz.prog 51 #[.pointer (some ⟨l, 0, none⟩), .int .i64 due, .int .i64 at_] w fun e w' => e = .returned (.int .i64 0) ∧ LogTo w l F (layM L ⟨due, at_, 0, 1⟩) cap (q + 2) w' := by
  have hlay := lay_ok w l F L cap q h ⟨due, at_, 0, 1⟩ ⟨by show due < _; omega, by show at_ < _; omega, by show 0 < _; omega, by show 1 < _; omega⟩ hd hcap hq
  have hhand := lhand_ok w l F L cap q h
  have HL := Lib.hid hlay
  have HH := Lib.hid hhand
  have d1 : decide ((due : Int) < 0) = false := by simp
  have d2 : decide (1099511627776 < (due : Int)) = false := by simp; omega
  have d3 : decide ((at_ : Int) < 0) = false := by simp
  have d4 : decide (1099511627776 < (at_ : Int)) = false := by simp; omega
  have d5 : decide ((due : Int) ≤ L.hand) = false := by simp; omega
  clear h hd ha hlt hcap hq hlay hhand
  go_enter Tryz.func51, Tryz.ntmps51
  go_wp2_with fail
  refine HH.out.mono ?_
  rintro e w' ⟨rfl, rfl⟩
  go_wp2_with fail
  refine HL.out.mono ?_
  rintro e w1 ⟨rfl, hto⟩
  have HT := Lib.hid hto
  clear hto
  go_wp2_with fail
  go_ret
  exact ⟨rfl, HT.out⟩
end Go.Proofs.YtljgifbnmgpdbaaGreatDoor

namespace Go.Proofs.YtljgifbnmgpdbaaGreatDoor
open Go Go.RowKit Go.Shelf Go.Lib Go.Sort

instance : Inhabited MarkE := ⟨⟨0, 0, 0, 0⟩⟩

def rev_ren : Go.Shelf.Ren := ⟨fun | 35 => 151 | n => n, fun | 22 => 103 | 23 => 171 | n => n, fun | n => n⟩
theorem rev_lays : Go.Proofs.SlLaysE0.n35 Tryz.prog rev_ren := {
  mixed := by kernel_rfl
  f35 := ⟨Tryz.f151.name, by decide, Tryz.func151.trans (congrArg some (by kernel_rfl))⟩
  t0 := Tryz.underlying0
  a0 := Tryz.isAgg0
  z0 := Tryz.sizeOf0
  v0 := Tryz.zeroValue0
  t3 := Tryz.underlying3
  a3 := Tryz.isAgg3
  z3 := Tryz.sizeOf3
  v3 := Tryz.zeroValue3
  t4 := Tryz.underlying4
  a4 := Tryz.isAgg4
  z4 := Tryz.sizeOf4
  v4 := Tryz.zeroValue4
  t22 := Tryz.underlying103
  a22 := Tryz.isAgg103
  z22 := Tryz.sizeOf103
  v22 := Tryz.zeroValue103 }

theorem flatK_marks (l : List MarkE) : (flatK markC 4 l.toArray).toList = l.flatMap markC := by
  apply List.ext_getElem?
  intro t
  by_cases ht : t < l.length * 4
  · have h1 : t / 4 < l.length := by omega
    have h2 := marks_at l (t / 4) (t % 4) l[t / 4] (List.getElem?_eq_getElem h1) (Nat.mod_lt _ (by omega))
    rw [show t / 4 * 4 + t % 4 = t by omega] at h2
    have h3 := get_flatK markC 4 l.toArray t (by simpa using ht)
    have h4 : t < (flatK markC 4 l.toArray).size := by simpa using ht
    rw [h2, Array.getElem?_toList, Array.getElem?_eq_getElem h4, ← getElem!_pos _ t h4, h3]
    have h5 : l.toArray[t / 4]! = l[t / 4] := by rw [getElem!_pos _ _ (by simpa using h1)]; simp
    rw [h5]
    have h6 : t % 4 < (markC l[t / 4]).length := by simp [markC]; omega
    rw [List.getElem?_eq_getElem h6, getElem!_pos (markC l[t / 4]) (t % 4) h6]
  · rw [List.getElem?_eq_none (by simp; omega), List.getElem?_eq_none (by rw [marks_len]; omega)]

set_option maxRecDepth 100000 in
theorem rev_ok (w : World) (base g cap : Nat) (ms : List MarkE) (h : w.ownsRow base 171 4 (.slice (some ⟨g, 0, none⟩) ms.length cap) ms.length (ms.flatMap markC)) :
    Calls Tryz.prog 151 #[.slice (some ⟨g, 0, none⟩) ms.length cap] w fun e w' => e = .returned (.tuple #[]) ∧ w'.ownsRow base 171 4 (.slice (some ⟨g, 0, none⟩) ms.length cap) ms.length (ms.reverse.flatMap markC) ∧ Touch [g] w w' := by
  obtain ⟨hlen, h2⟩ := h
  rcases h2 with ⟨e, -⟩ | ⟨g', cap', cur, e, hb, hheap, hn, hc, hs, ht⟩
  · cases e
  injection e with e1 e2 e3
  injection e1 with e1
  injection e1 with e1
  subst e1
  subst e3
  have hcl : ms.length * 4 ≤ cur.toList.length := by
    have h1 : cur.toList.length = cur.size := Array.length_toList
    rw [h1, hs]; exact Nat.mul_le_mul_right 4 hn
  have hH : HoldsK markC 4 w g 0 ms.toArray := by
    intro j hj
    have hj' : j < ms.length * 4 := by simpa using hj
    refine ⟨?_, by simp [World.frozen?, hheap]⟩
    have h1 : (flatK markC 4 ms.toArray)[j]? = some ((flatK markC 4 ms.toArray)[j]!) := by rw [Array.getElem?_eq_getElem hj, getElem!_pos (flatK markC 4 ms.toArray) j hj]
    rw [← Array.getElem?_toList, flatK_marks, ← ht, List.getElem?_take_of_lt hj', Array.getElem?_toList] at h1
    simp only [World.cell?, hheap, Nat.zero_add, id]
    exact h1
  have hmax : ms.toArray.size ≤ 9223372036854775807 := by
    have : maxLen = 9223372036854775807 := rfl
    simp; omega
  refine (AnyQ.slices_Reverse rev_lays 4 Tryz.isAgg171 Tryz.sizeOf171 markC (fun _ => rfl) (fun x v hv => by simp [markC] at hv; rcases hv with rfl | rfl | rfl | rfl <;> rfl) g 0 cap ms.toArray w hH hmax).mono ?_
  rintro e w' ⟨rfl, n, rfl⟩
  refine ⟨rfl, ⟨by rw [marks_len]; simp, .inr ⟨g, cap, putCells id 0 (flatK markC 4 ms.toArray.reverse) cur, rfl, hb, ?_, hn, hc, by simp [putCells, hs], ?_⟩⟩, ?_⟩
  · simp [putRowK, putRow, mapBlock, Sort.ahead, Array.getElem?_modify, hheap, onCells]
  · have hrev : flatK markC 4 ms.toArray.reverse = (ms.reverse.flatMap markC).toArray := by
      apply Array.toList_inj.1
      rw [show ms.toArray.reverse = ms.reverse.toArray by simp, flatK_marks]
    rw [hrev]
    apply List.ext_getElem?
    intro j
    by_cases hj : j < ms.length * 4
    · have hl2 : (ms.reverse.flatMap markC).length = ms.length * 4 := by rw [marks_len, List.length_reverse]
      have hjc : j < cur.size := by
        have h1 : cur.toList.length = cur.size := Array.length_toList
        omega
      rw [List.getElem?_take_of_lt hj, Array.getElem?_toList]
      simp [putCells, hjc, hl2, hj]
    · rw [List.getElem?_take_eq_none (by omega), List.getElem?_eq_none (by rw [marks_len]; simp; omega)]
  · refine ⟨rfl, rfl, rfl, by simp [putRowK, putRow, mapBlock, Sort.ahead], fun k hk hne => ?_⟩
    have : g ≠ k := fun e => hne (by rw [e]; simp)
    simp [putRowK, putRow, mapBlock, Sort.ahead, Array.getElem?_modify, this]

theorem rev_none (w : World) (a : Option Addr) (cap : Nat) : Calls Tryz.prog 151 #[.slice a 0 cap] w fun e w' => e = .returned (.tuple #[]) ∧ w' = w :=
  AnyQ.slices_Reverse_empty rev_lays a cap w
end Go.Proofs.YtljgifbnmgpdbaaGreatDoor

namespace Go.Proofs.YtljgifbnmgpdbaaGreatDoor
open Go Go.RowKit

theorem info_mark : (Tryz.prog.info? 171).map (fun i => (i.zero, i.size, i.bytes)) = some (some (.agg #[.int .i64 0, .int .i64 0, .int .i64 0, .int .i64 0]), 4, 32) := by kernel_rfl
theorem owns_low {w : World} {base e size n : Nat} {v : Value} {xs : List Value} (h : w.ownsRow base e size v n xs) : w.ownsRow 0 e size v n xs := by
  obtain ⟨h1, h2⟩ := h
  refine ⟨h1, ?_⟩
  rcases h2 with h | ⟨g, cp, cur, e1, -, rest⟩
  · exact .inl h
  · exact .inr ⟨g, cp, cur, e1, Nat.zero_le _, rest⟩

theorem push_mark {w : World} {ty : TypeId} {v : Value} {base : Nat} {ms : List MarkE} (hown : w.ownsRow base 171 4 v ms.length (ms.flatMap markC)) (hb : base ≤ w.heap.size) (m : MarkE) (hn : ms.length ≤ 10000000) :
    ∃ g cap w', (Builtin.append_ #[103, 103] ty #[v, .slice (some ⟨w.heap.size, 0, none⟩) 1 1]).run Tryz.prog (w.alloc (.cells #[.int .i64 (m.due : Nat), .int .i64 (m.at_ : Nat), .int .i64 (m.ahead : Nat), .int .i64 (m.puts : Nat)] 171)) = .ok (.slice (some ⟨g, 0, none⟩) (ms ++ [m]).length cap) w' ∧
      w'.ownsRow base 171 4 (.slice (some ⟨g, 0, none⟩) (ms ++ [m]).length cap) (ms ++ [m]).length ((ms ++ [m]).flatMap markC) ∧ w.grownBy w' v.ownBlock ∧ (v.ownBlock = some g ∨ w.heap.size ≤ g) ∧ g < w'.heap.size := by
  obtain ⟨g, cap, w', h1, h2, h3, h4, h5⟩ := push_one (P := Tryz.prog) (ty := ty) info_mark Tryz.underlying103 rfl (by omega) (by omega) (owns_low hown) #[.int .i64 (m.due : Nat), .int .i64 (m.at_ : Nat), .int .i64 (m.ahead : Nat), .int .i64 (m.puts : Nat)] rfl (fun u hu => by simp at hu; rcases hu with rfl | rfl | rfl | rfl <;> rfl) hn
  have el : (ms ++ [m]).length = ms.length + 1 := by simp
  have ef : (ms ++ [m]).flatMap markC = ms.flatMap markC ++ (#[Value.int .i64 (m.due : Nat), Value.int .i64 (m.at_ : Nat), Value.int .i64 (m.ahead : Nat), Value.int .i64 (m.puts : Nat)]).toList := by simp [markC]
  refine ⟨g, cap, w', by rw [el]; exact h1, ?_, h3, h4, h5⟩
  rw [el, ef]
  refine ⟨h2.1, ?_⟩
  rcases h2.2 with h | ⟨g', cp, cur, e, -, rest⟩
  · exact .inl h
  · refine .inr ⟨g', cp, cur, e, ?_, rest⟩
    injection e with e1
    injection e1 with e1
    injection e1 with e1
    subst e1
    rcases h4 with h | h
    · exact (hown.lt g h).1
    · omega

/-- Marks in memory of the call's own. -/
def MarksOut (w : World) (ms : List MarkE) (e : Ending) (w' : World) : Prop :=
  ∃ v, e = .returned (.tuple #[v, .int .i64 0]) ∧ w'.ownsRow w.heap.size 171 4 v ms.length (ms.flatMap markC) ∧ Touch [] w w'

set_option maxRecDepth 100000 in
set_option maxHeartbeats 4000000 in
theorem chain_ok (w : World) (l : Nat) (F : List Nat) (L : LogM) (cap q : Nat) (h : LogV w l F L cap q) (s : Nat) (hs : s < 16) (hl : L.marks.length ≤ 1000000) :
    Calls Tryz.prog 90 #[.pointer (some ⟨l, 0, none⟩), .int .i64 s] w (MarksOut w (L.chain s)) := by
  obtain ⟨X, hA, -, -⟩ := h
  have hhead := lhead_ok w l X L cap hA s hs
  obtain ⟨hd0, hhx, hhe, hhle⟩ := hA.head_at hs
  rw [hhe] at hhead
  obtain ⟨K, hK⟩ : ∃ K, K = L.marks.length := ⟨_, rfl⟩
  have hch : L.chain s = (chainN L.marks K hd0).reverse := by unfold LogM.chain; rw [hhe, hK]
  have c0 := cell_of hA.cells 0 _ rfl
  have HX := Lib.hid (And.intro hA (And.intro hK (And.intro hhle hl)))
  have HH := Lib.hid hhead
  have BK : (K : Int) ≤ 1000000 := by omega
  rw [hch]
  have B0 : (hd0 : Int) ≤ 1000000 := by omega
  clear hA hhead hhx hhe hhle hK hch hl hs
  go_enter Tryz.func90, Tryz.ntmps90
  go_wp2_with fail
  refine HH.out.mono ?_
  rintro e w1 ⟨rfl, hT1⟩
  have HT1 := Lib.hid hT1
  clear hT1 c0
  go_wp2_with fail
  go_loopg [6, 7, 8] K (fun k s6 s7 s8 wr => ∃ (n : Nat) (acc : List MarkE) (a : Option Addr) (cp : Nat), n ≤ k ∧ k ≤ K ∧ s6 = .int .i64 n ∧ s7 = .int .i64 0 ∧ s8 = .slice a acc.length cp ∧ acc ++ chainN L.marks K n = chainN L.marks K hd0 ∧ acc.length + n ≤ K ∧
    wr.ownsRow w.heap.size 171 4 (.slice a acc.length cp) acc.length (acc.flatMap markC) ∧ Touch [] w wr)
  case atStart => exact ⟨hd0, [], none, 0, by have := HX.out.2.1; have := HX.out.2.2.1; omega, Nat.le_refl _, by go_num, by go_num, rfl, rfl, by have := HX.out.2.1; have := HX.out.2.2.1; simp; omega, World.ownsRow_nil _ _ _ _, HT1.out⟩
  case round =>
    obtain ⟨n, acc, a, cp, hnk, hkK, rfl, rfl, rfl, heq, hlen, hown, hT⟩ := hrel
    by_cases hn : n = 0
    · subst hn
      rw [chainN_zero, List.append_nil] at heq
      have HO := Lib.hid (And.intro hown hT)
      have HEQ := Lib.hid heq
      clear hown hT heq hnk hlen
      go_wp2_with fail
      have hrev : Calls Tryz.prog 151 #[.slice a acc.length cp] wr fun e w' => e = .returned (.tuple #[]) ∧ w'.ownsRow w.heap.size 171 4 (.slice a acc.length cp) acc.reverse.length (acc.reverse.flatMap markC) ∧ Touch [] w w' := by
        obtain ⟨hown, hT⟩ := HO.out
        cases acc with
        | nil =>
          refine (rev_none wr a cp).mono ?_
          rintro e w' ⟨rfl, rfl⟩
          exact ⟨rfl, hown, hT⟩
        | cons m acc =>
          rcases hown.2 with ⟨-, h0⟩ | ⟨g, cp', cur, e, hb, -⟩
          · simp at h0
          injection e with e1 e2 e3
          subst e1
          have := rev_ok wr w.heap.size g cp (m :: acc) hown
          refine this.mono ?_
          rintro e w' ⟨rfl, ho, hT'⟩
          refine ⟨rfl, by rw [List.length_reverse]; exact ho, hT.trans hT' (fun x hx => ?_)⟩
          simp at hx; subst hx; exact .inr hb
      refine hrev.mono ?_
      rintro e w' ⟨rfl, ho, hT'⟩
      have HF := Lib.hid (And.intro ho hT')
      clear ho hT' hrev
      go_wp2_with fail
      go_ret2
      refine ⟨.slice a acc.length cp, rfl, ?_, HF.out.2⟩
      rw [← HEQ.out]
      exact HF.out.1
    · obtain ⟨i, rfl⟩ : ∃ i, n = i + 1 := ⟨n - 1, by omega⟩
      have hi : i < L.marks.length := by have := HX.out.2.1; omega
      obtain ⟨m, hm⟩ : ∃ m, m = L.marks[i] := ⟨_, rfl⟩
      have hmi : L.marks[i]? = some m := by rw [hm]; exact List.getElem?_eq_getElem hi
      have hA := HX.out.1.touch hT (by simp)
      have hread := readV_ok hA.disk marksName _ hA.marks (i * 20) 20 (by rw [marksB_size]; omega)
      have e20 : (marksB L.marks).extract (i * 20) (i * 20 + 20) = bytesOf (markB m) := chunk_extract markB_len L.marks i m hmi
      have ha : ((i * 20 : Nat) : Int) = (((i + 1 : Nat) : Int) - 1) * 20 := by omega
      rw [e20, ha] at hread
      have hf := hA.fine m (List.mem_of_getElem? hmi)
      have hah := hA.ahead i m hmi
      have hsub : ((i + 1 : Nat) : Int) - 1 = (i : Int) := by omega
      rw [hsub] at hread
      have hnext : acc ++ [m] ++ chainN L.marks K m.ahead = chainN L.marks K hd0 := by
        obtain ⟨K', hK'⟩ : ∃ K', K = K' + 1 := ⟨K - 1, by have := HX.out.2.1; omega⟩
        have h1 : chainN L.marks K (i + 1) = m :: chainN L.marks K m.ahead := by
          conv => lhs; rw [hK']
          rw [chainN_succ _ _ _ _ hmi]
          congr 1
          rw [hK']
          exact (chainN_more hA.ahead K' (K' + 1) m.ahead (by have := HX.out.2.1; omega) (by omega)).symm
        rw [h1] at heq
        rw [← heq]; simp
      have hget := fun W => getMark_ok W m.due m.at_ m.ahead m.puts hf.1 hf.2.1 hf.2.2.1 hf.2.2.2
      have hcl := cell_of hA.cells 0 _ rfl
      have hcw := cell_of hA.wheel 0 _ rfl
      have HR := Lib.hid (And.intro hread hget)
      have HN := Lib.hid (And.intro hnext (And.intro hah (And.intro hown (And.intro hT hlen))))
      have Bi : (i : Int) < 1000000 := by have := HX.out.2.1; omega
      have hd1 : decide (0 < ((i + 1 : Nat) : Int)) = true := decide_eq_true (by omega)
      have hd2 : (((i + 1 : Nat) : Int)) - 1 = i := by omega
      clear hm hmi hread e20 ha hf hah hsub hnext hget hown hT heq hlen hi hA hn
      go_wp2_with fail
      refine HR.out.1.mono ?_
      rintro e w2 ⟨rfl, hT2⟩
      have HT2 := Lib.hid (HN.out.2.2.2.1.trans' hT2)
      have HO2 := Lib.hid (HN.out.2.2.1.kept (w' := w2) (row := none) ⟨hT2.os, hT2.tape, hT2.output, hT2.size, fun k hk _ => hT2.block k hk (by simp)⟩ (by cases a <;> simp [Value.ownBlock]))
      clear hT2 hcl hcw
      go_wp2_with fail
      have hget : Calls Tryz.prog 150 #[.string (bytesOf (markB m))] w2 fun e w' => e = .returned (.tuple #[.agg #[.int .i64 m.due, .int .i64 m.at_, .int .i64 m.ahead, .int .i64 m.puts], .bool true]) ∧ Touch [] w2 w' := HR.out.2 w2
      refine hget.mono ?_
      rintro e w3 ⟨rfl, hT3⟩
      obtain ⟨w4, hw4⟩ : ∃ w4, w4 = w3.alloc (.cells #[.int .i64 m.due, .int .i64 m.at_, .int .i64 m.ahead, .int .i64 m.puts] 171) := ⟨_, rfl⟩
      have hB4 : w4.heap[w3.heap.size]? = some (.cells #[.int .i64 m.due, .int .i64 m.at_, .int .i64 m.ahead, .int .i64 m.puts] 171 (0, 0)) := by rw [hw4]; exact heap_alloc_at _ _
      have hT4 : Touch [] w3 w4 := by rw [hw4]; exact (Touch.refl _ _).alloc _
      have hT24 := hT3.trans' hT4
      have hO4 := HO2.out.kept (w' := w4) (row := none) ⟨hT24.os, hT24.tape, hT24.output, hT24.size, fun k hk _ => hT24.block k hk (by simp)⟩ (by cases a <;> simp [Value.ownBlock])
      have HT4 := Lib.hid (HT2.out.trans' hT24)
      have HW4 := Lib.hid hw4
      obtain ⟨B, hB⟩ : ∃ B, B = w3.heap.size := ⟨_, rfl⟩
      rw [← hB] at hB4
      have HB := Lib.hid hB
      obtain ⟨g5, cp5, w5, hrun, hown5, hgr, hlies, hlt⟩ := push_mark (w := w4) (ty := 103) hO4 HT4.out.size m (by have := HN.out.2.2.2.2; omega)
      have HRUN := Lib.hid hrun
      have H5 := Lib.hid (And.intro hown5 (And.intro hgr hlies))
      have HO4 := Lib.hid hO4
      have hB4l := lt_of_heap hB4
      have hB5 : w5.heap[B]? = some (.cells #[.int .i64 m.due, .int .i64 m.at_, .int .i64 m.ahead, .int .i64 m.puts] 171 (0, 0)) := by
        rw [hgr.block B hB4l (fun e => ?_)]
        · exact hB4
        · have h1 := (HO2.out.lt B e.symm).2
          have h2 := hT3.size
          omega
      have HB5 := Lib.hid hB5
      clear hget hT3 hw4 hT4 hT24 hO4 hB hrun hown5 hgr hlies hlt hB4l hB5
      go_upto_region 10 with fail
      rw [← HW4.out]
      rw [← HB.out]
      have x0 := cell_of hB4 0 _ rfl
      have x1 := cell_of hB4 1 _ rfl
      have x2 := cell_of hB4 2 _ rfl
      have x3 := cell_of hB4 3 _ rfl
      have y2 := cell_of HB5.out 2 _ rfl
      clear hB4
      go_wp2_with (at_builtin; refine wpList_append_run rfl _ _ _ _ rfl rfl rfl HRUN.out ?_)
      go_roundg i
      case measure => omega
      case rel =>
        refine ⟨m.ahead, acc ++ [m], some ⟨g5, 0, none⟩, cp5, HN.out.2.1, by omega, by go_num, by go_num, by simp, HN.out.1, ?_, H5.out.1, ?_⟩
        · have := HN.out.2.2.2.2
          have := HN.out.2.1
          rw [List.length_append]
          show acc.length + 1 + m.ahead ≤ K
          omega
        · refine HT4.out.grown H5.out.2.1 (fun b hb => ?_)
          exact .inr (HO4.out.lt b hb).1

set_option maxRecDepth 100000 in
set_option maxHeartbeats 2000000 in
theorem waits_ok (w : World) (l : Nat) (F : List Nat) (L : LogM) (cap q : Nat) (h : LogV w l F L cap q) (hl : L.marks.length ≤ 1000000) (hw : L.waits ≤ 100000000) :
    Calls Tryz.prog 33 #[.pointer (some ⟨l, 0, none⟩)] w fun e w' => e = .returned (.tuple #[.int .i64 (L.waits : Nat), .int .i64 0]) ∧ Touch [] w w' := by
  have HH := Lib.hid (And.intro h (And.intro hl hw))
  clear h hl hw
  go_enter Tryz.func33, Tryz.ntmps33
  go_wp2_with fail
  go_loopg [8, 4] 16 (fun k s8 s4 wr => ∃ (j n : Nat), j + k = 16 ∧ s8 = .int .i64 j ∧ s4 = .int .i64 n ∧ n = ((List.range j).map fun s => (L.chain s).length).sum ∧ Touch [] w wr)
  case atStart => exact ⟨0, 0, by omega, by go_num, by go_num, by simp, Touch.refl _ _⟩
  case round =>
    obtain ⟨j, n, hj, rfl, rfl, hn, hT⟩ := hrel
    have hpart : ∀ i, i ≤ 16 → ((List.range i).map fun s => (L.chain s).length).sum ≤ L.waits := by
      intro i hi
      unfold LogM.waits
      obtain ⟨d, hd⟩ : ∃ d, i + d = 16 := ⟨16 - i, by omega⟩
      rw [show (16 : Nat) = i + d from hd.symm, List.range_add, List.map_append, List.sum_append]
      omega
    have Bn : (n : Int) ≤ 100000000 := by
      have := hpart j (by omega)
      have := HH.out.2.2
      omega
    by_cases hj16 : j < 16
    · have hd : decide ((j : Int) < 16) = true := by simp; omega
      have hsucc : ((List.range (j + 1)).map fun s => (L.chain s).length).sum = n + (L.chain j).length := by
        rw [List.range_succ, List.map_append, List.sum_append, ← hn]; simp
      have Bc : ((L.chain j).length : Int) ≤ 100000000 := by
        have := hpart (j + 1) (by omega)
        have := HH.out.2.2
        omega
      have hch := chain_ok wr l F L cap q (HH.out.1.quiet hT) j hj16 HH.out.2.1
      have HC := Lib.hid hch
      have HT := Lib.hid hT
      have HN := Lib.hid hsucc
      obtain ⟨c, hc⟩ : ∃ c, c = (L.chain j).length := ⟨_, rfl⟩
      rw [← hc] at Bc
      have HCC := Lib.hid hc
      have Bj : (j : Int) < 16 := by omega
      clear hpart hn hT hch hsucc hc
      go_wp2_with fail
      refine HC.out.mono ?_
      rintro e w2 ⟨v, rfl, hown, hT2⟩
      obtain ⟨a, cp, rfl, -⟩ := ownsRow_form hown
      have HT2 := Lib.hid (HT.out.trans' hT2)
      rw [← HCC.out] at hown ⊢
      clear hown hT2
      go_wp2_with fail
      go_roundg (16 - (j + 1))
      case measure => omega
      case rel => exact ⟨j + 1, n + c, by omega, by go_num, by go_num, by rw [HN.out, HCC.out], HT2.out⟩
    · have hd : decide ((j : Int) < 16) = false := by simp; omega
      have hj2 : j = 16 := by omega
      have hfin : n = L.waits := by rw [hn, hj2]; rfl
      have HT := Lib.hid (And.intro hT hfin)
      clear hpart hn hT hfin hj2
      go_wp2_with fail
      go_ret2
      exact ⟨by rw [← HT.out.2]; rfl, HT.out.1⟩
end Go.Proofs.YtljgifbnmgpdbaaGreatDoor

namespace Go.Proofs.YtljgifbnmgpdbaaGreatDoor
open Go Go.RowKit

/-- What a look at a scheduled record does. -/
def lookM (P : PendM) (st : LogM × List Int) (p : Nat × MsgM) : LogM × List Int :=
  if (pendGet P (p.1 : Nat)).1 ≠ 1 then st else if p.2.due ≤ st.1.hand then (st.1, st.2 ++ [((p.1 : Nat) : Int)]) else (layM st.1 ⟨p.2.due.toNat, p.1, 0, 1⟩, st.2)

theorem EnqTo.before {w w0 w' : World} {q : Nat} {X : DeqX} {M : TapeM} {P : PendM} {L : LogM} {cur : Int} {late : List Int} (hT : Touch [] w w0) (h : EnqTo w0 q X M P L cur late w') : EnqTo w q X M P L cur late w' := by
  obtain ⟨X', h1, e1, e2, e3, e4, e5, hT1, hg⟩ := h
  refine ⟨X', h1, e1, e2, e3, e4, e5, hT.nil.trans' hT1, fun a ha b hb => ?_⟩
  rcases hg a ha b hb with h | h
  · exact .inl h
  · right; have := hT.size; omega

theorem EnqTo.same {w w' : World} {q : Nat} {X : DeqX} {M : TapeM} {P : PendM} {L : LogM} {cur : Int} {late : List Int} (h : EnqAt w q X M P L cur late) (hT : Touch [] w w') : EnqTo w q X M P L cur late w' :=
  ⟨X, h.quiet hT, rfl, rfl, rfl, rfl, rfl, hT.nil, fun a ha b hb => .inl (mem_flat ha hb)⟩

theorem EnqTo.trans {w w1 w2 : World} {q : Nat} {X X1 : DeqX} {M : TapeM} {P : PendM} {L : LogM} {cur : Int} {late : List Int}
    (hg : ∀ a ∈ deqParts q X1, ∀ b ∈ a, b ∈ (deqParts q X).flatten ∨ w.heap.size ≤ b) (hT : Touch (deqParts q X).flatten w w1) (e : X1.t = X.t ∧ X1.s = X.s ∧ X1.l = X.l ∧ X1.cap = X.cap ∧ X1.capL = X.capL)
    (h2 : EnqTo w1 q X1 M P L cur late w2) : EnqTo w q X M P L cur late w2 := by
  obtain ⟨X2, h, a1, a2, a3, a4, a5, hT2, hg2⟩ := h2
  obtain ⟨b1, b2, b3, b4, b5⟩ := e
  refine ⟨X2, h, a1.trans b1, a2.trans b2, a3.trans b3, a4.trans b4, a5.trans b5, hT.trans hT2 (fun x hx => ?_), fun a ha b hb => ?_⟩
  · obtain ⟨a, ha, hx⟩ := List.mem_flatten.1 hx
    exact hg a ha x hx
  · rcases hg2 a ha b hb with h3 | h3
    · obtain ⟨a', ha', hx⟩ := List.mem_flatten.1 h3
      exact hg a' ha' b hx
    · right; have := hT.size; omega

theorem enq_logto {w0 w' : World} {q : Nat} {X : DeqX} {M : TapeM} {P : PendM} {L L' : LogM} {cur : Int} {late : List Int} {k : Nat} (h : EnqAt w0 q X M P L cur late) (hl : LogTo w0 X.l X.Fl L' X.capL k w') (hp : k + L'.waits ≤ 3 + 3 * L'.marks.length) : EnqTo w0 q X M P L' cur late w' := by
  obtain ⟨F', h1, h2, h3⟩ := hl
  obtain ⟨h4, h5⟩ := enq_log h h1 h2 h3 hp
  exact ⟨_, h4, rfl, rfl, rfl, rfl, rfl, h2.mono fun x hx => mem_flat (a := X.Fl) (by simp [deqParts]) hx, h5⟩

theorem lay_pot {L : LogM} (h : LogOk L) {k : Nat} (hp : k + L.waits ≤ 3 + 3 * L.marks.length) (m : MarkE) : k + 2 + (layM L m).waits ≤ 3 + 3 * (layM L m).marks.length := by
  rw [waits_lay h]
  simp only [layM, List.length_append, List.length_cons, List.length_nil]
  omega

set_option maxRecDepth 100000 in
set_option maxHeartbeats 2000000 in
theorem enqlook_ok (w : World) (q : Nat) (X : DeqX) (M : TapeM) (P : PendM) (L : LogM) (cur : Int) (late : List Int) (h : EnqAt w q X M P L cur late) (id : Nat) (m : MsgM) (hd0 : 0 ≤ m.due) (hd1 : m.due ≤ 1099511627776) (hid : id ≤ 16777216) (a : Option Addr) (n cp : Nat)
    (hl : late.length ≤ 1000000) (hm : L.marks.length ≤ 100000) :
    Calls Tryz.prog 89 #[.pointer (some ⟨q, 0, none⟩), .int .i64 id, msgV m (.slice a n cp)] w fun e w' => e = .returned (.int .i64 0) ∧ EnqTo w q X M P (lookM P (L, late) (id, m)).1 cur (lookM P (L, late) (id, m)).2 w' := by
  obtain ⟨w0, hw0⟩ : ∃ w0, w0 = w.alloc (msgObj m (.slice a n cp)) := ⟨_, rfl⟩
  have hT0 : Touch [] w w0 := by rw [hw0]; exact (Touch.refl _ _).alloc _
  have hB0 : w0.heap[w.heap.size]? = some (msgObj m (.slice a n cp)) := by rw [hw0]; exact heap_alloc_at _ _
  obtain ⟨B, hB⟩ : ∃ B, B = w.heap.size := ⟨_, rfl⟩
  rw [← hB] at hB0
  have h0 := h.quiet hT0
  have hst := pstate_ok w0 _ _ _ h0.pend (id : Nat)
  obtain ⟨st, hst'⟩ : ∃ st, st = (pendGet P (id : Nat)).1 := ⟨_, rfl⟩
  rw [← hst'] at hst
  have hhand := fun (W : World) (hT : Touch [] w0 W) => lhand_ok W _ _ _ _ _ (h0.quiet hT).log
  unfold msgObj at hw0 hB0
  have HW0 := Lib.hid hw0
  have HC := Lib.hid (And.intro hst hhand)
  have HX := Lib.hid (And.intro h0 (And.intro hT0 (And.intro hB0 (And.intro hst' (And.intro hl hm)))))
  have HB := Lib.hid hB
  have HD := Lib.hid (And.intro hd0 (And.intro hd1 hid))
  have hq := h0.cells
  have c1 := cell_of hq 1 _ rfl
  clear h hw0 hst hhand h0 hT0 hB0 hst' hl hm hB hd0 hd1 hid hq
  unfold msgV
  go_enter Tryz.func89, Tryz.ntmps89
  go_upto_region 1 with fail
  rw [← HW0.out]
  rw [← HB.out]
  by_cases hs1 : st = 1
  · have e1 : (st != 1) = false := by simp [hs1]
    have e2 : (st == 1) = true := by simp [hs1]
    have e3 : decide (st = 1) = true := by simp [hs1]
    go_wp2_with fail
    refine HC.out.1.mono ?_
    rintro e w' ⟨rfl, rfl⟩
    clear c1
    by_cases hdue : m.due ≤ L.hand
    · have g1 : decide (m.due ≤ L.hand) = true := by simp [hdue]
      have hlk : lookM P (L, late) (id, m) = (L, late ++ [((id : Nat) : Int)]) := by
        unfold lookM
        rw [if_neg (by show ¬ (pendGet P (id : Nat)).1 ≠ 1; rw [← HX.out.2.2.2.1]; simp [hs1]), if_pos hdue]
      have HL := Lib.hid hlk
      clear hlk
      go_upto_region 3 with fail
      refine region_class (fun w' => w'.heap[q]? = some (.cells #[.pointer (some ⟨X.t, 0, none⟩), .pointer (some ⟨X.s, 0, none⟩), .pointer (some ⟨X.l, 0, none⟩), .int .i64 cur, X.sv] 158 (0, 0)) ∧ w'.heap[B]? = some (.cells #[.int .i64 m.kind, .int .i64 m.queue, .int .i64 m.due, .int .i64 m.retry, .int .i64 m.ref, .int .i64 m.born, .string m.topic, .string m.tag, .string m.body, .slice a n cp] 46 (0, 0)) ∧ Touch [] w0 w') (by kernel_rfl) (by kernel_rfl) ⟨HX.out.1.cells, HX.out.2.2.1, (Touch.refl [] w0).drew⟩ ?_
      repeat (first | go_big_quiet_skip | (go_big_quiet_want; go_big_quiet_op; first | go_big_quiet_on | (refine Exists.intro _ ⟨fun _ _ => rfl, ?_⟩; go_big_quiet_on) | (refine Exists.intro _ ⟨fun w' hC => by (first | rw [hC.out.1] | rw [hC.out.2.1] | rw [hC.out.2.2.1] | rw [hC.out.2.2.2.1]); exact ⟨rfl, rfl⟩, ?_⟩; go_big_quiet_on) | (refine Exists.intro (.int .i64 m.due) (And.intro ?_ ?_); (next => (intro w' hC; have c0 := cell_of hC.out.2.1 2 _ rfl; rw [c0]; exact ⟨rfl, rfl⟩)); go_big_quiet_on) | (refine Exists.intro (.pointer (some ⟨X.l, 0, none⟩)) (And.intro ?_ ?_); (next => (intro w' hC; have c0 := cell_of hC.out.1 2 _ rfl; rw [c0]; exact ⟨rfl, rfl⟩)); go_big_quiet_on) | (refine Exists.intro _ ⟨fun w' hC => (HC.out.2 w' hC.out.2.2).mono fun e w2 hh => ⟨hh.1, by rw [← hh.2]; exact hC.out⟩, ?_⟩; go_big_quiet_on)))
      refine wpQuiet_nil ?_
      rintro w3 ⟨hq3, hB3, hT3⟩
      have h3 := HX.out.1.quiet hT3
      obtain ⟨w4, hw4⟩ : ∃ w4, w4 = w3.alloc (.cells #[.int .i64 id] 3) := ⟨_, rfl⟩
      have hT4 : Touch [] w3 w4 := by rw [hw4]; exact (Touch.refl _ _).alloc _
      have h4 := h3.quiet hT4
      obtain ⟨v', w5, hrun, hmade⟩ := ints_append (w := w4) (ty := 43) h4.row (by rw [hw4]; exact ints_one w3 id) (by simp; have := HX.out.2.2.2.2.1; omega)
      obtain ⟨a', n', rfl⟩ := hmade.1.form
      have hfin := EnqTo.before (HX.out.2.1.trans' (hT3.trans' hT4)) (enq_row h4 hmade)
      have hqo : q ∉ X.sv.ownBlock.toList := h4.sep 0 1 (by decide) rfl rfl q (by simp)
      have hc5 := hmade.2.1.heap h4.cells hqo
      obtain ⟨a2, cp2, hsv⟩ := h4.row.form
      rw [hsv] at hrun hq3 hc5
      have c4 := cell_of hq3 4 _ rfl
      have k4 := cell_of hc5 4 _ rfl
      have f4 := free_of hc5 4
      rw [hw4] at hrun
      have HR := Lib.hid hrun
      have HF := Lib.hid hfin
      clear hrun hmade hfin hqo hc5 h3 hw4 hT4 h4 hsv hq3 hB3 hT3
      go_wp2_with (at_builtin; refine wpList_append_run rfl _ _ _ _ rfl rfl rfl HR.out ?_)
      go_ret
      rw [HL.out]
      have hF := HF.out
      rw [List.length_append] at hF
      exact ⟨rfl, hF⟩
    · have g1 : decide (m.due ≤ L.hand) = false := by simp [hdue]
      have hdn : ((m.due.toNat : Nat) : Int) = m.due := Int.toNat_of_nonneg HD.out.1
      have hlk : lookM P (L, late) (id, m) = (layM L ⟨m.due.toNat, id, 0, 1⟩, late) := by
        unfold lookM
        rw [if_neg (by show ¬ (pendGet P (id : Nat)).1 ≠ 1; rw [← HX.out.2.2.2.1]; simp [hs1]), if_neg hdue]
      obtain ⟨L2, hL2⟩ : ∃ L2, L2 = layM L ⟨m.due.toNat, id, 0, 1⟩ := ⟨_, rfl⟩
      rw [← hL2] at hlk
      have hput : ∀ W, Touch [] w0 W → Calls Tryz.prog 51 #[.pointer (some ⟨X.l, 0, none⟩), .int .i64 m.due, .int .i64 id] W fun e w' => e = .returned (.int .i64 0) ∧ LogTo W X.l X.Fl L2 X.capL (X.ql + 2) w' := by
        intro W hT
        have hx := HX.out.1
        have hp := hx.pot
        have hm := HX.out.2.2.2.2.2
        have := put_log_ok W X.l X.Fl L X.capL X.ql (hx.quiet hT).log m.due.toNat id (by have := HD.out.2.1; omega) (by have := HD.out.2.2; omega) (by omega) (by rw [hx.capL]; omega) (by omega)
        rw [hdn, ← hL2] at this
        exact this
      have hpot : X.ql + 2 + L2.waits ≤ 3 + 3 * L2.marks.length := by rw [hL2]; exact lay_pot HX.out.1.log.ok HX.out.1.pot _
      have HL := Lib.hid hlk
      have HP := Lib.hid (And.intro hput hpot)
      clear hlk hL2 hput hpot hdn
      go_upto_region 3 with fail
      refine region_class (fun w' => w'.heap[q]? = some (.cells #[.pointer (some ⟨X.t, 0, none⟩), .pointer (some ⟨X.s, 0, none⟩), .pointer (some ⟨X.l, 0, none⟩), .int .i64 cur, X.sv] 158 (0, 0)) ∧ w'.heap[B]? = some (.cells #[.int .i64 m.kind, .int .i64 m.queue, .int .i64 m.due, .int .i64 m.retry, .int .i64 m.ref, .int .i64 m.born, .string m.topic, .string m.tag, .string m.body, .slice a n cp] 46 (0, 0)) ∧ Touch [] w0 w') (by kernel_rfl) (by kernel_rfl) ⟨HX.out.1.cells, HX.out.2.2.1, (Touch.refl [] w0).drew⟩ ?_
      repeat (first | go_big_quiet_skip | (go_big_quiet_want; go_big_quiet_op; first | go_big_quiet_on | (refine Exists.intro _ ⟨fun _ _ => rfl, ?_⟩; go_big_quiet_on) | (refine Exists.intro _ ⟨fun w' hC => by (first | rw [hC.out.1] | rw [hC.out.2.1] | rw [hC.out.2.2.1] | rw [hC.out.2.2.2.1]); exact ⟨rfl, rfl⟩, ?_⟩; go_big_quiet_on) | (refine Exists.intro (.int .i64 m.due) (And.intro ?_ ?_); (next => (intro w' hC; have c0 := cell_of hC.out.2.1 2 _ rfl; rw [c0]; exact ⟨rfl, rfl⟩)); go_big_quiet_on) | (refine Exists.intro (.pointer (some ⟨X.l, 0, none⟩)) (And.intro ?_ ?_); (next => (intro w' hC; have c0 := cell_of hC.out.1 2 _ rfl; rw [c0]; exact ⟨rfl, rfl⟩)); go_big_quiet_on) | (refine Exists.intro _ ⟨fun w' hC => (HC.out.2 w' hC.out.2.2).mono fun e w2 hh => ⟨hh.1, by rw [← hh.2]; exact hC.out⟩, ?_⟩; go_big_quiet_on)))
      refine wpQuiet_nil ?_
      rintro w3 ⟨hq3, hB3, hT3⟩
      have H3 := Lib.hid (And.intro hq3 (And.intro hB3 hT3))
      clear hq3 hB3 hT3
      go_upto_region 6 with fail
      refine region_class_mid 7 (fun w' => w'.heap[q]? = some (.cells #[.pointer (some ⟨X.t, 0, none⟩), .pointer (some ⟨X.s, 0, none⟩), .pointer (some ⟨X.l, 0, none⟩), .int .i64 cur, X.sv] 158 (0, 0)) ∧ w'.heap[B]? = some (.cells #[.int .i64 m.kind, .int .i64 m.queue, .int .i64 m.due, .int .i64 m.retry, .int .i64 m.ref, .int .i64 m.born, .string m.topic, .string m.tag, .string m.body, .slice a n cp] 46 (0, 0)) ∧ Touch [] w0 w') (fun w' => ∃ w5, Touch [] w0 w5 ∧ LogTo w5 X.l X.Fl L2 X.capL (X.ql + 2) w') rfl rfl rfl Tryz.func51 (by kernel_rfl) (by kernel_rfl) (by kernel_rfl) (by kernel_rfl) ⟨H3.out.1, H3.out.2.1, H3.out.2.2.drew⟩ ?_
      simp only [List.take_succ_cons, List.take_zero, List.drop_succ_cons, List.drop_zero]
      repeat (first | go_big_quiet_skip | (go_big_quiet_want; go_big_quiet_op; first | go_big_quiet_on | (refine Exists.intro _ ⟨fun _ _ => rfl, ?_⟩; go_big_quiet_on) | (refine Exists.intro (.int .i64 m.due) (And.intro ?_ ?_); (next => (intro w' hC; have c0 := cell_of hC.out.2.1 2 _ rfl; rw [c0]; exact ⟨rfl, rfl⟩)); go_big_quiet_on) | (refine Exists.intro (.pointer (some ⟨X.l, 0, none⟩)) (And.intro ?_ ?_); (next => (intro w' hC; have c0 := cell_of hC.out.1 2 _ rfl; rw [c0]; exact ⟨rfl, rfl⟩)); go_big_quiet_on)))
      refine wpQuiet_nil ?_
      refine ⟨#[.pointer (some ⟨X.l, 0, none⟩), .int .i64 m.due, .int .i64 id], .int .i64 0, by simp [Act.eval, Act.put], fun w5 hC => ?_, ?_⟩
      · refine (HP.out.1 w5 hC.2.2).mono ?_
        rintro e w6 ⟨rfl, hlt⟩
        exact ⟨rfl, w5, hC.2.2, hlt⟩
      simp only [Act.put, List.setIfInBounds_toArray, List.set_cons_succ, List.set_cons_zero]
      repeat (first | go_big_quiet_skip | (go_big_quiet_want; go_big_quiet_op; first | go_big_quiet_on | (refine Exists.intro _ ⟨fun _ _ => rfl, ?_⟩; go_big_quiet_on)))
      refine wpQuiet_nil ?_
      rintro w6 ⟨w5, hT5, hlt⟩
      have HF := Lib.hid (EnqTo.before (HX.out.2.1.trans' hT5) (enq_logto (HX.out.1.quiet hT5) hlt HP.out.2))
      clear hT5 hlt
      go_wp2_with fail
      go_ret
      rw [HL.out]
      exact ⟨rfl, HF.out⟩
  · have e1 : (st != 1) = true := by simp [hs1]
    have e2 : (st == 1) = false := by simp [hs1]
    have e3 : decide (st = 1) = false := by simp [hs1]
    have hlk : lookM P (L, late) (id, m) = (L, late) := by unfold lookM; rw [if_pos (by show (pendGet P (id : Nat)).1 ≠ 1; rw [← HX.out.2.2.2.1]; exact hs1)]
    have HL := Lib.hid hlk
    clear hlk
    go_wp2_with fail
    refine HC.out.1.mono ?_
    rintro e w' ⟨rfl, rfl⟩
    go_wp2_with fail
    go_ret
    rw [HL.out]
    exact ⟨rfl, EnqTo.before HX.out.2.1 (EnqTo.same HX.out.1 (Touch.refl _ _))⟩
end Go.Proofs.YtljgifbnmgpdbaaGreatDoor

namespace Go.Proofs.YtljgifbnmgpdbaaGreatDoor
open Go Go.RowKit

theorem sched_cons {M : TapeM} {j : Nat} {p : Nat × MsgM} {rest : List (Nat × MsgM)} (h : M.sched j = p :: rest) : ∃ i, j ≤ i ∧ M.recs[i]? = some p ∧ M.sched (i + 1) = rest ∧ p ∈ M.recs ∧ p.2.kind = 2 ∧ p.1 < M.synced := by
  unfold TapeM.sched at h
  rw [List.filter_eq_cons_iff] at h
  obtain ⟨l1, l2, hl, -, hp, hr⟩ := h
  have hi : M.recs[j + l1.length]? = some p := by
    rw [← List.getElem?_drop, hl, List.getElem?_append_right (Nat.le_refl _)]; simp
  refine ⟨j + l1.length, Nat.le_add_right _ _, hi, ?_, List.mem_of_getElem? hi, ?_, ?_⟩
  · unfold TapeM.sched
    rw [show j + l1.length + 1 = j + (l1.length + 1) by omega, ← List.drop_drop, hl, ← hr]
    simp
  · simp at hp; exact hp.2
  · simp at hp; exact hp.1

theorem sched_next {M : TapeM} (hs : Stand M.recs) {j : Nat} {p : Nat × MsgM} {rest : List (Nat × MsgM)} (h : M.sched j = p :: rest) : M.sched (M.place ((p.1 + recSize p.2 : Nat) : Int)) = rest := by
  obtain ⟨i, -, hi, hr, -⟩ := sched_cons h
  rw [place_behind hs hi]; exact hr

theorem enq_cur_to {w : World} {q : Nat} {X : DeqX} {M : TapeM} {P : PendM} {L : LogM} {cur : Int} {late : List Int} (h : EnqAt w q X M P L cur late) (c : Int) : EnqTo w q X M P L c late (w.setCell ⟨q, 3, none⟩ (.int .i64 c)) := by
  obtain ⟨h1, hT⟩ := enq_cur h c
  exact ⟨X, h1, rfl, rfl, rfl, rfl, rfl, hT.mono fun x hx => mem_flat (a := [q]) (by simp [deqParts]) hx, fun a ha b hb => .inl (mem_flat ha hb)⟩

set_option maxRecDepth 100000 in
set_option maxHeartbeats 2000000 in
theorem enqstep_end (w : World) (q : Nat) (X : DeqX) (M : TapeM) (P : PendM) (L : LogM) (cur : Int) (late : List Int) (h : EnqAt w q X M P L cur late) (hg : Glob w) (hl : M.recs.length ≤ 200000) (hS : M.sched (M.place cur) = []) :
    Calls Tryz.prog 32 #[.pointer (some ⟨q, 0, none⟩)] w fun e w' => e = .returned (.tuple #[.bool false, .int .i64 0]) ∧ Touch [] w w' := by
  have hn := enqnext_ok w q X M P L cur late h hg hl cur
  rw [hS] at hn
  have hn : Calls Tryz.prog 88 #[.pointer (some ⟨q, 0, none⟩), .int .i64 cur] w fun e w' => e = .returned (.tuple #[.int .i64 0, .agg #[.int .i64 0, .int .i64 0, .int .i64 0, .int .i64 0, .int .i64 0, .int .i64 0, .string ⟨#[]⟩, .string ⟨#[]⟩, .string ⟨#[]⟩, .slice none 0 0], .bool false]) ∧ Touch [] w w' := hn
  have c3 := cell_of h.cells 3 _ rfl
  have HN := Lib.hid hn
  clear h hg hl hS hn
  go_enter Tryz.func32, Tryz.ntmps32
  go_wp2_with fail
  refine HN.out.mono ?_
  rintro e w1 ⟨rfl, hT1⟩
  have HT := Lib.hid hT1
  clear hT1 c3
  go_wp2_with fail
  go_ret2
  exact ⟨rfl, HT.out.alloc _⟩

def Stepped (w : World) (q : Nat) (X : DeqX) (M : TapeM) (P : PendM) (L : LogM) (late : List Int) (p : Nat × MsgM) (e : Ending) (w' : World) : Prop :=
  e = .returned (.tuple #[.bool true, .int .i64 0]) ∧ EnqTo w q X M P (lookM P (L, late) p).1 ((p.1 + recSize p.2 : Nat) : Int) (lookM P (L, late) p).2 w'

set_option maxRecDepth 100000 in
set_option maxHeartbeats 2000000 in
theorem enqstep_go (w : World) (q : Nat) (X : DeqX) (M : TapeM) (P : PendM) (L : LogM) (cur : Int) (late : List Int) (h : EnqAt w q X M P L cur late) (hg : Glob w) (hl : M.recs.length ≤ 200000) (id : Nat) (m : MsgM) (rest : List (Nat × MsgM)) (hS : M.sched (M.place cur) = (id, m) :: rest)
    (hll : late.length ≤ 1000000) (hm : L.marks.length ≤ 100000) :
    Calls Tryz.prog 32 #[.pointer (some ⟨q, 0, none⟩)] w (Stepped w q X M P L late (id, m)) := by
  obtain ⟨i, -, hi, -, hmem, hk, -⟩ := sched_cons hS
  have hn := enqnext_ok w q X M P L cur late h hg hl cur
  rw [hS] at hn
  have hrt := h.tape.rights (id, m) hmem
  have hf := right_facts hrt.1
  have hle := h.tape.le
  have hidl : id + recSize m ≤ 16777216 := by have := hrt.2; simp only at this; omega
  have hsz : M.sizeAt (id : Nat) = recSize m := size_of_stand h.tape.stand hmem
  have c3 := cell_of h.cells 3 _ rfl
  have HN := Lib.hid hn
  have HX := Lib.hid (And.intro h (And.intro hll (And.intro hm (And.intro hf.due0 (And.intro hf.due (And.intro hidl hsz))))))
  obtain ⟨n, hn'⟩ : ∃ n, n = recSize m := ⟨_, rfl⟩
  have HSZ := Lib.hid hn'
  have Bn : (id : Int) + n ≤ 16777216 := by omega
  clear h hg hl hS hn hi hmem hk hrt hf hle hidl hsz hn' hll hm
  go_enter Tryz.func32, Tryz.ntmps32
  go_wp2_with fail
  refine HN.out.mono ?_
  rintro e w1 ⟨kv, rfl, hks, hfr, hT1⟩
  obtain ⟨a', cp', rfl, hstr⟩ := hks
  simp only at hstr hfr ⊢
  obtain ⟨w2, hw2⟩ : ∃ w2, w2 = w1.alloc (msgObj m (.slice a' m.keys.length cp')) := ⟨_, rfl⟩
  have hT2 : Touch [] w1 w2 := by rw [hw2]; exact (Touch.refl _ _).alloc _
  have hB2 : w2.heap[w1.heap.size]? = some (msgObj m (.slice a' m.keys.length cp')) := by rw [hw2]; exact heap_alloc_at _ _
  have hTw := hT1.trans' hT2
  have hlook := enqlook_ok w2 q X M P L cur late (HX.out.1.quiet hTw) id m HX.out.2.2.2.1 HX.out.2.2.2.2.1 (by have := HX.out.2.2.2.2.2.1; omega) a' m.keys.length cp' HX.out.2.1 HX.out.2.2.1
  unfold msgV at hlook
  unfold msgObj at hw2 hB2
  have HW2 := Lib.hid hw2
  have HL := Lib.hid hlook
  have HT2 := Lib.hid hTw
  clear c3 hw2 hlook hT1 hT2 hTw hstr hfr
  unfold msgV
  go_upto_region 4 with fail
  rw [← HW2.out]
  have x0 := cell_of hB2 0 _ rfl
  have x1 := cell_of hB2 1 _ rfl
  have x2 := cell_of hB2 2 _ rfl
  have x3 := cell_of hB2 3 _ rfl
  have x4 := cell_of hB2 4 _ rfl
  have x5 := cell_of hB2 5 _ rfl
  have x6 := cell_of hB2 6 _ rfl
  have x7 := cell_of hB2 7 _ rfl
  have x8 := cell_of hB2 8 _ rfl
  have x9 := cell_of hB2 9 _ rfl
  clear hB2
  go_wp2_with fail
  refine HL.out.mono ?_
  rintro e w3 ⟨rfl, X1, h1, e1, e2, e3, e4, e5, hT3, hg3⟩
  clear x0 x1 x2 x3 x4 x5 x6 x7 x8 x9
  have c0 := cell_of h1.cells 0 _ rfl
  have c3 := cell_of h1.cells 3 _ rfl
  have f3 := free_of h1.cells 3
  have hsz := tsize_ok w3 _ _ _ _ h1.tape (id : Nat)
  rw [HX.out.2.2.2.2.2.2, ← HSZ.out] at hsz
  have hfin := EnqTo.before HT2.out (EnqTo.trans hg3 hT3 ⟨e1, e2, e3, e4, e5⟩ (enq_cur_to h1 ((id + n : Nat) : Int)))
  have ha : ((id + n : Nat) : Int) = (id : Int) + n := by omega
  rw [ha] at hfin
  have HS := Lib.hid hsz
  have HF := Lib.hid hfin
  clear hsz hfin ha h1 e1 e2 e3 e4 e5 hT3 hg3
  go_wp2_with fail
  refine HS.out.mono ?_
  rintro e w' ⟨rfl, rfl⟩
  go_wp2_with fail
  go_ret2
  refine ⟨rfl, ?_⟩
  have hF := HF.out
  have ha : (((id, m).1 + recSize (id, m).2 : Nat) : Int) = (id : Int) + n := by rw [HSZ.out]; show ((id + recSize m : Nat) : Int) = _; omega
  rw [ha]
  exact hF
end Go.Proofs.YtljgifbnmgpdbaaGreatDoor

namespace Go.Proofs.YtljgifbnmgpdbaaGreatDoor
open Go Go.RowKit

/-- All looks, one behind the other. -/
def runM (P : PendM) (S : List (Nat × MsgM)) (st : LogM × List Int) : LogM × List Int := S.foldl (lookM P) st
/-- Where the cursor stands behind them. -/
def curM (S : List (Nat × MsgM)) (cur : Int) : Int := S.foldl (fun _ p => ((p.1 + recSize p.2 : Nat) : Int)) cur

theorem look_len (P : PendM) (L : LogM) (late : List Int) (p : Nat × MsgM) : (lookM P (L, late) p).2.length ≤ late.length + 1 ∧ (lookM P (L, late) p).1.marks.length ≤ L.marks.length + 1 := by
  unfold lookM
  split
  · exact ⟨Nat.le_succ _, Nat.le_succ _⟩
  · split
    · exact ⟨by simp, Nat.le_succ _⟩
    · exact ⟨Nat.le_succ _, by simp [layM]⟩

theorem EnqTo.glob {w w' : World} {q : Nat} {X : DeqX} {M M1 : TapeM} {P P1 : PendM} {L L1 : LogM} {cur cur1 : Int} {late late1 : List Int} (h0 : EnqAt w q X M1 P1 L1 cur1 late1) (h : EnqTo w q X M P L cur late w') (hg : Glob w) : Glob w' := by
  obtain ⟨X', -, -, -, -, -, -, hT, -⟩ := h
  exact hg.touch hT fun b hb => by
    obtain ⟨a, ha, hx⟩ := List.mem_flatten.1 hb
    exact h0.low a ha b hx

set_option maxRecDepth 100000 in
set_option maxHeartbeats 2000000 in
theorem enqall_ok (w : World) (q : Nat) (X : DeqX) (M : TapeM) (P : PendM) (L : LogM) (cur : Int) (late : List Int) (h : EnqAt w q X M P L cur late) (hg : Glob w) (hl : M.recs.length ≤ 200000) (S : List (Nat × MsgM)) (hS : M.sched (M.place cur) = S)
    (hll : late.length + S.length ≤ 1000000) (hm : L.marks.length + S.length ≤ 100000) :
    Calls Tryz.prog 31 #[.pointer (some ⟨q, 0, none⟩)] w fun e w' => e = .returned (.tuple #[.int .i64 (S.length : Nat), .int .i64 0]) ∧ EnqTo w q X M P (runM P S (L, late)).1 (curM S cur) (runM P S (L, late)).2 w' := by
  have HX := Lib.hid (And.intro h (And.intro hg hl))
  have H0 := Lib.hid (And.intro hS (And.intro hll hm))
  have BS : (S.length : Int) ≤ 100000 := by omega
  obtain ⟨K, hK⟩ : ∃ K, K = S.length := ⟨_, rfl⟩
  rw [← hK] at BS
  have HK := Lib.hid hK
  clear h hg hl hS hll hm hK
  go_enter Tryz.func31, Tryz.ntmps31
  go_wp2_with fail
  go_loopg [4] (K + 1) (fun k s4 wr => ∃ (j : Nat) (S' : List (Nat × MsgM)) (L' : LogM) (late' : List Int) (cur' : Int), s4 = .int .i64 j ∧ j + S'.length = K ∧ S'.length + 1 ≤ k ∧ EnqTo w q X M P L' cur' late' wr ∧ M.sched (M.place cur') = S' ∧
    runM P S' (L', late') = runM P S (L, late) ∧ curM S' cur' = curM S cur ∧ late'.length + S'.length ≤ 1000000 ∧ L'.marks.length + S'.length ≤ 100000)
  case atStart => exact ⟨0, S, L, late, cur, by go_num, by rw [HK.out]; omega, by rw [HK.out]; omega, EnqTo.same HX.out.1 (Touch.refl _ _), H0.out.1, rfl, rfl, H0.out.2.1, H0.out.2.2⟩
  case round =>
    obtain ⟨j, S', L', late', cur', rfl, hj, hk, hto, hS', hrun, hcur, hll, hm⟩ := hrel
    have hgr := EnqTo.glob HX.out.1 hto HX.out.2.1
    have HTO := Lib.hid hto
    obtain ⟨X1, h1, e1, e2, e3, e4, e5, hT1, hg1⟩ := hto
    cases S' with
    | nil =>
      have hst := enqstep_end wr q X1 M P L' cur' late' h1 hgr HX.out.2.2 hS'
      have HS := Lib.hid hst
      have HR := Lib.hid (And.intro hrun (And.intro hcur (And.intro h1 (And.intro hT1 (And.intro hg1 (And.intro (And.intro e1 (And.intro e2 (And.intro e3 (And.intro e4 e5)))) hj))))))
      clear hst hrun hcur hll hm hS' hgr h1 hT1 hg1 e1 e2 e3 e4 e5 hj hk
      go_wp2_with fail
      refine HS.out.mono ?_
      rintro e w1 ⟨rfl, hT⟩
      have HF := Lib.hid (EnqTo.trans HR.out.2.2.2.2.1 HR.out.2.2.2.1 HR.out.2.2.2.2.2.1 (EnqTo.same HR.out.2.2.1 hT))
      clear hT
      go_wp2_with fail
      go_ret2
      refine ⟨?_, ?_⟩
      · have := HR.out.2.2.2.2.2.2
        simp only [List.length_nil, Nat.add_zero] at this
        rw [← HK.out, ← this]; rfl
      · rw [← HR.out.1, ← HR.out.2.1]
        exact HF.out
    | cons p S' =>
      obtain ⟨id, m⟩ := p
      have hst := enqstep_go wr q X1 M P L' cur' late' h1 hgr HX.out.2.2 id m S' hS' (by simp at hll; omega) (by simp at hm; omega)
      have hS2 := sched_next h1.tape.stand hS'
      have hlen := look_len P L' late' (id, m)
      have HS := Lib.hid hst
      have HR := Lib.hid (And.intro hrun (And.intro hcur (And.intro hT1 (And.intro hg1 (And.intro (And.intro e1 (And.intro e2 (And.intro e3 (And.intro e4 e5)))) (And.intro hj (And.intro hS2 (And.intro hlen (And.intro hll (And.intro hm hk))))))))))
      have Bj : (j : Int) + 1 ≤ 100000 := by simp at hj; omega
      clear hst hrun hcur hll hm hS' hgr h1 hT1 hg1 e1 e2 e3 e4 e5 hj hk hlen hS2
      go_wp2_with fail
      refine HS.out.mono ?_
      rintro e w1 ⟨rfl, hto⟩
      have HF := Lib.hid (EnqTo.trans HR.out.2.2.2.1 HR.out.2.2.1 HR.out.2.2.2.2.1 hto)
      clear hto
      go_wp2_with fail
      go_roundg (S'.length + 1)
      case measure => have := HR.out.2.2.2.2.2.2.2.2.2.2; simp at this; omega
      case rel =>
        obtain ⟨hrun, hcur, -, -, -, hj, hS2, hlen, hll, hm, hk⟩ := HR.out
        simp only [List.length_cons] at hj hll hm
        exact ⟨j + 1, S', (lookM P (L', late') (id, m)).1, (lookM P (L', late') (id, m)).2, _, by go_num, by omega, Nat.le_refl _, HF.out, hS2, hrun, hcur, by have := hlen.1; omega, by have := hlen.2; omega⟩

set_option maxRecDepth 100000 in
set_option maxHeartbeats 1000000 in
theorem enqall_nil (w : World) : Calls Tryz.prog 31 #[.pointer none] w fun e w' => e = .returned (.tuple #[.int .i64 0, .int .i64 1]) ∧ w = w' := by
  have HS := Lib.hid (enqstep_nil w)
  go_enter Tryz.func31, Tryz.ntmps31
  go_wp2_with fail
  go_loopg [4] 1 (fun k s4 wr => s4 = .int .i64 0 ∧ w = wr ∧ 0 < k)
  case atStart => exact ⟨by go_num, rfl, by omega⟩
  case round =>
    obtain ⟨rfl, rfl, -⟩ := hrel
    go_wp2_with fail
    refine HS.out.mono ?_
    rintro e w' ⟨rfl, rfl⟩
    go_wp2_with fail
    go_ret2
    exact ⟨rfl, rfl⟩

set_option maxRecDepth 100000 in
set_option maxHeartbeats 2000000 in
theorem enqleft_ok (w : World) (q : Nat) (X : DeqX) (M : TapeM) (P : PendM) (L : LogM) (cur : Int) (late : List Int) (h : EnqAt w q X M P L cur late) (hg : Glob w) (hl : M.recs.length ≤ 200000) (S : List (Nat × MsgM)) (hS : M.sched (M.place cur) = S) :
    Calls Tryz.prog 48 #[.pointer (some ⟨q, 0, none⟩)] w fun e w' => e = .returned (.int .i64 (S.length : Nat)) ∧ Touch [] w w' := by
  have hSl : S.length ≤ 200000 := by
    rw [← hS]; unfold TapeM.sched
    have h1 := List.length_filter_le (fun p : Nat × MsgM => decide (p.1 < M.synced) && decide (p.2.kind = 2)) (M.recs.drop (M.place cur))
    have h2 : (M.recs.drop (M.place cur)).length ≤ M.recs.length := by rw [List.length_drop]; omega
    omega
  have c3 := cell_of h.cells 3 _ rfl
  have HX := Lib.hid (And.intro h (And.intro hg hl))
  have H0 := Lib.hid hS
  obtain ⟨K, hK⟩ : ∃ K, K = S.length := ⟨_, rfl⟩
  have BS : (K : Int) ≤ 200000 := by omega
  have HK := Lib.hid hK
  clear h hg hl hS hSl hK
  go_enter Tryz.func48, Tryz.ntmps48
  go_wp2_with fail
  clear c3
  go_loopg [3, 4] (K + 1) (fun k s3 s4 wr => ∃ (j : Nat) (S' : List (Nat × MsgM)) (cur' : Int), s3 = .int .i64 j ∧ s4 = .int .i64 cur' ∧ j + S'.length = K ∧ S'.length + 1 ≤ k ∧ Touch [] w wr ∧ M.sched (M.place cur') = S')
  case atStart => exact ⟨0, S, cur, by go_num, by go_num, by rw [HK.out]; omega, by rw [HK.out]; omega, Touch.refl _ _, H0.out⟩
  case round =>
    obtain ⟨j, S', cur', rfl, rfl, hj, hk, hT, hS'⟩ := hrel
    have h1 := HX.out.1.quiet hT
    have hnx := enqnext_ok wr q X M P L cur late h1 (HX.out.2.1.touch hT (by simp)) HX.out.2.2 cur'
    rw [hS'] at hnx
    cases S' with
    | nil =>
      have hnx : Calls Tryz.prog 88 #[.pointer (some ⟨q, 0, none⟩), .int .i64 cur'] wr fun e w' => e = .returned (.tuple #[.int .i64 0, .agg #[.int .i64 0, .int .i64 0, .int .i64 0, .int .i64 0, .int .i64 0, .int .i64 0, .string ⟨#[]⟩, .string ⟨#[]⟩, .string ⟨#[]⟩, .slice none 0 0], .bool false]) ∧ Touch [] wr w' := hnx
      have HN := Lib.hid hnx
      have HT := Lib.hid (And.intro hT hj)
      clear hnx h1 hT hS' hj hk
      go_wp2_with fail
      refine HN.out.mono ?_
      rintro e w2 ⟨rfl, hT2⟩
      have HT2 := Lib.hid (HT.out.1.trans' hT2)
      clear hT2
      go_wp2_with fail
      go_ret
      refine ⟨?_, HT2.out.alloc _⟩
      have := HT.out.2
      simp only [List.length_nil, Nat.add_zero] at this
      rw [← HK.out, ← this]; rfl
    | cons p S' =>
      obtain ⟨id, m⟩ := p
      obtain ⟨-, -, -, -, hmem, -, -⟩ := sched_cons hS'
      have hrt := h1.tape.rights (id, m) hmem
      have hle := h1.tape.le
      have hsz : M.sizeAt (id : Nat) = recSize m := size_of_stand h1.tape.stand hmem
      have hS2 := sched_next h1.tape.stand hS'
      obtain ⟨n, hn'⟩ : ∃ n, n = recSize m := ⟨_, rfl⟩
      have Bn : (id : Int) + n ≤ 16777216 := by have := hrt.2; simp only at this; omega
      have HN := Lib.hid hnx
      have HR := Lib.hid (And.intro hT (And.intro hj (And.intro hk (And.intro hsz (And.intro hS2 hn')))))
      have Bj : (j : Int) + 1 ≤ 200000 := by simp at hj; omega
      clear hnx h1 hT hS' hj hk hmem hrt hle hsz hS2 hn'
      go_wp2_with fail
      refine HN.out.mono ?_
      rintro e w1 ⟨kv, rfl, hks, hfr, hT1⟩
      obtain ⟨a', cp', rfl, hstr⟩ := hks
      simp only
      obtain ⟨w2, hw2⟩ : ∃ w2, w2 = w1.alloc (msgObj m (.slice a' m.keys.length cp')) := ⟨_, rfl⟩
      have hT2 : Touch [] w1 w2 := by rw [hw2]; exact (Touch.refl _ _).alloc _
      have HT2 := Lib.hid (HR.out.1.trans' (hT1.trans' hT2))
      unfold msgObj at hw2
      have HW2 := Lib.hid hw2
      clear hw2 hT1 hT2 hstr hfr
      unfold msgV
      go_upto_region 5 with fail
      rw [← HW2.out]
      have h2 := HX.out.1.quiet HT2.out
      have c0 := cell_of h2.cells 0 _ rfl
      have hsz := tsize_ok w2 _ _ _ _ h2.tape (id : Nat)
      rw [HR.out.2.2.2.1, ← HR.out.2.2.2.2.2] at hsz
      have HSZ := Lib.hid hsz
      clear h2 hsz
      go_wp2_with fail
      refine HSZ.out.mono ?_
      rintro e w' ⟨rfl, rfl⟩
      go_wp2_with fail
      go_roundg (S'.length + 1)
      case measure => have := HR.out.2.2.1; simp at this; omega
      case rel =>
        obtain ⟨-, hj, hk, -, hS2, hn⟩ := HR.out
        simp only [List.length_cons] at hj
        refine ⟨j + 1, S', ((id + n : Nat) : Int), by go_num, by go_num, by omega, Nat.le_refl _, HT2.out, ?_⟩
        rw [hn]; exact hS2
end Go.Proofs.YtljgifbnmgpdbaaGreatDoor

namespace Go.Proofs.YtljgifbnmgpdbaaGreatDoor
open Go Go.RowKit

theorem enqsync_ok (w : World) (q : Nat) (X : DeqX) (M : TapeM) (P : PendM) (L : LogM) (cur : Int) (late : List Int) (h : EnqAt w q X M P L cur late) (hg : Glob w) (hl : M.recs.length ≤ 200000) :
    Calls Tryz.prog 23 #[.pointer (some ⟨X.t, 0, none⟩)] w fun e w' => e = .returned (.int .i64 0) ∧ EnqTo w q X M.syncd P L cur late w' := by
  refine (tsync_ok w _ _ _ _ h.tape hg hl).mono ?_
  rintro e w' ⟨rfl, F', ht, hT, hG⟩
  obtain ⟨h1, h2⟩ := enq_tape h ht hT hG
  exact ⟨rfl, _, h1, rfl, rfl, rfl, rfl, rfl, hT.mono fun x hx => mem_flat (a := X.Ft) (by simp [deqParts]) hx, h2⟩

def wkA : MsgM := ⟨2, 0, 5, 0, 0, 0, ⟨#[97]⟩, ⟨#[]⟩, ⟨#[]⟩, []⟩
def wkB : MsgM := ⟨2, 0, 6, 0, 0, 0, ⟨#[97]⟩, ⟨#[]⟩, ⟨#[]⟩, []⟩
def wkM1 : TapeM := TapeM.push ⟨[], 0, 0⟩ wkA
def wkM2 : TapeM := wkM1.push wkB
def wkJ : Nat := wkM1.idOf wkB
def wkP : PendM := [(0, (1, 5)), ((wkJ : Nat), (1, 6))]
def wkS : List (Nat × MsgM) := [(0, wkA), (wkJ, wkB)]
def wkL : LogM := ⟨5, List.replicate 16 0, []⟩
theorem wk_rightA : rightM wkA = true := by decide
theorem wk_rightB : rightM wkB = true := by decide
theorem wk_id : TapeM.idOf ⟨[], 0, 0⟩ wkA = 0 := by decide
theorem wk_costA : TapeM.cost ⟨[], 0, 0⟩ wkA ≤ 1000 := by decide
theorem wk_costB : wkM1.fin + TapeM.cost wkM1 wkB ≤ 5000 := by decide
theorem wk_noteA : (pendNote [] (0 : Int) wkA).2 = [(0, (1, 5))] := by decide
theorem wk_noteB : (pendNote [(0, (1, 5))] (wkJ : Nat) wkB).2 = wkP := by decide
theorem wk_sched : wkM2.syncd.sched (wkM2.syncd.place 0) = wkS := by rfl
theorem wk_late : (runM wkP wkS (wkL, [])).2 = [0] := by decide
theorem wk_waits : (runM wkP wkS (wkL, [])).1.waits = 1 := by decide
theorem wk_marks : (runM wkP wkS (wkL, [])).1.marks.length = 1 := by decide

set_option maxRecDepth 100000 in
set_option maxHeartbeats 8000000 in
theorem awake19_ok (w : World) (hg : Glob w) :
    Calls Tryz.prog 28 #[] w fun e w' => e = .returned (.bool true) ∧ Touch [] w w' := by
  have HG := Lib.hid hg
  clear hg
  go_enter Tryz.func28, Tryz.ntmps28
  go_wp2_with fail
  refine (made19_ok w HG.out 5 (by omega) (by omega)).mono ?_
  rintro e w1 ⟨q, X, rfl, hd, hcap, hT1, hge⟩
  have h2 := RigE.made hd hcap hT1 hge
  obtain ⟨B, hB⟩ : ∃ B, B = w1.heap.size := ⟨_, rfl⟩
  obtain ⟨w2, hw2⟩ : ∃ w2, w2 = w1.alloc (rigObjE X.t X.s X.l q) := ⟨_, rfl⟩
  rw [← hw2, ← hB] at h2
  have HW2 := Lib.hid (show w2 = w1.alloc (.cells #[.pointer (some ⟨X.t, 0, none⟩), .pointer (some ⟨X.s, 0, none⟩), .pointer (some ⟨X.l, 0, none⟩), .pointer (some ⟨q, 0, none⟩)] 59) from hw2)
  have HB := Lib.hid hB
  clear hd hcap hT1 hge hw2 hB
  unfold rigV
  go_upto_region 4 with fail
  rw [← HW2.out]
  rw [← HB.out]
  have hadd := add19_ok w2 q X ⟨[], 0, 0⟩ [] _ 0 [] h2.at_ (HG.out.touch h2.touch (by simp)) wkA (.slice none 0 0) ⟨none, 0, rfl, fun i s hi => by simp [wkA] at hi⟩ (fun _ b hb => by cases hb) wk_rightA (by simp) (by have := wk_costA; have := h2.ids.2.2.2; simp only; omega)
  have hadd2 : Calls Tryz.prog 30 #[.agg #[.pointer (some ⟨X.t, 0, none⟩), .pointer (some ⟨X.s, 0, none⟩), .pointer (some ⟨X.l, 0, none⟩), .pointer (some ⟨q, 0, none⟩)], .agg #[.int .i64 2, .int .i64 0, .int .i64 5, .int .i64 0, .int .i64 0, .int .i64 0, .string ⟨#[97]⟩, .string ⟨#[]⟩, .string ⟨#[]⟩, .slice none 0 0]] w2
      fun e w' => e = .returned (.tuple #[.int .i64 0, .bool true]) ∧ EnqTo w2 q X wkM1 [(0, (1, 5))] wkL 0 [] w' := by
    refine hadd.mono ?_
    rintro e w' ⟨he, hto⟩
    have hid : (((TapeM.idOf ⟨[], 0, 0⟩ wkA : Nat) : Int)) = 0 := by rw [wk_id]; rfl
    rw [hid] at hto he
    rw [wk_noteA] at hto
    exact ⟨he, hto⟩
  have hR2 := h2.rig
  unfold rigObjE at hR2
  have r0 := cell_of hR2 0 _ rfl
  have r1 := cell_of hR2 1 _ rfl
  have r2 := cell_of hR2 2 _ rfl
  have r3 := cell_of hR2 3 _ rfl
  have HA := Lib.hid hadd2
  have H2 := Lib.hid h2
  clear hadd hadd2 hR2 h2
  go_wp2_with fail
  refine HA.out.mono ?_
  rintro e w3 ⟨rfl, hto⟩
  obtain ⟨X3, h3⟩ := H2.out.to hto
  have hadd := add19_ok w3 q X3 wkM1 [(0, (1, 5))] wkL 0 [] h3.at_ (HG.out.touch h3.touch (by simp)) wkB (.slice none 0 0) ⟨none, 0, rfl, fun i s hi => by simp [wkB] at hi⟩ (fun _ b hb => by cases hb) wk_rightB (by decide) (by have := wk_costB; have := h3.ids.2.2.2; omega)
  have hadd2 : Calls Tryz.prog 30 #[.agg #[.pointer (some ⟨X.t, 0, none⟩), .pointer (some ⟨X.s, 0, none⟩), .pointer (some ⟨X.l, 0, none⟩), .pointer (some ⟨q, 0, none⟩)], .agg #[.int .i64 2, .int .i64 0, .int .i64 6, .int .i64 0, .int .i64 0, .int .i64 0, .string ⟨#[97]⟩, .string ⟨#[]⟩, .string ⟨#[]⟩, .slice none 0 0]] w3
      fun e w' => e = .returned (.tuple #[.int .i64 wkJ, .bool true]) ∧ EnqTo w3 q X3 wkM2 wkP wkL 0 [] w' := by
    obtain ⟨e1, e2, e3, -⟩ := h3.ids
    unfold rigV at hadd
    rw [e1, e2, e3] at hadd
    refine hadd.mono ?_
    rintro e w' ⟨he, hto⟩
    have hto2 : EnqTo w3 q X3 wkM2 (pendNote [(0, (1, 5))] (wkJ : Nat) wkB).2 wkL 0 [] w' := hto
    rw [wk_noteB] at hto2
    exact ⟨he, hto2⟩
  have hR3 := h3.rig
  unfold rigObjE at hR3
  have HA := Lib.hid hadd2
  have H3 := Lib.hid h3
  clear r0 r1 r2 r3 h3 hto hadd hadd2
  have r0 := cell_of hR3 0 _ rfl
  have r1 := cell_of hR3 1 _ rfl
  have r2 := cell_of hR3 2 _ rfl
  have r3 := cell_of hR3 3 _ rfl
  clear hR3
  obtain ⟨J, hJ⟩ : ∃ J, J = wkJ := ⟨_, rfl⟩
  rw [← hJ] at HA
  go_wp2_with fail
  refine HA.out.mono ?_
  rintro e w4 ⟨rfl, hto⟩
  obtain ⟨X4, h4⟩ := H3.out.to hto
  have hsy := enqsync_ok w4 q X4 wkM2 wkP wkL 0 [] h4.at_ (HG.out.touch h4.touch (by simp)) (by decide)
  rw [h4.ids.1] at hsy
  have hR4 := h4.rig
  unfold rigObjE at hR4
  have HS := Lib.hid hsy
  have H4 := Lib.hid h4
  clear r0 r1 r2 r3 h4 hto hsy
  have r0 := cell_of hR4 0 _ rfl
  clear hR4
  go_wp2_with fail
  refine HS.out.mono ?_
  rintro e w5 ⟨rfl, hto⟩
  obtain ⟨X5, h5⟩ := H4.out.to hto
  have hall := enqall_ok w5 q X5 wkM2.syncd wkP wkL 0 [] h5.at_ (HG.out.touch h5.touch (by simp)) (by decide) wkS wk_sched (by decide) (by decide)
  have hall2 : Calls Tryz.prog 31 #[.pointer (some ⟨q, 0, none⟩)] w5 fun e w' => e = .returned (.tuple #[.int .i64 2, .int .i64 0]) ∧ EnqTo w5 q X5 wkM2.syncd wkP (runM wkP wkS (wkL, [])).1 (curM wkS 0) [0] w' := by
    rw [wk_late] at hall
    exact hall
  have hR5 := h5.rig
  unfold rigObjE at hR5
  have HAL := Lib.hid hall2
  have H5 := Lib.hid h5
  clear r0 h5 hto hall hall2
  have r3 := cell_of hR5 3 _ rfl
  clear hR5
  go_wp2_with fail
  refine HAL.out.mono ?_
  rintro e w6 ⟨rfl, hto⟩
  obtain ⟨X6, h6⟩ := H5.out.to hto
  have hwa := waits_ok w6 _ _ _ _ _ h6.at_.log (by rw [wk_marks]; decide) (by rw [wk_waits]; decide)
  rw [wk_waits, h6.ids.2.2.1] at hwa
  have hR6 := h6.rig
  unfold rigObjE at hR6
  have HWA := Lib.hid hwa
  have H6 := Lib.hid h6
  clear r3 h6 hto hwa
  have r2 := cell_of hR6 2 _ rfl
  clear hR6
  go_wp2_with fail
  refine HWA.out.mono ?_
  rintro e w7 ⟨rfl, hT7⟩
  have h7 := H6.out.quiet hT7
  have hla := enqlate_ok w7 q X6 _ _ _ _ [0] h7.at_
  obtain ⟨a8, cp8, hsv⟩ := h7.at_.row.form
  have hR7 := h7.rig
  unfold rigObjE at hR7
  have H7 := Lib.hid h7
  have HLA := Lib.hid hla
  have HSV := Lib.hid hsv
  clear r2 hT7 h7 hla hsv
  have r3 := cell_of hR7 3 _ rfl
  clear hR7
  go_wp2_with fail
  refine HLA.out.mono ?_
  rintro e w8 ⟨rfl, hv, hto, hbl⟩
  obtain ⟨X8, h8⟩ := H7.out.to hto
  rw [HSV.out] at hv ⊢
  have H8 := Lib.hid (And.intro hv h8)
  clear r3 hto hbl hv h8
  have hTa : Touch [] w8 (w8.alloc (.cells #[.int .i64 0] 3)) := (Touch.refl _ _).alloc _
  have hri := refints_ok (w8.alloc (.cells #[.int .i64 0] 3)) _ _ [0] (H8.out.1.touch hTa (by simp)) (ints_one w8 0) (by decide)
  have HRI := Lib.hid hri
  clear hri hTa
  go_wp2_with fail
  refine HRI.out.mono ?_
  rintro e w9 ⟨rfl, hT9⟩
  have HT := Lib.hid ((H8.out.2.touch.trans' ((Touch.refl [] w8).alloc _)).trans' hT9)
  clear hT9
  go_wp2_with fail
  go_ret
  exact ⟨rfl, HT.out⟩
end Go.Proofs.YtljgifbnmgpdbaaGreatDoor

namespace Go.Proofs.YtljgifbnmgpdbaaGreatDoor
open Go Go.RowKit


set_option maxRecDepth 100000 in
set_option maxHeartbeats 8000000 in
theorem enqNone_ok (w : World) (hg : Glob w) (f0 f1 f2 : Bool) :
    Calls Tryz.prog 7 #[.agg #[.bool f0, .bool f1, .bool f2]] w fun e w' => e = .returned (.bool true) ∧ Touch [] w w' := by
  obtain ⟨w0, hw0⟩ : ∃ w0, w0 = w.alloc (.cells #[.bool f0, .bool f1, .bool f2] 22 (0, 0)) := ⟨_, rfl⟩
  have hT0 : Touch [] w w0 := by rw [hw0]; exact (Touch.refl _ _).alloc _
  have hA0 : w0.heap[w.heap.size]? = some (.cells #[.bool f0, .bool f1, .bool f2] 22 (0, 0)) := by rw [hw0]; exact heap_alloc_at _ _
  have H0 := Lib.hid (And.intro hT0 (And.intro hA0 hg))
  have HW0 := Lib.hid hw0
  clear hg hw0 hT0 hA0
  go_enter Tryz.func7, Tryz.ntmps7
  go_upto_region 1 with fail
  rw [← HW0.out]
  go_wp2_with fail
  refine (awake19_ok w0 (H0.out.2.2.touch H0.out.1 (by simp))).mono ?_
  rintro e w1 ⟨rfl, hT1⟩
  have H1 := Lib.hid (And.intro (H0.out.1.trans' hT1) (hT1.heap H0.out.2.1 (by simp)))
  clear hT1
  go_wp2_with fail
  refine (made19_ok w1 (H0.out.2.2.touch H1.out.1 (by simp)) 0 (by omega) (by omega)).mono ?_
  rintro e w3 ⟨q, X, rfl, hd, hcap, hT3, hge⟩
  have h4 := RigE.made hd hcap hT3 hge
  obtain ⟨B, hB⟩ : ∃ B, B = w3.heap.size := ⟨_, rfl⟩
  obtain ⟨w4, hw4⟩ : ∃ w4, w4 = w3.alloc (rigObjE X.t X.s X.l q) := ⟨_, rfl⟩
  rw [← hw4, ← hB] at h4
  have hA4 := h4.touch.heap H1.out.2 (by simp)
  have hAB : w.heap.size ∉ [B] := by
    have h1 := lt_of_heap H1.out.2
    have h3 := h4.bge
    simp; omega
  have hBw : w.heap.size ≤ B := by
    have h1 := H1.out.1.size
    have h3 := h4.bge
    omega
  have H4 := Lib.hid (And.intro (H1.out.1.trans' h4.touch) (And.intro hA4 (And.intro hAB hBw)))
  have HR := Lib.hid h4.at_
  have hR4 := h4.rig
  unfold rigObjE at hR4 hw4
  have HW4 := Lib.hid hw4
  have HB := Lib.hid hB
  clear hd hcap hT3 hge hw4 hB h4 hAB hBw
  unfold rigV
  go_upto_region 4 with fail
  rw [← HW4.out]
  rw [← HB.out]
  have a0 := cell_of hA4 0 _ rfl
  have a1 := cell_of hA4 1 _ rfl
  have a2 := cell_of hA4 2 _ rfl
  have r0 := cell_of hR4 0 _ rfl
  have r1 := cell_of hR4 1 _ rfl
  have r2 := cell_of hR4 2 _ rfl
  have y0 := free_of hR4 0
  have y1 := free_of hR4 1
  have y2 := free_of hR4 2
  clear hA4 hR4
  go_upto_region 6 with fail
  cases f0 <;> cases f1 <;> cases f2
  ·
    skip
    go_wp2_with fail
    refine (enqnew_t _ none _ _).mono ?_
    rintro e w10 ⟨rfl, hw10⟩
    have hT10 : Touch [B] w4 w10 := by
      subst hw10
      repeat (first | with_reducible refine Touch.alloc ?_ _ | with_reducible refine Touch.setCell ?_ _ _ _ _ (Or.inl (List.mem_singleton.2 rfl)))
      exact Touch.refl _ _
    have hA10 := hT10.heap H4.out.2.1 H4.out.2.2.1
    have HT10 := Lib.hid (H4.out.1.trans hT10 (fun b hb => by have h1 := H4.out.2.2.2; simp at hb; omega))
    clear hT10 hw10 r0 r1 r2 y0 y1 y2 a0 a1 a2
    have a0 := cell_of hA10 0 _ rfl
    have a1 := cell_of hA10 1 _ rfl
    have a2 := cell_of hA10 2 _ rfl
    clear hA10
    go_wp2_with fail
    refine (enqstep_nil w10).mono ?_
    rintro e w' ⟨rfl, rfl⟩
    go_wp2_with fail
    refine (enqall_nil w10).mono ?_
    rintro e w' ⟨rfl, rfl⟩
    go_wp2_with fail
    refine (enqcur_none w10).mono ?_
    rintro e w' ⟨rfl, rfl⟩
    go_wp2_with fail
    refine (enqleft_nil w10).mono ?_
    rintro e w' ⟨rfl, rfl⟩
    go_wp2_with fail
    refine (enqlate_none w10).mono ?_
    rintro e w' ⟨rfl, rfl⟩
    go_wp2_with fail
    go_ret
    exact ⟨rfl, HT10.out⟩
  ·
    skip
    go_wp2_with fail
    refine (enqnew_t _ none _ _).mono ?_
    rintro e w10 ⟨rfl, hw10⟩
    have hT10 : Touch [B] w4 w10 := by
      subst hw10
      repeat (first | with_reducible refine Touch.alloc ?_ _ | with_reducible refine Touch.setCell ?_ _ _ _ _ (Or.inl (List.mem_singleton.2 rfl)))
      exact Touch.refl _ _
    have hA10 := hT10.heap H4.out.2.1 H4.out.2.2.1
    have HT10 := Lib.hid (H4.out.1.trans hT10 (fun b hb => by have h1 := H4.out.2.2.2; simp at hb; omega))
    clear hT10 hw10 r0 r1 r2 y0 y1 y2 a0 a1 a2
    have a0 := cell_of hA10 0 _ rfl
    have a1 := cell_of hA10 1 _ rfl
    have a2 := cell_of hA10 2 _ rfl
    clear hA10
    go_wp2_with fail
    refine (enqstep_nil w10).mono ?_
    rintro e w' ⟨rfl, rfl⟩
    go_wp2_with fail
    refine (enqall_nil w10).mono ?_
    rintro e w' ⟨rfl, rfl⟩
    go_wp2_with fail
    refine (enqcur_none w10).mono ?_
    rintro e w' ⟨rfl, rfl⟩
    go_wp2_with fail
    refine (enqleft_nil w10).mono ?_
    rintro e w' ⟨rfl, rfl⟩
    go_wp2_with fail
    refine (enqlate_none w10).mono ?_
    rintro e w' ⟨rfl, rfl⟩
    go_wp2_with fail
    go_ret
    exact ⟨rfl, HT10.out⟩
  ·
    skip
    go_wp2_with fail
    refine (enqnew_t _ none _ _).mono ?_
    rintro e w10 ⟨rfl, hw10⟩
    have hT10 : Touch [B] w4 w10 := by
      subst hw10
      repeat (first | with_reducible refine Touch.alloc ?_ _ | with_reducible refine Touch.setCell ?_ _ _ _ _ (Or.inl (List.mem_singleton.2 rfl)))
      exact Touch.refl _ _
    have hA10 := hT10.heap H4.out.2.1 H4.out.2.2.1
    have HT10 := Lib.hid (H4.out.1.trans hT10 (fun b hb => by have h1 := H4.out.2.2.2; simp at hb; omega))
    clear hT10 hw10 r0 r1 r2 y0 y1 y2 a0 a1 a2
    have a0 := cell_of hA10 0 _ rfl
    have a1 := cell_of hA10 1 _ rfl
    have a2 := cell_of hA10 2 _ rfl
    clear hA10
    go_wp2_with fail
    refine (enqstep_nil w10).mono ?_
    rintro e w' ⟨rfl, rfl⟩
    go_wp2_with fail
    refine (enqall_nil w10).mono ?_
    rintro e w' ⟨rfl, rfl⟩
    go_wp2_with fail
    refine (enqcur_none w10).mono ?_
    rintro e w' ⟨rfl, rfl⟩
    go_wp2_with fail
    refine (enqleft_nil w10).mono ?_
    rintro e w' ⟨rfl, rfl⟩
    go_wp2_with fail
    refine (enqlate_none w10).mono ?_
    rintro e w' ⟨rfl, rfl⟩
    go_wp2_with fail
    go_ret
    exact ⟨rfl, HT10.out⟩
  ·
    skip
    go_wp2_with fail
    refine (enqnew_t _ none _ _).mono ?_
    rintro e w10 ⟨rfl, hw10⟩
    have hT10 : Touch [B] w4 w10 := by
      subst hw10
      repeat (first | with_reducible refine Touch.alloc ?_ _ | with_reducible refine Touch.setCell ?_ _ _ _ _ (Or.inl (List.mem_singleton.2 rfl)))
      exact Touch.refl _ _
    have hA10 := hT10.heap H4.out.2.1 H4.out.2.2.1
    have HT10 := Lib.hid (H4.out.1.trans hT10 (fun b hb => by have h1 := H4.out.2.2.2; simp at hb; omega))
    clear hT10 hw10 r0 r1 r2 y0 y1 y2 a0 a1 a2
    have a0 := cell_of hA10 0 _ rfl
    have a1 := cell_of hA10 1 _ rfl
    have a2 := cell_of hA10 2 _ rfl
    clear hA10
    go_wp2_with fail
    refine (enqstep_nil w10).mono ?_
    rintro e w' ⟨rfl, rfl⟩
    go_wp2_with fail
    refine (enqall_nil w10).mono ?_
    rintro e w' ⟨rfl, rfl⟩
    go_wp2_with fail
    refine (enqcur_none w10).mono ?_
    rintro e w' ⟨rfl, rfl⟩
    go_wp2_with fail
    refine (enqleft_nil w10).mono ?_
    rintro e w' ⟨rfl, rfl⟩
    go_wp2_with fail
    refine (enqlate_none w10).mono ?_
    rintro e w' ⟨rfl, rfl⟩
    go_wp2_with fail
    go_ret
    exact ⟨rfl, HT10.out⟩
  ·
    skip
    go_wp2_with fail
    refine (enqnew_s _ _ none _).mono ?_
    rintro e w10 ⟨rfl, hw10⟩
    have hT10 : Touch [B] w4 w10 := by
      subst hw10
      repeat (first | with_reducible refine Touch.alloc ?_ _ | with_reducible refine Touch.setCell ?_ _ _ _ _ (Or.inl (List.mem_singleton.2 rfl)))
      exact Touch.refl _ _
    have hA10 := hT10.heap H4.out.2.1 H4.out.2.2.1
    have HT10 := Lib.hid (H4.out.1.trans hT10 (fun b hb => by have h1 := H4.out.2.2.2; simp at hb; omega))
    clear hT10 hw10 r0 r1 r2 y0 y1 y2 a0 a1 a2
    have a0 := cell_of hA10 0 _ rfl
    have a1 := cell_of hA10 1 _ rfl
    have a2 := cell_of hA10 2 _ rfl
    clear hA10
    go_wp2_with fail
    refine (enqstep_nil w10).mono ?_
    rintro e w' ⟨rfl, rfl⟩
    go_wp2_with fail
    refine (enqall_nil w10).mono ?_
    rintro e w' ⟨rfl, rfl⟩
    go_wp2_with fail
    refine (enqcur_none w10).mono ?_
    rintro e w' ⟨rfl, rfl⟩
    go_wp2_with fail
    refine (enqleft_nil w10).mono ?_
    rintro e w' ⟨rfl, rfl⟩
    go_wp2_with fail
    refine (enqlate_none w10).mono ?_
    rintro e w' ⟨rfl, rfl⟩
    go_wp2_with fail
    go_ret
    exact ⟨rfl, HT10.out⟩
  ·
    skip
    go_wp2_with fail
    refine (enqnew_s _ _ none _).mono ?_
    rintro e w10 ⟨rfl, hw10⟩
    have hT10 : Touch [B] w4 w10 := by
      subst hw10
      repeat (first | with_reducible refine Touch.alloc ?_ _ | with_reducible refine Touch.setCell ?_ _ _ _ _ (Or.inl (List.mem_singleton.2 rfl)))
      exact Touch.refl _ _
    have hA10 := hT10.heap H4.out.2.1 H4.out.2.2.1
    have HT10 := Lib.hid (H4.out.1.trans hT10 (fun b hb => by have h1 := H4.out.2.2.2; simp at hb; omega))
    clear hT10 hw10 r0 r1 r2 y0 y1 y2 a0 a1 a2
    have a0 := cell_of hA10 0 _ rfl
    have a1 := cell_of hA10 1 _ rfl
    have a2 := cell_of hA10 2 _ rfl
    clear hA10
    go_wp2_with fail
    refine (enqstep_nil w10).mono ?_
    rintro e w' ⟨rfl, rfl⟩
    go_wp2_with fail
    refine (enqall_nil w10).mono ?_
    rintro e w' ⟨rfl, rfl⟩
    go_wp2_with fail
    refine (enqcur_none w10).mono ?_
    rintro e w' ⟨rfl, rfl⟩
    go_wp2_with fail
    refine (enqleft_nil w10).mono ?_
    rintro e w' ⟨rfl, rfl⟩
    go_wp2_with fail
    refine (enqlate_none w10).mono ?_
    rintro e w' ⟨rfl, rfl⟩
    go_wp2_with fail
    go_ret
    exact ⟨rfl, HT10.out⟩
  ·
    skip
    go_wp2_with fail
    refine (enqnew_l _ _ _ none).mono ?_
    rintro e w10 ⟨rfl, hw10⟩
    have hT10 : Touch [B] w4 w10 := by
      subst hw10
      repeat (first | with_reducible refine Touch.alloc ?_ _ | with_reducible refine Touch.setCell ?_ _ _ _ _ (Or.inl (List.mem_singleton.2 rfl)))
      exact Touch.refl _ _
    have hA10 := hT10.heap H4.out.2.1 H4.out.2.2.1
    have HT10 := Lib.hid (H4.out.1.trans hT10 (fun b hb => by have h1 := H4.out.2.2.2; simp at hb; omega))
    clear hT10 hw10 r0 r1 r2 y0 y1 y2 a0 a1 a2
    have a0 := cell_of hA10 0 _ rfl
    have a1 := cell_of hA10 1 _ rfl
    have a2 := cell_of hA10 2 _ rfl
    clear hA10
    go_wp2_with fail
    refine (enqstep_nil w10).mono ?_
    rintro e w' ⟨rfl, rfl⟩
    go_wp2_with fail
    refine (enqall_nil w10).mono ?_
    rintro e w' ⟨rfl, rfl⟩
    go_wp2_with fail
    refine (enqcur_none w10).mono ?_
    rintro e w' ⟨rfl, rfl⟩
    go_wp2_with fail
    refine (enqleft_nil w10).mono ?_
    rintro e w' ⟨rfl, rfl⟩
    go_wp2_with fail
    refine (enqlate_none w10).mono ?_
    rintro e w' ⟨rfl, rfl⟩
    go_wp2_with fail
    go_ret
    exact ⟨rfl, HT10.out⟩
  ·
    skip
    go_wp2_with fail
    refine (enqnew_ok _ _ _ _ _ _ _ HR.out.tape).mono ?_
    rintro e w10 ⟨rfl, hw10⟩
    have hT10 : Touch [B] w4 w10 := by
      subst hw10
      repeat (first | with_reducible refine Touch.alloc ?_ _ | with_reducible refine Touch.setCell ?_ _ _ _ _ (Or.inl (List.mem_singleton.2 rfl)))
      exact Touch.refl _ _
    have hA10 := hT10.heap H4.out.2.1 H4.out.2.2.1
    have HT10 := Lib.hid (H4.out.1.trans hT10 (fun b hb => by have h1 := H4.out.2.2.2; simp at hb; omega))
    clear hT10 hw10 r0 r1 r2 y0 y1 y2 a0 a1 a2
    have a0 := cell_of hA10 0 _ rfl
    have a1 := cell_of hA10 1 _ rfl
    have a2 := cell_of hA10 2 _ rfl
    clear hA10
    go_wp2_with fail
    refine (enqstep_nil w10).mono ?_
    rintro e w' ⟨rfl, rfl⟩
    go_wp2_with fail
    refine (enqall_nil w10).mono ?_
    rintro e w' ⟨rfl, rfl⟩
    go_wp2_with fail
    refine (enqcur_none w10).mono ?_
    rintro e w' ⟨rfl, rfl⟩
    go_wp2_with fail
    refine (enqleft_nil w10).mono ?_
    rintro e w' ⟨rfl, rfl⟩
    go_wp2_with fail
    refine (enqlate_none w10).mono ?_
    rintro e w' ⟨rfl, rfl⟩
    go_wp2_with fail
    go_ret
    exact ⟨rfl, HT10.out⟩
end Go.Proofs.YtljgifbnmgpdbaaGreatDoor
