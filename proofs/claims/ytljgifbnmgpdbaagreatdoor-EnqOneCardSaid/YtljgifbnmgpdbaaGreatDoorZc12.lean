/- Layer 7 (entry): places, links, marks: their bytes, and back. (Here too: Layer 8 (tape): Append refuses; Cost; Sync. Layer 8 (tape): Read. Layer 8 (tape): Ids. Layers 6, 20: Copy, Delivered. Layer 20 (deq): Delivered. Rows of numbers that begin anywhere in their block. No walk. Layer 17 (pend): what a set is in memory; State, Due. Layer 17 (pend): New, State, Due, ends. Layer 17 (pend): Note. Layer 17 (pend): Note of a scheduled record; Note.) -/
import Derived.Test.YtljgifbnmgpdbaaGreatDoorZc11
import Derived.Deep.Cut
set_option linter.unusedSimpArgs false
set_option linter.unusedVariables false
set_option linter.unnecessarySimpa false
namespace Go.Proofs.YtljgifbnmgpdbaaGreatDoor
open Go Go.RowKit

theorem tappend_ok (w : World) (t : Nat) (F : List Nat) (M : TapeM) (cap : Nat) (h : TapeV w t F M cap) (hg : Glob w) (m : MsgM) (kv : Value) (hk : KeysAt w kv m.keys) (hkF : m.keys ≠ [] → ∀ b, kv.ownBlock = some b → b ∉ F) (hm : rightM m = true) (hl : M.recs.length ≤ 200000)
    (hcap : M.fin + M.cost m ≤ cap) :
    Calls Tryz.prog 22 #[.pointer (some ⟨t, 0, none⟩), msgV m kv] w (Appended w t F M cap m) := by
  by_cases hfit : M.fits (recSize m)
  · exact tappend_fits w t F M cap h hg m kv hk hkF hm hl hfit hcap
  · exact tappend_fill w t F M cap h hg m kv hk hkF hm hl hfit hcap

set_option maxRecDepth 100000 in
set_option maxHeartbeats 2000000 in
theorem tappend_wrong (w : World) (t : Nat) (F : List Nat) (M : TapeM) (cap : Nat) (h : TapeV w t F M cap) (m : MsgM) (kv : Value) (hk : KeysAt w kv m.keys) (hl : m.keys.length ≤ 1000) (hb : m.body.size ≤ 1000000) (hm : rightM m = false) :
    Calls Tryz.prog 22 #[.pointer (some ⟨t, 0, none⟩), msgV m kv] w fun e w' => e = .returned (.tuple #[.int .i64 0, .int .i64 1]) ∧ Touch [] w w' := by
  obtain ⟨X, h, -, -, -, -⟩ := h
  obtain ⟨a0, cp0, rfl, hka⟩ := hk
  have hk : KeysAt w (.slice a0 m.keys.length cp0) m.keys := ⟨a0, cp0, rfl, hka⟩
  have hT1 : Touch [] w (w.alloc (msgObj m (.slice a0 m.keys.length cp0))) := (Touch.refl _ _).alloc _
  have hlaid := laid_wrong _ t X M (h.touch hT1 (by simp)) m _ (hk.quiet hT1) hl hb hm
  unfold msgObj at hlaid
  have HLAID := Lib.hid hlaid
  clear h hl hb hm hka hk hT1 hlaid
  unfold msgV
  go_enter Tryz.func22, Tryz.ntmps22
  go_wp2_with fail
  refine HLAID.out.mono ?_
  rintro e w2 ⟨rfl, hT2⟩
  have HT2 := Lib.hid (((Touch.refl [] w).alloc _).trans' hT2)
  clear hT2
  go_wp2_with fail
  go_ret2
  exact ⟨rfl, HT2.out⟩

set_option maxRecDepth 100000 in
set_option maxHeartbeats 2000000 in
theorem tappend_full (w : World) (t : Nat) (F : List Nat) (M : TapeM) (cap : Nat) (h : TapeV w t F M cap) (m : MsgM) (kv : Value) (hk : KeysAt w kv m.keys) (hm : rightM m = true) (hcap : cap < M.fin + M.cost m) :
    Calls Tryz.prog 22 #[.pointer (some ⟨t, 0, none⟩), msgV m kv] w fun e w' => e = .returned (.tuple #[.int .i64 0, .int .i64 7]) ∧ Touch [] w w' := by
  obtain ⟨X, h, -, rfl, -, hroom⟩ := h
  have hf := right_facts hm
  have hsl := recSize_le hf
  obtain ⟨a0, cp0, rfl, hka⟩ := hk
  have hk : KeysAt w (.slice a0 m.keys.length cp0) m.keys := ⟨a0, cp0, rfl, hka⟩
  have hT1 : Touch [] w (w.alloc (msgObj m (.slice a0 m.keys.length cp0))) := (Touch.refl _ _).alloc _
  have hlaid := laid_right _ t X M (h.touch hT1 (by simp)) m _ (hk.quiet hT1) hm hroom
  obtain ⟨s, hs⟩ : ∃ s, s = bytesOf (putB X.T m) := ⟨_, rfl⟩
  have hss : s.size = recSize m := by rw [hs, bytesOf_size, putB_len]
  obtain ⟨f, hff⟩ : ∃ f, f = bytesOf (M.fill (recSize m)) := ⟨_, rfl⟩
  have hfs : f.size = M.fillN (recSize m) := by rw [hff, bytesOf_size, fill_size M _ hroom]
  rw [← hs, ← hff] at hlaid
  unfold msgObj at hlaid
  have HLAID := Lib.hid hlaid
  have HH := Lib.hid h
  have hle := h.disk.le
  have hfl : f.size ≤ 1024 := by rw [hfs]; unfold TapeM.fillN; split; omega; unfold TapeM.room; omega
  have BS : (s.size : Int) ≤ 321 := by omega
  have BF : (f.size : Int) ≤ 1024 := by omega
  have hlt : X.cap - M.fin < f.size + s.size := by unfold TapeM.cost at hcap; omega
  have hd1 : decide ((X.cap - M.fin : Nat) < f.size + s.size) = true := by simpa using hlt
  have hd2 : decide (((X.cap - M.fin : Nat) : Int) < (f.size : Int) + (s.size : Int)) = true := by simp; omega
  clear h hm hka hk hT1 hlaid hcap hroom hf hsl hs hss hff hfs hle hfl hlt
  unfold msgV
  go_enter Tryz.func22, Tryz.ntmps22
  go_wp2_with fail
  refine HLAID.out.mono ?_
  rintro e w2 ⟨rfl, hT2⟩
  have hT2 : Touch [] w w2 := ((Touch.refl [] w).alloc _).trans' hT2
  have hX2 := HH.out.touch hT2 (by simp)
  have c0 := cell_of hX2.cells 0 _ rfl
  have r0 := hX2.row.six.1
  have HT2 := Lib.hid hT2
  have HX2 := Lib.hid hX2
  clear hT2 hX2
  go_wp2_with fail
  refine (downV_ok HX2.out.disk).mono ?_
  rintro e w' ⟨rfl, rfl⟩
  go_wp2_with fail
  refine (roomV_ok HX2.out.disk).mono ?_
  rintro e w3 ⟨rfl, hT3⟩
  have HT3 := Lib.hid (HT2.out.trans' hT3)
  clear hT3 c0 r0
  go_wp2_with fail
  go_ret2
  exact ⟨rfl, HT3.out⟩

set_option maxRecDepth 100000 in
set_option maxHeartbeats 2000000 in
theorem tcost_right (w : World) (t : Nat) (F : List Nat) (M : TapeM) (cap : Nat) (h : TapeV w t F M cap) (m : MsgM) (kv : Value) (hk : KeysAt w kv m.keys) (hm : rightM m = true) :
    Calls Tryz.prog 58 #[.pointer (some ⟨t, 0, none⟩), msgV m kv] w fun e w' => e = .returned (.int .i64 (M.cost m : Nat)) ∧ Touch [] w w' := by
  obtain ⟨X, h, -, rfl, -, hroom⟩ := h
  have hf := right_facts hm
  have hsl := recSize_le hf
  obtain ⟨a0, cp0, rfl, hka⟩ := hk
  have hk : KeysAt w (.slice a0 m.keys.length cp0) m.keys := ⟨a0, cp0, rfl, hka⟩
  have hT1 : Touch [] w (w.alloc (msgObj m (.slice a0 m.keys.length cp0))) := (Touch.refl _ _).alloc _
  have hlaid := laid_right _ t X M (h.touch hT1 (by simp)) m _ (hk.quiet hT1) hm hroom
  obtain ⟨s, hs⟩ : ∃ s, s = bytesOf (putB X.T m) := ⟨_, rfl⟩
  have hss : s.size = recSize m := by rw [hs, bytesOf_size, putB_len]
  obtain ⟨f, hff⟩ : ∃ f, f = bytesOf (M.fill (recSize m)) := ⟨_, rfl⟩
  have hfs : f.size = M.fillN (recSize m) := by rw [hff, bytesOf_size, fill_size M _ hroom]
  rw [← hs, ← hff] at hlaid
  unfold msgObj at hlaid
  have HLAID := Lib.hid hlaid
  have hfl : f.size ≤ 1024 := by rw [hfs]; unfold TapeM.fillN; split; omega; unfold TapeM.room; omega
  have BS : (s.size : Int) ≤ 321 := by omega
  have BF : (f.size : Int) ≤ 1024 := by omega
  have HC := Lib.hid (show M.cost m = f.size + s.size by unfold TapeM.cost; omega)
  clear h hm hka hk hT1 hlaid hroom hf hsl hs hss hff hfs hfl
  unfold msgV
  go_enter Tryz.func58, Tryz.ntmps58
  go_wp2_with fail
  refine HLAID.out.mono ?_
  rintro e w2 ⟨rfl, hT2⟩
  have HT2 := Lib.hid (((Touch.refl [] w).alloc _).trans' hT2)
  clear hT2
  go_wp2_with fail
  go_ret
  refine ⟨ret_int ?_, HT2.out⟩
  rw [HC.out]; omega

set_option maxRecDepth 100000 in
set_option maxHeartbeats 2000000 in
theorem tcost_wrong (w : World) (t : Nat) (F : List Nat) (M : TapeM) (cap : Nat) (h : TapeV w t F M cap) (m : MsgM) (kv : Value) (hk : KeysAt w kv m.keys) (hl : m.keys.length ≤ 1000) (hb : m.body.size ≤ 1000000) (hm : rightM m = false) :
    Calls Tryz.prog 58 #[.pointer (some ⟨t, 0, none⟩), msgV m kv] w fun e w' => e = .returned (.int .i64 0) ∧ Touch [] w w' := by
  obtain ⟨X, h, -, -, -, -⟩ := h
  obtain ⟨a0, cp0, rfl, hka⟩ := hk
  have hk : KeysAt w (.slice a0 m.keys.length cp0) m.keys := ⟨a0, cp0, rfl, hka⟩
  have hT1 : Touch [] w (w.alloc (msgObj m (.slice a0 m.keys.length cp0))) := (Touch.refl _ _).alloc _
  have hlaid := laid_wrong _ t X M (h.touch hT1 (by simp)) m _ (hk.quiet hT1) hl hb hm
  unfold msgObj at hlaid
  have HLAID := Lib.hid hlaid
  have e0 : (ByteArray.mk #[]).size = 0 := rfl
  clear h hl hb hm hka hk hT1 hlaid
  unfold msgV
  go_enter Tryz.func58, Tryz.ntmps58
  go_wp2_with fail
  refine HLAID.out.mono ?_
  rintro e w2 ⟨rfl, hT2⟩
  have HT2 := Lib.hid (((Touch.refl [] w).alloc _).trans' hT2)
  clear hT2
  go_wp2_with fail
  go_ret
  exact ⟨rfl, HT2.out⟩

def TapeM.syncd (M : TapeM) : TapeM := { M with synced := M.fin }

set_option maxRecDepth 100000 in
set_option maxHeartbeats 2000000 in
theorem tsync_ok (w : World) (t : Nat) (F : List Nat) (M : TapeM) (cap : Nat) (h : TapeV w t F M cap) (hg : Glob w) (hl : M.recs.length ≤ 200000) :
    Calls Tryz.prog 23 #[.pointer (some ⟨t, 0, none⟩)] w fun e w' => e = .returned (.int .i64 0) ∧ ∃ F', TapeV w' t F' M.syncd cap ∧ Touch F w w' ∧ Grew w.heap.size F F' := by
  have hlt := h.lt
  obtain ⟨X, h, rfl, rfl, hq, hroom⟩ := h
  have c0 := cell_of h.cells 0 _ rfl
  obtain ⟨o1, o2, o3, o4, o5, o6⟩ := (own_iff t X).1 h.apart
  have hdis : ∀ b ∈ rowFoot X.r X.pv, b ∉ X.Fd := fun b hb => h.dis b (by simp [ownT, hb])
  have hcon := rsync_ok h.row h.disk hdis hg h.segs (by omega)
  have hfin : ∀ w' F', RowIn w' X.r X.d X.pv { X.R with synced := X.R.fin } → DiskV w' X.d F' X.V X.cap M.fin X.q → Touch (rowFoot X.r X.pv ++ X.Fd) w w' → Grew w.heap.size X.Fd F' → (∀ b ∈ rowFoot X.r X.pv, b ∉ F') →
      ∃ F'', TapeV w' t F'' M.syncd X.cap ∧ Touch (footT t X) w w' ∧ Grew w.heap.size (footT t X) F'' := by
    intro w' F' hrow hdisk hT hG1 hdis'
    have hnot : ∀ b, b ∈ ownT t X → b ∉ rowFoot X.r X.pv → b ∉ rowFoot X.r X.pv ++ X.Fd := fun b hb hr hm => by
      rcases List.mem_append.1 hm with hm | hm
      · exact hr hm
      · exact h.dis b hb hm
    refine ⟨footT t { X with R := { X.R with synced := X.R.fin }, Fd := F' }, ⟨{ X with R := { X.R with synced := X.R.fin }, Fd := F' }, ?_, rfl, rfl, hq, hroom⟩, hT.mono (fun b hm => by
      rcases List.mem_append.1 hm with hm | hm
      · simp [footT, ownT, hm]
      · simp [footT, hm]), ?_⟩
    · refine ⟨hT.heap h.cells (hnot t (by simp [ownT]) o5.1), hrow, hdisk, ⟨h.segs.len, h.segs.head, h.segs.seg, h.segs.none⟩, h.tab.touch hT (hnot X.c (by simp [ownT]) o5.2.2), ownsRow_other h.ids fun b hb => hT.block b (h.ids.lt b hb).2 (hnot b (by simp [ownT, hb]) (o4 b hb).2.2.2),
        MapAt.touch h.sizes hT (hnot X.mb (by simp [ownT]) o5.2.1), h.apart, ?_, h.low, h.head, h.size, h.beg, h.fin, h.fin, h.recs⟩
      intro b hb hm
      rcases hG1 b hm with h1 | h1
      · exact h.dis b hb h1
      · have := hlt b (by show b ∈ ownT t X ++ X.Fd; exact List.mem_append.2 (.inl hb)); omega
    · intro b hb
      rcases List.mem_append.1 hb with hb | hb
      · exact .inl (List.mem_append.2 (.inl hb))
      · rcases hG1 b hb with h1 | h1
        · exact .inl (List.mem_append.2 (.inr h1))
        · exact .inr h1
  have HCON := Lib.hid hcon
  have HFIN := Lib.hid hfin
  clear hlt h hq hroom o1 o2 o3 o4 o5 o6 hdis hcon hfin hg hl
  go_enter Tryz.func23, Tryz.ntmps23
  go_wp2_with fail
  refine HCON.out.mono ?_
  rintro e w' ⟨rfl, F', hrow, hdisk, hT, hG, hdis'⟩
  have HD := Lib.hid (HFIN.out w' F' hrow hdisk hT hG hdis')
  clear hrow hdisk hT hG hdis'
  go_wp2_with fail
  go_ret
  exact ⟨rfl, HD.out⟩
end Go.Proofs.YtljgifbnmgpdbaaGreatDoor

namespace Go.Proofs.YtljgifbnmgpdbaaGreatDoor
open Go Go.RowKit

theorem sizeAt_of {l : List (Nat × MsgM)} {fin syn : Nat} {T : Nat → Int} {data : ByteArray} (h : RecsIn l fin T data) {p : Nat × MsgM} (hp : p ∈ l) : TapeM.sizeAt ⟨l, fin, syn⟩ (p.1 : Nat) = recSize p.2 := by
  have hs := h.sorted
  clear h
  unfold TapeM.sizeAt
  simp only
  induction l with
  | nil => cases hp
  | cons x l ih =>
    rw [List.find?_cons]
    by_cases e : ((x.1 : Nat) : Int) = (p.1 : Nat)
    · have : decide (((x.1 : Nat) : Int) = (p.1 : Nat)) = true := by simpa using e
      rw [this]
      rcases List.mem_cons.1 hp with rfl | hp
      · rfl
      · have := (List.pairwise_cons.1 hs).1 p hp
        have := recSize_ge x.2
        omega
    · have e2 : decide (((x.1 : Nat) : Int) = (p.1 : Nat)) = false := by simpa using e
      rw [e2]
      rcases List.mem_cons.1 hp with rfl | hp
      · exact absurd rfl e
      · exact ih hp (List.pairwise_cons.1 hs).2

set_option maxRecDepth 100000 in
set_option maxHeartbeats 4000000 in
theorem tread_ok (w : World) (t : Nat) (F : List Nat) (M : TapeM) (cap : Nat) (h : TapeV w t F M cap) (hg : Glob w) (id : Nat) (m : MsgM) (hp : (id, m) ∈ M.recs) :
    Calls Tryz.prog 25 #[.pointer (some ⟨t, 0, none⟩), .int .i64 id] w (MsgOut w m #[.int .i64 0]) := by
  obtain ⟨X, h, -, -, -, -⟩ := h
  obtain ⟨hm, hend, hseg, hdata⟩ := h.recs.each _ hp
  have hsz : M.sizeAt (id : Nat) = recSize m := sizeAt_of (syn := M.synced) h.recs hp
  have hsg := recSize_ge m
  have hsl := recSize_le (right_facts hm)
  obtain ⟨n, hn⟩ : ∃ n, n = recSize m := ⟨_, rfl⟩
  have hle := h.disk.le
  simp only at hend hseg hdata
  rw [← hn] at hsz hend hseg hdata hsg hsl
  have HH := Lib.hid h
  have HN := Lib.hid (And.intro hm (And.intro hend (And.intro hseg (And.intro hdata (And.intro hsz (And.intro hsg (And.intro hsl (And.intro hg hn))))))))
  have d0 : decide ((0 : Int) ≤ (id : Int)) = true := by simp
  have d1 : decide ((id : Int) < 0) = false := by simp
  have d2 : ((n : Int) == 0) = false := by simp; omega
  have BN : (n : Int) ≤ 321 := by omega
  have BI : (id : Int) ≤ 16777216 := by omega
  have c0 := cell_of h.cells 0 _ rfl
  have htl := lt_of_heap h.cells
  clear h hp hm hend hseg hdata hsz hsg hsl hle hg hn
  go_enter Tryz.func25, Tryz.ntmps25
  go_wp2_with fail
  obtain ⟨w0, hw0⟩ : ∃ w0, w0 = w.alloc (.cells #[.int .i64 0, .int .i64 0, .int .i64 0, .int .i64 0, .int .i64 0, .int .i64 0, .string ⟨#[]⟩, .string ⟨#[]⟩, .string ⟨#[]⟩, .slice none 0 0] 46) := ⟨_, rfl⟩
  have hR0 : w0.heap[w.heap.size]? = some (msgObj noMsg (.slice none 0 0)) := by rw [hw0]; exact heap_alloc_at w _
  have hT0 : Touch [] w w0 := by rw [hw0]; exact (Touch.refl _ _).alloc _
  have HX0 := Lib.hid (HH.out.touch hT0 (by simp))
  rw [← hw0]
  clear hw0
  obtain ⟨B, hB⟩ : ∃ B, B = w.heap.size := ⟨_, rfl⟩
  rw [← hB] at hR0 ⊢
  have HB := Lib.hid hB
  have HR0 := Lib.hid (And.intro hR0 hT0)
  clear hB hR0 hT0 c0 htl
  have hbeg := begin_ok w0 X.r X.d X.pv X.R HX0.out.row
  rw [HX0.out.beg] at hbeg
  refine hbeg.mono ?_
  rintro e w' ⟨rfl, rfl⟩
  have hlk := lookup_size HX0.out (id : Nat)
  rw [HN.out.2.2.2.2.1] at hlk
  have c0 := cell_of HX0.out.cells 0 _ rfl
  have c3 := cell_of HX0.out.cells 3 _ rfl
  clear hbeg
  go_wp2_with fail
  have hread : ∀ W, Touch [] w0 W → Calls Tryz.prog 81 #[.pointer (some ⟨X.r, 0, none⟩), .int .i64 id, .int .i64 n] W fun e w' => e = .returned (.tuple #[.string (bytesOf (putB X.T m)), .int .i64 0]) ∧ Touch [] W w' := fun W hT => by
    obtain ⟨hm, hend, hseg, hdata, hsz, hsg, hsl, hg, hn⟩ := HN.out
    have h1 := HX0.out.touch hT (by simp)
    have := rread_ok h1.row h1.disk ((hg.touch HR0.out.2 (by simp)).touch hT (by simp)) h1.segs id n (by rw [h1.beg]; omega) (by rw [h1.fin]; omega) (by omega) (by rw [h1.fin, h1.size]; omega)
    rw [hdata] at this
    exact this
  obtain ⟨s, hs⟩ : ∃ s, s = bytesOf (putB X.T m) := ⟨_, rfl⟩
  rw [← hs] at hread
  have HREAD := Lib.hid hread
  have HS := Lib.hid hs
  clear hread hs c0 c3 hlk
  refine region_class (fun w' => w'.heap[t]? = some (.cells #[.pointer (some ⟨X.r, 0, none⟩), .pointer (some ⟨X.c, 0, none⟩), X.sv, .map (some X.mb), .int .i64 X.last] 136 (0, 0)) ∧ Touch [] w0 w') (by kernel_rfl) (by kernel_rfl) ⟨HX0.out.cells, (Touch.refl [] w0).drew⟩ ?_
  repeat (first | go_big_quiet_skip | (go_big_quiet_want; go_big_quiet_op; first | go_big_quiet_on | (refine Exists.intro _ ⟨fun _ _ => rfl, ?_⟩; go_big_quiet_on) | (refine Exists.intro _ ⟨fun w' hC => by (first | rw [hC.out.1] | rw [hC.out.2.1] | rw [hC.out.2.2.1] | rw [hC.out.2.2.2.1]); exact ⟨rfl, rfl⟩, ?_⟩; go_big_quiet_on) | (refine Exists.intro (.pointer (some ⟨X.r, 0, none⟩)) (And.intro ?_ ?_); (next => (intro w' hC; have c0 := cell_of hC.out.1 0 _ rfl; rw [c0]; exact ⟨rfl, rfl⟩)); go_big_quiet_on) | (refine Exists.intro (.map (some X.mb)) (And.intro ?_ ?_); (next => (intro w' hC; have c0 := cell_of hC.out.1 3 _ rfl; rw [c0]; exact ⟨rfl, rfl⟩)); go_big_quiet_on) | (refine Exists.intro (.int .i64 n) (And.intro ?_ ?_); (next => (intro w' hC; have hl := lookup_size (HX0.out.touch hC.out.2 (by simp)) (id : Nat); rw [HN.out.2.2.2.2.1] at hl; rw [hl]; exact ⟨rfl, rfl⟩)); go_big_quiet_on) | (refine Exists.intro _ ⟨fun w' hC => (HREAD.out w' hC.out.2).mono fun e w2 hh => ⟨hh.1, hh.2.heap hC.out.1 (by simp), hC.out.2.trans' hh.2⟩, ?_⟩; go_big_quiet_on)))
  refine wpQuiet_nil ?_
  rintro w3 ⟨hc3, hT3⟩
  have c1 := cell_of hc3 1 _ rfl
  have HT3 := Lib.hid (And.intro (HR0.out.2.trans' hT3) (hT3.heap HR0.out.1 (by simp)))
  have hget := get_right w3 X.c X.T (HX0.out.tab.touch hT3 (by simp)) m HN.out.1
  rw [← HS.out] at hget
  have HGET := Lib.hid hget
  clear hc3 hT3 hget
  go_wp2_with fail
  refine HGET.out.mono ?_
  rintro e w6 ⟨kv, rfl, hk, hf, hT⟩
  obtain ⟨a, cp, rfl, hka⟩ := hk
  have hk : KeysAt w6 (.slice a m.keys.length cp) m.keys := ⟨a, cp, rfl, hka⟩
  have HT6 := Lib.hid (And.intro (HT3.out.1.trans' hT) (hT.heap HT3.out.2 (by simp)))
  have HK := Lib.hid (And.intro hk hf)
  have hBl := lt_of_heap HT6.out.2
  have hb6 := HT6.out.2
  unfold msgObj at hb6
  have x0 := cell_of hb6 0 _ rfl
  have y0 := free_of hb6 0
  have x1 := cell_of hb6 1 _ rfl
  have y1 := free_of hb6 1
  have x2 := cell_of hb6 2 _ rfl
  have y2 := free_of hb6 2
  have x3 := cell_of hb6 3 _ rfl
  have y3 := free_of hb6 3
  have x4 := cell_of hb6 4 _ rfl
  have y4 := free_of hb6 4
  have x5 := cell_of hb6 5 _ rfl
  have y5 := free_of hb6 5
  have x6 := cell_of hb6 6 _ rfl
  have y6 := free_of hb6 6
  have x7 := cell_of hb6 7 _ rfl
  have y7 := free_of hb6 7
  have x8 := cell_of hb6 8 _ rfl
  have y8 := free_of hb6 8
  have x9 := cell_of hb6 9 _ rfl
  have y9 := free_of hb6 9
  clear hT hk hf hka hb6 c1
  unfold msgV
  go_wp2_with fail
  obtain ⟨zf, hTF⟩ := store10 HT6.out.2 (.int .i64 m.kind) (.int .i64 m.queue) (.int .i64 m.due) (.int .i64 m.retry) (.int .i64 m.ref) (.int .i64 m.born) (.string m.topic) (.string m.tag) (.string m.body) (.slice a m.keys.length cp)
  obtain ⟨Wf, hWf⟩ : ∃ Wf, Wf = ((((((((((w6.setCell ⟨B, 0, none⟩ (.int .i64 m.kind)).setCell ⟨B, 1, none⟩ (.int .i64 m.queue)).setCell ⟨B, 2, none⟩ (.int .i64 m.due)).setCell ⟨B, 3, none⟩ (.int .i64 m.retry)).setCell ⟨B, 4, none⟩ (.int .i64 m.ref)).setCell ⟨B, 5, none⟩ (.int .i64 m.born)).setCell ⟨B, 6, none⟩ (.string m.topic)).setCell ⟨B, 7, none⟩ (.string m.tag)).setCell ⟨B, 8, none⟩ (.string m.body)).setCell ⟨B, 9, none⟩ (.slice a m.keys.length cp)) := ⟨_, rfl⟩
  rw [← hWf] at zf hTF ⊢
  clear hWf
  have zf := heap_alloc_lt zf (msgObj m (.slice a m.keys.length cp))
  have hTF : Touch [B] w6 (Wf.alloc (msgObj m (.slice a m.keys.length cp))) := hTF.alloc _
  unfold msgObj at zf hTF
  obtain ⟨Wg, hWg⟩ : ∃ Wg, Wg = Wf.alloc (.cells #[.int .i64 m.kind, .int .i64 m.queue, .int .i64 m.due, .int .i64 m.retry, .int .i64 m.ref, .int .i64 m.born, .string m.topic, .string m.tag, .string m.body, .slice a m.keys.length cp] 46) := ⟨_, rfl⟩
  rw [← hWg] at zf hTF ⊢
  clear hWg
  have s0 := cell_of zf 0 (.int .i64 m.kind) rfl
  have s1 := cell_of zf 1 (.int .i64 m.queue) rfl
  have s2 := cell_of zf 2 (.int .i64 m.due) rfl
  have s3 := cell_of zf 3 (.int .i64 m.retry) rfl
  have s4 := cell_of zf 4 (.int .i64 m.ref) rfl
  have s5 := cell_of zf 5 (.int .i64 m.born) rfl
  have s6 := cell_of zf 6 (.string m.topic) rfl
  have s7 := cell_of zf 7 (.string m.tag) rfl
  have s8 := cell_of zf 8 (.string m.body) rfl
  have s9 := cell_of zf 9 (.slice a m.keys.length cp) rfl
  have HTF := Lib.hid hTF
  clear hTF zf
  refine bodyPost_ret (v := .tuple #[msgV m (.slice a m.keys.length cp), .int .i64 0]) (by simp [results, Tryz.results25, go_sem, msgV, s0, s1, s2, s3, s4, s5, s6, s7, s8, s9]) rfl ⟨.slice a m.keys.length cp, rfl, HK.out.1.touch HTF.out (fun g hg => by
    have h1 := HK.out.2 g hg
    have h2 := lt_of_heap HT3.out.2
    simp; omega), fun g hg => ?_, ?_⟩
  · have h1 := HK.out.2 g hg
    have h2 := HT3.out.1.size
    omega
  · exact HT6.out.1.trans HTF.out (fun x hx => by
      have := HB.out
      simp at hx; right; omega)
end Go.Proofs.YtljgifbnmgpdbaaGreatDoor

namespace Go.Proofs.YtljgifbnmgpdbaaGreatDoor
open Go Go.RowKit

/-- New ints. -/
def IntsOut (w : World) (l : List Nat) (e : Ending) (w' : World) : Prop :=
  ∃ v, e = .returned v ∧ w'.ownsRow w.heap.size 3 1 v l.length (l.map fun (n : Nat) => Value.int .i64 n) ∧ Touch [] w w'

theorem info_int1 : (Tryz.prog.info? 3).map (fun i => i.size) = some 1 := by kernel_rfl
theorem info_int2 : ∃ i, Tryz.prog.info? 3 = some i ∧ i.size = 1 := by
  have := info_int1
  cases h : Tryz.prog.info? 3 with
  | none => rw [h] at this; simp at this
  | some i => rw [h] at this; exact ⟨i, rfl, by simpa using this⟩

theorem ids_cut {w : World} {t : Nat} {X : TapeX} {M : TapeM} (h : TapeAt w t X M) (k : Nat) (hk : k ≤ M.recs.length) (hl : M.recs.length ≤ 1000000) :
    ∃ a n cp, X.sv = .slice a n cp ∧ k ≤ n ∧ ∀ W, Touch [] w W → Calls Tryz.prog 91 #[.slice (if cp = k then a else Option.map (fun x => x.add k) a) (n - k) (cp - k)] W (IntsOut W ((M.recs.drop k).map (·.1))) := by
  rcases ids_cells h with ⟨e, h0⟩ | ⟨g, cp, e, hcp, hc⟩
  · have hk0 : k = 0 := by rw [h0] at hk; simpa using hk
    subst hk0
    refine ⟨none, 0, 0, e, Nat.le_refl _, fun W hT => ?_⟩
    have := Tryz.slices_Clone_int_nil 0 0 W
    refine this.mono fun e w' hh => ⟨.slice none 0 0, hh.1, ?_, by rw [hh.2]; exact Touch.refl _ _⟩
    rw [h0]
    exact World.ownsRow_nil _ _ _ _
  · obtain ⟨n, hn⟩ : ∃ n, n = M.recs.length := ⟨_, rfl⟩
    rw [← hn] at e hk hl hcp
    refine ⟨some ⟨g, 0, none⟩, n, cp, e, hk, fun W hT => ?_⟩
    by_cases hkn : k = n
    · have hz : n - k = 0 := by omega
      have hd : M.recs.drop k = [] := by rw [List.drop_eq_nil_iff]; omega
      rw [hz, hd]
      have h1 : ∃ a', (if cp = k then some (⟨g, 0, none⟩ : Addr) else Option.map (fun x : Addr => x.add k) (some (⟨g, 0, none⟩ : Addr))) = some a' := by split <;> exact ⟨_, rfl⟩
      obtain ⟨a', h1⟩ := h1
      rw [h1]
      have := Tryz.slices_Clone_int_zero a' (cp - k) W
      exact this.mono fun e w' hh => by obtain ⟨v, h1, h2, -, h4⟩ := hh; exact ⟨v, h1, h2, Touch.of_below h4⟩
    · rw [if_neg (by omega)]
      have hadd : Option.map (fun x : Addr => x.add k) (some (⟨g, 0, none⟩ : Addr)) = some ⟨g, 0 + k, none⟩ := by simp [addr_add]
      rw [hadd]
      have hlen : ((M.recs.drop k).map (·.1)).length = n - k := by simp [hn]
      have := Tryz.slices_Clone_int g (0 + k) (n - k) (cp - k) ((M.recs.drop k).map fun p => ((p.1 : Nat) : Int)) W (by simp; omega) (by omega) (fun j hj => by
        have hj' : j < n - k := by simp at hj; omega
        have hkj : k + j < M.recs.length := by omega
        rw [show 0 + k + j = k + j by omega, hT.cell (hc (k + j) _ (List.getElem?_eq_getElem hkj)) (by simp)]
        simp [List.getD_eq_getElem?_getD, List.getElem?_map, List.getElem?_drop, List.getElem?_eq_getElem hkj])
      refine this.mono fun e w' hh => ?_
      obtain ⟨v, h1, h2, -, h4⟩ := hh
      refine ⟨v, h1, ?_, Touch.of_below h4⟩
      rw [hlen]
      rw [List.take_of_length_le (by simp; omega)] at h2
      have e2 : ((M.recs.drop k).map (·.1)).map (fun (n : Nat) => Value.int .i64 n) = ((M.recs.drop k).map fun p => ((p.1 : Nat) : Int)).map (Value.int .i64) := by rw [List.map_map, List.map_map]; rfl
      rw [e2]
      exact h2

set_option maxRecDepth 100000 in
set_option maxHeartbeats 2000000 in
theorem tids_ok (w : World) (t : Nat) (F : List Nat) (M : TapeM) (cap : Nat) (h : TapeV w t F M cap) (hl : M.recs.length ≤ 1000000) (at_ : Int) :
    Calls Tryz.prog 43 #[.pointer (some ⟨t, 0, none⟩), .int .i64 at_] w (IntsOut w ((M.recs.drop (M.place at_)).map (·.1))) := by
  have hpl := fun (W : World) (hT : Touch [] w W) => tplace_ok W t F M cap (h.quiet hT) hl at_
  obtain ⟨X, h, -, -, -, -⟩ := h
  obtain ⟨k, hk⟩ : ∃ k, k = M.place at_ := ⟨_, rfl⟩
  have hkl : k ≤ M.recs.length := by rw [hk]; exact countP_le _ _
  rw [← hk] at hpl ⊢
  obtain ⟨a, n, cp, e, hkn, hclone⟩ := ids_cut h k hkl hl
  have hcells := h.cells
  rw [e] at hcells
  have BKN : (k : Int) ≤ n := by omega
  have HPL := Lib.hid hpl
  have HC := Lib.hid hcells
  clear hpl h hk hkl e hcells hl
  by_cases hck : cp = k
  · have hck2 := hck.symm
    subst hck2
    simp only [if_true, Nat.sub_self] at hclone
    have HCL := Lib.hid hclone
    clear hclone
    go_enter Tryz.func43, Tryz.ntmps43
    go_wp2_with fail
    refine region_class_tail 8 (fun w' => w'.heap[t]? = some (.cells #[.pointer (some ⟨X.r, 0, none⟩), .pointer (some ⟨X.c, 0, none⟩), .slice a n k, .map (some X.mb), .int .i64 X.last] 136 (0, 0)) ∧ Touch [] w w') (by kernel_rfl) (by kernel_rfl) ⟨HC.out, (Touch.refl [] w).drew⟩ ?_
    simp only [List.take_succ_cons, List.take_zero, List.drop_succ_cons, List.drop_zero]
    repeat (first | go_big_quiet_skip | (go_big_quiet_want; go_big_quiet_op; first | go_big_quiet_on | (refine Exists.intro _ ⟨fun _ _ => rfl, ?_⟩; go_big_quiet_on) | (refine Exists.intro (.slice a n k) (And.intro ?_ ?_); (next => (intro w' hC; have c0 := cell_of hC.out.1 2 _ rfl; rw [c0]; exact ⟨rfl, rfl⟩)); go_big_quiet_on) | (refine Exists.intro _ (And.intro ?_ ?_); (next => (intro w' hC; rw [if_pos hkn]; exact ⟨rfl, rfl⟩)); go_big_quiet_on) | (refine Exists.intro _ ⟨fun w' hC => (HPL.out w' hC.out.2).mono fun e w2 hh => ⟨hh.1, by obtain ⟨q, hq⟩ := hh.2; subst hq; exact ⟨hC.out.1, hC.out.2.drewN q⟩⟩, ?_⟩; go_big_quiet_on)))
    refine wpQuiet_nil ?_
    rintro w3 ⟨-, hT3⟩
    have HT3 := Lib.hid hT3
    clear hT3
    go_wp2_with fail
    refine (HCL.out w3 HT3.out).mono ?_
    rintro e w4 ⟨v, rfl, hown, hT4⟩
    have HOUT := Lib.hid (show IntsOut w ((M.recs.drop k).map (·.1)) (.returned v) w4 from ⟨v, rfl, (by
      refine ⟨hown.1, ?_⟩
      rcases hown.2 with hn | ⟨g, cap, cur, hv, hbg, rest⟩
      · exact .inl hn
      · exact .inr ⟨g, cap, cur, hv, Nat.le_trans HT3.out.size hbg, rest⟩), HT3.out.trans' hT4⟩)
    have hvs : ∃ a3 n3 c3, v = .slice a3 n3 c3 := by
      rcases hown.2 with ⟨e, -⟩ | ⟨g, cp, cur, e, -⟩
      · exact ⟨_, _, _, e⟩
      · exact ⟨_, _, _, e⟩
    obtain ⟨a2, n2, cp2, rfl⟩ := hvs
    clear hown hT4
    go_wp2_with fail
    go_ret
    exact HOUT.out
  · simp only [if_neg hck] at hclone
    have HCL := Lib.hid hclone
    clear hclone
    go_enter Tryz.func43, Tryz.ntmps43
    go_wp2_with fail
    refine region_class_tail 8 (fun w' => w'.heap[t]? = some (.cells #[.pointer (some ⟨X.r, 0, none⟩), .pointer (some ⟨X.c, 0, none⟩), .slice a n cp, .map (some X.mb), .int .i64 X.last] 136 (0, 0)) ∧ Touch [] w w') (by kernel_rfl) (by kernel_rfl) ⟨HC.out, (Touch.refl [] w).drew⟩ ?_
    simp only [List.take_succ_cons, List.take_zero, List.drop_succ_cons, List.drop_zero]
    repeat (first | go_big_quiet_skip | (go_big_quiet_want; go_big_quiet_op; first | go_big_quiet_on | (refine Exists.intro _ ⟨fun _ _ => rfl, ?_⟩; go_big_quiet_on) | (refine Exists.intro (.slice a n cp) (And.intro ?_ ?_); (next => (intro w' hC; have c0 := cell_of hC.out.1 2 _ rfl; rw [c0]; exact ⟨rfl, rfl⟩)); go_big_quiet_on) | (refine Exists.intro _ (And.intro ?_ ?_); (next => (intro w' hC; rw [if_pos hkn]; exact ⟨rfl, rfl⟩)); go_big_quiet_on) | (refine Exists.intro _ ⟨fun w' hC => (HPL.out w' hC.out.2).mono fun e w2 hh => ⟨hh.1, by obtain ⟨q, hq⟩ := hh.2; subst hq; exact ⟨hC.out.1, hC.out.2.drewN q⟩⟩, ?_⟩; go_big_quiet_on)))
    refine wpQuiet_nil ?_
    rintro w3 ⟨-, hT3⟩
    have HT3 := Lib.hid hT3
    clear hT3
    go_wp2_with fail
    refine (HCL.out w3 HT3.out).mono ?_
    rintro e w4 ⟨v, rfl, hown, hT4⟩
    have HOUT := Lib.hid (show IntsOut w ((M.recs.drop k).map (·.1)) (.returned v) w4 from ⟨v, rfl, (by
      refine ⟨hown.1, ?_⟩
      rcases hown.2 with hn | ⟨g, cap, cur, hv, hbg, rest⟩
      · exact .inl hn
      · exact .inr ⟨g, cap, cur, hv, Nat.le_trans HT3.out.size hbg, rest⟩), HT3.out.trans' hT4⟩)
    have hvs : ∃ a3 n3 c3, v = .slice a3 n3 c3 := by
      rcases hown.2 with ⟨e, -⟩ | ⟨g, cp, cur, e, -⟩
      · exact ⟨_, _, _, e⟩
      · exact ⟨_, _, _, e⟩
    obtain ⟨a2, n2, cp2, rfl⟩ := hvs
    clear hown hT4
    go_wp2_with fail
    go_ret
    exact HOUT.out
end Go.Proofs.YtljgifbnmgpdbaaGreatDoor

namespace Go.Proofs.YtljgifbnmgpdbaaGreatDoor
open Go Go.RowKit

def MsgOne (w : World) (m : MsgM) (e : Ending) (w' : World) : Prop :=
  ∃ kv, e = .returned (msgV m kv) ∧ KeysAt w' kv m.keys ∧ (∀ b, kv.ownBlock = some b → w.heap.size ≤ b) ∧ Touch [] w w'

def KeysOut (w : World) (ks : List ByteArray) (e : Ending) (w' : World) : Prop :=
  ∃ kv, e = .returned kv ∧ KeysAt w' kv ks ∧ (∀ b, kv.ownBlock = some b → w.heap.size ≤ b) ∧ Touch [] w w'

theorem keys_of_row {w : World} {B : Nat} {v : Value} {ss : List ByteArray} (h : w.ownsRow B 9 1 v ss.length (ss.map .string)) : KeysAt w v ss ∧ ∀ b, v.ownBlock = some b → B ≤ b := by
  refine ⟨?_, fun b hb => (h.lt b hb).1⟩
  have h0 : w.ownsRow 0 9 1 v ss.length (ss.map .string) := by
    refine ⟨h.1, ?_⟩
    rcases h.2 with hn | ⟨g, cap, cur, hv, hb, hg, rest⟩
    · exact .inl hn
    · exact .inr ⟨g, cap, cur, hv, Nat.zero_le _, hg, rest⟩
  have hvs : ∃ a cp, v = .slice a ss.length cp := by
    rcases h.2 with ⟨e, e2⟩ | ⟨g, cp, cur, e, -⟩
    · exact ⟨none, 0, by rw [e2]; exact e⟩
    · exact ⟨_, _, e⟩
  obtain ⟨a, cp, rfl⟩ := hvs
  exact ⟨a, cp, rfl, strs_of_row h0⟩

theorem ksclone_ok (w : World) (kv : Value) (ks : List ByteArray) (h : KeysAt w kv ks) (hl : ks.length ≤ 1000000) : Calls Tryz.prog 153 #[kv] w (KeysOut w ks) := by
  obtain ⟨a, cp, rfl, h⟩ := h
  cases a with
  | none =>
    have hk : ks = [] := by
      cases ks with
      | nil => rfl
      | cons s ks => obtain ⟨b, off, e, -⟩ := h 0 s rfl; cases e
    subst hk
    refine (Tryz.slices_Clone_string_nil 0 cp w).mono ?_
    rintro e w' ⟨rfl, rfl⟩
    exact ⟨.slice none 0 0, rfl, ⟨none, 0, rfl, (fun i s hi => by simp at hi)⟩, (fun b hb => by cases hb), Touch.refl _ _⟩
  | some a =>
    cases ks with
    | nil =>
      refine (Tryz.slices_Clone_string_zero a cp w).mono ?_
      rintro e w' ⟨v, rfl, hown, -, hb⟩
      have := keys_of_row (ss := []) hown
      exact ⟨v, rfl, this.1, this.2, Touch.of_below hb⟩
    | cons s ks =>
      obtain ⟨b, off, e, -⟩ := h 0 s rfl
      injection e with e
      subst e
      refine (Tryz.slices_Clone_string b off (s :: ks).length cp (s :: ks) w (Nat.le_refl _) (by omega) (fun j hj => ?_)).mono ?_
      · obtain ⟨b', off', e, hc⟩ := h j _ (List.getElem?_eq_getElem hj)
        injection e with e
        injection e with e1 e2
        subst e1; subst e2
        rw [hc]
        simp [List.getD_eq_getElem?_getD, List.getElem?_eq_getElem hj]
      · rintro e w' ⟨v, rfl, hown, -, hb⟩
        rw [List.take_length] at hown
        have := keys_of_row hown
        exact ⟨v, rfl, this.1, this.2, Touch.of_below hb⟩

theorem heap_set9 {w : World} {B : Nat} {m : MsgM} {kv : Value} (h : w.heap[B]? = some (msgObj m kv)) (kv' : Value) : (w.setCell ⟨B, 9, none⟩ kv').heap[B]? = some (msgObj m kv') := by
  unfold msgObj at h ⊢
  rw [heap_setCell_at h]; rfl

set_option maxRecDepth 100000 in
set_option maxHeartbeats 2000000 in
theorem copy_ok (w : World) (m : MsgM) (kv : Value) (hk : KeysAt w kv m.keys) (hl : m.keys.length ≤ 1000000) : Calls Tryz.prog 95 #[msgV m kv] w (MsgOne w m) := by
  obtain ⟨w1, hw1⟩ : ∃ w1, w1 = (w.alloc (msgObj m kv)).alloc (msgObj noMsg (.slice none 0 0)) := ⟨_, rfl⟩
  have hT1 : Touch [] w w1 := by rw [hw1]; exact ((Touch.refl _ _).alloc _).alloc _
  have hA := hT1
  have h1 : w1.heap[w.heap.size]? = some (msgObj m kv) := by rw [hw1]; exact heap_alloc_lt (heap_alloc_at _ _) _
  have h2 : w1.heap[w.heap.size + 1]? = some (msgObj noMsg (.slice none 0 0)) := by rw [hw1]; exact heap_at _ _ _ (by simp)
  have hcl := ksclone_ok w1 kv m.keys (hk.quiet hT1) hl
  have c9 := cell_of h1 9 _ rfl
  have H1 := Lib.hid (And.intro h1 (And.intro h2 hT1))
  rw [hw1] at c9
  have HC := Lib.hid hcl
  have HW := Lib.hid hw1
  unfold msgObj noMsg at c9
  clear h1 h2 hT1 hcl hw1 hk hl hA
  unfold msgV
  go_enter Tryz.func95, Tryz.ntmps95
  go_wp2_with fail
  obtain ⟨w2, hw2⟩ : ∃ w2, w2 = w1 := ⟨_, rfl⟩
  have hw := HW.out
  unfold msgObj noMsg at hw
  simp only at hw
  rw [← hw]
  clear hw
  refine HC.out.mono ?_
  rintro e w3 ⟨kv', rfl, hks, hfr, hT3⟩
  obtain ⟨a', cp', rfl, hstr⟩ := hks
  have hks : KeysAt w3 (.slice a' m.keys.length cp') m.keys := ⟨a', cp', rfl, hstr⟩
  clear hstr
  have g1 := hT3.heap H1.out.1 (by simp)
  have g2 := hT3.heap H1.out.2.1 (by simp)
  have f9 := free_of g1 9
  obtain ⟨w4, hw4⟩ : ∃ w4, w4 = w3.setCell ⟨w.heap.size, 9, none⟩ (.slice a' m.keys.length cp') := ⟨_, rfl⟩
  have k1 := heap_set9 g1 (.slice a' m.keys.length cp')
  rw [← hw4] at k1
  have hT4 : Touch [w.heap.size] w3 w4 := by rw [hw4]; exact (Touch.refl _ w3).setCell _ _ _ _ (by simp)
  have k2 := hT4.heap g2 (by simp)
  have HK := Lib.hid (And.intro hks (And.intro hfr (And.intro hT3 (And.intro hT4 (And.intro k1 k2)))))
  have H4 := Lib.hid hw4
  unfold msgObj at g1
  unfold msgObj noMsg at g2 k2
  have c0 := cell_of g1 0 _ rfl
  have c1 := cell_of g1 1 _ rfl
  have c2 := cell_of g1 2 _ rfl
  have c3 := cell_of g1 3 _ rfl
  have c4 := cell_of g1 4 _ rfl
  have c5 := cell_of g1 5 _ rfl
  have c6 := cell_of g1 6 _ rfl
  have c7 := cell_of g1 7 _ rfl
  have c8 := cell_of g1 8 _ rfl
  have c9 := cell_of g1 9 _ rfl
  have x0 := cell_of g2 0 _ rfl
  have x1 := cell_of g2 1 _ rfl
  have x2 := cell_of g2 2 _ rfl
  have x3 := cell_of g2 3 _ rfl
  have x4 := cell_of g2 4 _ rfl
  have x5 := cell_of g2 5 _ rfl
  have x6 := cell_of g2 6 _ rfl
  have x7 := cell_of g2 7 _ rfl
  have x8 := cell_of g2 8 _ rfl
  have x9 := cell_of g2 9 _ rfl
  have y0 := free_of g2 0
  have y1 := free_of g2 1
  have y2 := free_of g2 2
  have y3 := free_of g2 3
  have y4 := free_of g2 4
  have y5 := free_of g2 5
  have y6 := free_of g2 6
  have y7 := free_of g2 7
  have y8 := free_of g2 8
  have y9 := free_of g2 9
  clear hks hfr hT3 hT4 g1 g2 k1 hw4
  go_wp2_with fail
  rw [← H4.out]
  obtain ⟨zf, hTF⟩ := store10 k2 (.int .i64 m.kind) (.int .i64 m.queue) (.int .i64 m.due) (.int .i64 m.retry) (.int .i64 m.ref) (.int .i64 m.born) (.string m.topic) (.string m.tag) (.string m.body) (.slice a' m.keys.length cp')
  obtain ⟨w5, hw5⟩ : ∃ w5, w5 = ((((((((((w4.setCell ⟨w.heap.size + 1, 0, none⟩ (.int .i64 m.kind)).setCell ⟨w.heap.size + 1, 1, none⟩ (.int .i64 m.queue)).setCell ⟨w.heap.size + 1, 2, none⟩ (.int .i64 m.due)).setCell ⟨w.heap.size + 1, 3, none⟩ (.int .i64 m.retry)).setCell ⟨w.heap.size + 1, 4, none⟩ (.int .i64 m.ref)).setCell ⟨w.heap.size + 1, 5, none⟩ (.int .i64 m.born)).setCell ⟨w.heap.size + 1, 6, none⟩ (.string m.topic)).setCell ⟨w.heap.size + 1, 7, none⟩ (.string m.tag)).setCell ⟨w.heap.size + 1, 8, none⟩ (.string m.body)).setCell ⟨w.heap.size + 1, 9, none⟩ (.slice a' m.keys.length cp')) := ⟨_, rfl⟩
  rw [← hw5] at zf hTF ⊢
  clear hw5
  have s0 := cell_of zf 0 _ rfl
  have s1 := cell_of zf 1 _ rfl
  have s2 := cell_of zf 2 _ rfl
  have s3 := cell_of zf 3 _ rfl
  have s4 := cell_of zf 4 _ rfl
  have s5 := cell_of zf 5 _ rfl
  have s6 := cell_of zf 6 _ rfl
  have s7 := cell_of zf 7 _ rfl
  have s8 := cell_of zf 8 _ rfl
  have s9 := cell_of zf 9 _ rfl
  refine bodyPost_ret (v := msgV m (.slice a' m.keys.length cp')) (by simp [results, Tryz.results95, go_sem, msgV, s0, s1, s2, s3, s4, s5, s6, s7, s8, s9]) rfl ⟨_, rfl, ?_, ?_, ?_⟩
  · exact (HK.out.1.touch HK.out.2.2.2.1 (fun b hb => by
      have h1 := HK.out.2.1 b hb
      have h2 := lt_of_heap H1.out.1
      simp; omega)).touch hTF (fun b hb => by
      have h1 := HK.out.2.1 b hb
      have h2 := lt_of_heap H1.out.2.1
      simp; omega)
  · intro b hb
    have h1 := HK.out.2.1 b hb
    have h2 := H1.out.2.2.size
    omega
  · exact ((H1.out.2.2.trans' HK.out.2.2.1).trans HK.out.2.2.2.1 (fun x hx => by simp at hx; right; omega)).trans hTF (fun x hx => by simp at hx; right; omega)
end Go.Proofs.YtljgifbnmgpdbaaGreatDoor

namespace Go.Proofs.YtljgifbnmgpdbaaGreatDoor
open Go Go.RowKit

def deliveredM (id : Int) (m : MsgM) (now : Int) : MsgM := { m with kind := 3, ref := id, born := now }

theorem store3 {w : World} {B : Nat} {m : MsgM} {kv : Value} (h : w.heap[B]? = some (msgObj m kv)) (a b c : Int) :
    (((w.setCell ⟨B, 0, none⟩ (.int .i64 a)).setCell ⟨B, 4, none⟩ (.int .i64 b)).setCell ⟨B, 5, none⟩ (.int .i64 c)).heap[B]? = some (msgObj { m with kind := a, ref := b, born := c } kv) ∧
    Touch [B] w (((w.setCell ⟨B, 0, none⟩ (.int .i64 a)).setCell ⟨B, 4, none⟩ (.int .i64 b)).setCell ⟨B, 5, none⟩ (.int .i64 c)) := by
  unfold msgObj at h ⊢
  refine ⟨?_, (((Touch.refl [B] w).setCell B 0 none _ (.inl (by simp))).setCell B 4 none _ (.inl (by simp))).setCell B 5 none _ (.inl (by simp))⟩
  have h0 : (w.setCell ⟨B, 0, none⟩ (.int .i64 a)).heap[B]? = some (.cells #[.int .i64 a, .int .i64 m.queue, .int .i64 m.due, .int .i64 m.retry, .int .i64 m.ref, .int .i64 m.born, .string m.topic, .string m.tag, .string m.body, kv] 46 (0, 0)) := by rw [heap_setCell_at h]; rfl
  have h1 : ((w.setCell ⟨B, 0, none⟩ (.int .i64 a)).setCell ⟨B, 4, none⟩ (.int .i64 b)).heap[B]? = some (.cells #[.int .i64 a, .int .i64 m.queue, .int .i64 m.due, .int .i64 m.retry, .int .i64 b, .int .i64 m.born, .string m.topic, .string m.tag, .string m.body, kv] 46 (0, 0)) := by rw [heap_setCell_at h0]; rfl
  rw [heap_setCell_at h1]; rfl

set_option maxRecDepth 100000 in
set_option maxHeartbeats 1000000 in
theorem delivered_ok (w : World) (id : Int) (m : MsgM) (now : Int) (kv : Value) (hk : KeysAt w kv m.keys) (hl : m.keys.length ≤ 1000000) : Calls Tryz.prog 45 #[.int .i64 id, msgV m kv, .int .i64 now] w (MsgOne w (deliveredM id m now)) := by
  obtain ⟨w1, hw1⟩ : ∃ w1, w1 = (w.alloc (msgObj m kv)).alloc (msgObj noMsg (.slice none 0 0)) := ⟨_, rfl⟩
  have hT1 : Touch [] w w1 := by rw [hw1]; exact ((Touch.refl _ _).alloc _).alloc _
  have h1 : w1.heap[w.heap.size]? = some (msgObj m kv) := by rw [hw1]; exact heap_alloc_lt (heap_alloc_at _ _) _
  have h2 : w1.heap[w.heap.size + 1]? = some (msgObj noMsg (.slice none 0 0)) := by rw [hw1]; exact heap_at _ _ _ (by simp)
  have hcl := copy_ok w1 m kv (hk.quiet hT1) hl
  have H1 := Lib.hid (And.intro h1 (And.intro h2 hT1))
  have HC := Lib.hid hcl
  have HW := Lib.hid hw1
  have h1' := h1
  unfold msgObj at h1'
  have c0 := cell_of h1' 0 _ rfl
  have c1 := cell_of h1' 1 _ rfl
  have c2 := cell_of h1' 2 _ rfl
  have c3 := cell_of h1' 3 _ rfl
  have c4 := cell_of h1' 4 _ rfl
  have c5 := cell_of h1' 5 _ rfl
  have c6 := cell_of h1' 6 _ rfl
  have c7 := cell_of h1' 7 _ rfl
  have c8 := cell_of h1' 8 _ rfl
  have c9 := cell_of h1' 9 _ rfl
  rw [hw1] at c0 c1 c2 c3 c4 c5 c6 c7 c8 c9
  unfold msgObj noMsg at c0 c1 c2 c3 c4 c5 c6 c7 c8 c9
  clear h1 h2 hT1 hcl hw1 hk hl h1'
  unfold msgV
  go_enter Tryz.func45, Tryz.ntmps45
  go_wp2_with fail
  have hw := HW.out
  unfold msgObj noMsg at hw
  simp only at hw
  rw [← hw]
  clear hw
  clear c0 c1 c2 c3 c4 c5 c6 c7 c8 c9
  refine HC.out.mono ?_
  rintro e w3 ⟨kv', rfl, hks, hfr, hT3⟩
  obtain ⟨a', cp', rfl, hstr⟩ := hks
  have hks : KeysAt w3 (.slice a' m.keys.length cp') m.keys := ⟨a', cp', rfl, hstr⟩
  clear hstr
  have g1 := hT3.heap H1.out.1 (by simp)
  have g2 := hT3.heap H1.out.2.1 (by simp)
  unfold msgObj at g1
  obtain ⟨k1, hT4⟩ := store10 g1 (.int .i64 m.kind) (.int .i64 m.queue) (.int .i64 m.due) (.int .i64 m.retry) (.int .i64 m.ref) (.int .i64 m.born) (.string m.topic) (.string m.tag) (.string m.body) (.slice a' m.keys.length cp')
  obtain ⟨w4, hw4⟩ : ∃ w4, w4 = ((((((((((w3.setCell ⟨w.heap.size, 0, none⟩ (.int .i64 m.kind)).setCell ⟨w.heap.size, 1, none⟩ (.int .i64 m.queue)).setCell ⟨w.heap.size, 2, none⟩ (.int .i64 m.due)).setCell ⟨w.heap.size, 3, none⟩ (.int .i64 m.retry)).setCell ⟨w.heap.size, 4, none⟩ (.int .i64 m.ref)).setCell ⟨w.heap.size, 5, none⟩ (.int .i64 m.born)).setCell ⟨w.heap.size, 6, none⟩ (.string m.topic)).setCell ⟨w.heap.size, 7, none⟩ (.string m.tag)).setCell ⟨w.heap.size, 8, none⟩ (.string m.body)).setCell ⟨w.heap.size, 9, none⟩ (.slice a' m.keys.length cp')) := ⟨_, rfl⟩
  rw [← hw4] at k1 hT4
  obtain ⟨k3, hT5⟩ := store3 (m := m) k1 3 id now
  obtain ⟨w5, hw5⟩ : ∃ w5, w5 = (((w4.setCell ⟨w.heap.size, 0, none⟩ (.int .i64 3)).setCell ⟨w.heap.size, 4, none⟩ (.int .i64 id)).setCell ⟨w.heap.size, 5, none⟩ (.int .i64 now)) := ⟨_, rfl⟩
  rw [← hw5] at k3 hT5
  have k2 := hT5.heap (hT4.heap g2 (by simp)) (by simp)
  have HK := Lib.hid (And.intro hks (And.intro hfr (And.intro hT3 (And.intro hT4 (And.intro hT5 (And.intro k3 k2))))))
  have H4 := Lib.hid hw4
  have H5 := Lib.hid hw5
  have K1 := Lib.hid k1
  have c0 := cell_of g1 0 _ rfl
  have c1 := cell_of g1 1 _ rfl
  have c2 := cell_of g1 2 _ rfl
  have c3 := cell_of g1 3 _ rfl
  have c4 := cell_of g1 4 _ rfl
  have c5 := cell_of g1 5 _ rfl
  have c6 := cell_of g1 6 _ rfl
  have c7 := cell_of g1 7 _ rfl
  have c8 := cell_of g1 8 _ rfl
  have c9 := cell_of g1 9 _ rfl
  have z0 := free_of g1 0
  have z1 := free_of g1 1
  have z2 := free_of g1 2
  have z3 := free_of g1 3
  have z4 := free_of g1 4
  have z5 := free_of g1 5
  have z6 := free_of g1 6
  have z7 := free_of g1 7
  have z8 := free_of g1 8
  have z9 := free_of g1 9
  clear hks hfr hT3 hT4 hT5 g1 g2 k1 k2 k3 hw4 hw5
  unfold msgV
  go_upto_region 2 with fail
  rw [← H4.out]
  clear c0 c1 c2 c3 c4 c5 c6 c7 c8 c9 z0 z1 z2 z3 z4 z5 z6 z7 z8 z9
  have k1 := K1.out
  have c0 := cell_of k1 0 _ rfl
  have c4 := cell_of k1 4 _ rfl
  have c5 := cell_of k1 5 _ rfl
  have z0 := free_of k1 0
  have z4 := free_of k1 4
  have z5 := free_of k1 5
  clear k1
  go_upto_region 3 with fail
  rw [← H5.out]
  clear c0 c4 c5 z0 z4 z5
  have k2 := HK.out.2.2.2.2.2.2
  have k3 := HK.out.2.2.2.2.2.1
  unfold msgObj noMsg at k2
  unfold msgObj at k3
  have c0 := cell_of k3 0 _ rfl
  have c1 := cell_of k3 1 _ rfl
  have c2 := cell_of k3 2 _ rfl
  have c3 := cell_of k3 3 _ rfl
  have c4 := cell_of k3 4 _ rfl
  have c5 := cell_of k3 5 _ rfl
  have c6 := cell_of k3 6 _ rfl
  have c7 := cell_of k3 7 _ rfl
  have c8 := cell_of k3 8 _ rfl
  have c9 := cell_of k3 9 _ rfl
  have x0 := cell_of k2 0 _ rfl
  have x1 := cell_of k2 1 _ rfl
  have x2 := cell_of k2 2 _ rfl
  have x3 := cell_of k2 3 _ rfl
  have x4 := cell_of k2 4 _ rfl
  have x5 := cell_of k2 5 _ rfl
  have x6 := cell_of k2 6 _ rfl
  have x7 := cell_of k2 7 _ rfl
  have x8 := cell_of k2 8 _ rfl
  have x9 := cell_of k2 9 _ rfl
  have y0 := free_of k2 0
  have y1 := free_of k2 1
  have y2 := free_of k2 2
  have y3 := free_of k2 3
  have y4 := free_of k2 4
  have y5 := free_of k2 5
  have y6 := free_of k2 6
  have y7 := free_of k2 7
  have y8 := free_of k2 8
  have y9 := free_of k2 9
  have K2 := Lib.hid k2
  clear k2 k3
  go_wp2_with fail
  have k2 := K2.out
  obtain ⟨zf, hTF⟩ := store10 k2 (.int .i64 3) (.int .i64 m.queue) (.int .i64 m.due) (.int .i64 m.retry) (.int .i64 id) (.int .i64 now) (.string m.topic) (.string m.tag) (.string m.body) (.slice a' m.keys.length cp')
  obtain ⟨w6, hw6⟩ : ∃ w6, w6 = ((((((((((w5.setCell ⟨w.heap.size + 1, 0, none⟩ (.int .i64 3)).setCell ⟨w.heap.size + 1, 1, none⟩ (.int .i64 m.queue)).setCell ⟨w.heap.size + 1, 2, none⟩ (.int .i64 m.due)).setCell ⟨w.heap.size + 1, 3, none⟩ (.int .i64 m.retry)).setCell ⟨w.heap.size + 1, 4, none⟩ (.int .i64 id)).setCell ⟨w.heap.size + 1, 5, none⟩ (.int .i64 now)).setCell ⟨w.heap.size + 1, 6, none⟩ (.string m.topic)).setCell ⟨w.heap.size + 1, 7, none⟩ (.string m.tag)).setCell ⟨w.heap.size + 1, 8, none⟩ (.string m.body)).setCell ⟨w.heap.size + 1, 9, none⟩ (.slice a' m.keys.length cp')) := ⟨_, rfl⟩
  rw [← hw6] at zf hTF ⊢
  clear hw6 k2 c0 c1 c2 c3 c4 c5 c6 c7 c8 c9 x0 x1 x2 x3 x4 x5 x6 x7 x8 x9 y0 y1 y2 y3 y4 y5 y6 y7 y8 y9
  have s0 := cell_of zf 0 _ rfl
  have s1 := cell_of zf 1 _ rfl
  have s2 := cell_of zf 2 _ rfl
  have s3 := cell_of zf 3 _ rfl
  have s4 := cell_of zf 4 _ rfl
  have s5 := cell_of zf 5 _ rfl
  have s6 := cell_of zf 6 _ rfl
  have s7 := cell_of zf 7 _ rfl
  have s8 := cell_of zf 8 _ rfl
  have s9 := cell_of zf 9 _ rfl
  refine bodyPost_ret (v := msgV (deliveredM id m now) (.slice a' m.keys.length cp')) (by simp [results, Tryz.results45, go_sem, msgV, deliveredM, s0, s1, s2, s3, s4, s5, s6, s7, s8, s9]) rfl ⟨_, rfl, ?_, ?_, ?_⟩
  · have hb1 : ∀ b, (Value.slice a' m.keys.length cp').ownBlock = some b → w1.heap.size ≤ b := HK.out.2.1
    have l1 := lt_of_heap H1.out.1
    have l2 := lt_of_heap H1.out.2.1
    exact (((HK.out.1.touch HK.out.2.2.2.1 (fun b hb => by have h1 := hb1 b hb; simp; omega)).touch HK.out.2.2.2.2.1 (fun b hb => by have h1 := hb1 b hb; simp; omega))).touch hTF (fun b hb => by have h1 := hb1 b hb; simp; omega)
  · intro b hb
    have h1 := HK.out.2.1 b hb
    have h2 := H1.out.2.2.size
    omega
  · exact (((H1.out.2.2.trans' HK.out.2.2.1).trans HK.out.2.2.2.1 (fun x hx => by simp at hx; right; omega)).trans HK.out.2.2.2.2.1 (fun x hx => by simp at hx; right; omega)).trans hTF (fun x hx => by simp at hx; right; omega)
end Go.Proofs.YtljgifbnmgpdbaaGreatDoor

namespace Go.Proofs.YtljgifbnmgpdbaaGreatDoor
open Go Go.RowKit

def IntRow (w : World) (v : Value) (l : List Int) : Prop :=
  (v = .slice none 0 0 ∧ l = []) ∨
  ∃ g k cp cur, v = .slice (some ⟨g, k, none⟩) l.length cp ∧ w.heap[g]? = some (.cells cur 3 (0, 0)) ∧ l.length ≤ cp ∧ k + cp ≤ cur.size ∧ cp ≤ maxLen ∧ ∀ (j : Nat) (x : Int), l[j]? = some x → cur[k + j]? = some (Value.int .i64 x)

/-- What is read, only. -/
def IntsAt (w : World) (v : Value) (l : List Int) : Prop :=
  (∃ a c, v = .slice a 0 c ∧ l = []) ∨ ∃ b o c, v = .slice (some ⟨b, o, none⟩) l.length c ∧ ∀ (j : Nat) (x : Int), l[j]? = some x → w.cell? ⟨b, o + j, none⟩ = some (Value.int .i64 x)

theorem IntRow.nil (w : World) : IntRow w (.slice none 0 0) [] := .inl ⟨rfl, rfl⟩
theorem IntRow.form {w : World} {v : Value} {l : List Int} (h : IntRow w v l) : ∃ a cp, v = .slice a l.length cp := by
  rcases h with ⟨rfl, rfl⟩ | ⟨g, k, cp, cur, rfl, -⟩ <;> exact ⟨_, _, rfl⟩
theorem IntRow.lt {w : World} {v : Value} {l : List Int} (h : IntRow w v l) : ∀ b, v.ownBlock = some b → b < w.heap.size := by
  intro b hb
  rcases h with ⟨rfl, rfl⟩ | ⟨g, k, cp, cur, rfl, hg, -⟩
  · cases hb
  · simp [Value.ownBlock] at hb; subst hb; exact lt_of_heap hg
theorem IntRow.touch {w w' : World} {v : Value} {l : List Int} {F : List Nat} (h : IntRow w v l) (hT : Touch F w w') (hF : ∀ b, v.ownBlock = some b → b ∉ F) : IntRow w' v l := by
  rcases h with ⟨rfl, rfl⟩ | ⟨g, k, cp, cur, rfl, hg, rest⟩
  · exact .inl ⟨rfl, rfl⟩
  · exact .inr ⟨g, k, cp, cur, rfl, hT.heap hg (hF g rfl), rest⟩
theorem IntRow.cell {w : World} {v : Value} {l : List Int} (h : IntRow w v l) {j : Nat} {x : Int} (hx : l[j]? = some x) : ∃ g k cp, v = .slice (some ⟨g, k, none⟩) l.length cp ∧ w.cell? ⟨g, k + j, none⟩ = some (.int .i64 x) := by
  rcases h with ⟨rfl, rfl⟩ | ⟨g, k, cp, cur, rfl, hg, -, -, -, hc⟩
  · simp at hx
  · exact ⟨g, k, cp, rfl, cell_of hg (k + j) _ (hc j x hx)⟩
theorem IntRow.at {w : World} {v : Value} {l : List Int} (h : IntRow w v l) : IntsAt w v l := by
  rcases h with ⟨rfl, rfl⟩ | ⟨g, k, cp, cur, rfl, hg, -, -, -, hc⟩
  · exact .inl ⟨_, _, rfl, rfl⟩
  · exact .inr ⟨_, _, _, rfl, fun j x hx => cell_of hg (k + j) _ (hc j x hx)⟩
theorem IntsAt.touch {w w' : World} {v : Value} {l : List Int} {F : List Nat} (h : IntsAt w v l) (hT : Touch F w w') (hF : ∀ b, v.ownBlock = some b → b ∉ F) : IntsAt w' v l := by
  rcases h with ⟨a, c, rfl, rfl⟩ | ⟨b, o, c, rfl, hc⟩
  · exact .inl ⟨_, _, rfl, rfl⟩
  · exact .inr ⟨b, o, c, rfl, fun j x hx => hT.cell (hc j x hx) (hF b rfl)⟩

theorem IntRow.tail {w : World} {v : Value} {x : Int} {l : List Int} (h : IntRow w v (x :: l)) :
    ∃ a cp, v = .slice a (l.length + 1) cp ∧ 1 ≤ cp ∧ IntRow w (.slice (if cp = 1 then a else Option.map (fun x => x.add 1) a) l.length (cp - 1)) l := by
  rcases h with ⟨-, e⟩ | ⟨g, k, cp, cur, rfl, hg, hn, hk, hm, hc⟩
  · cases e
  · refine ⟨_, cp, rfl, by simp at hn; omega, ?_⟩
    simp only [List.length_cons] at hn
    by_cases h1 : cp = 1
    · rw [if_pos h1]
      have hl : l.length = 0 := by omega
      have hl0 : l = [] := List.eq_nil_of_length_eq_zero hl
      subst hl0
      exact .inr ⟨g, k, cp - 1, cur, rfl, hg, by simp, by omega, by omega, fun j y hy => by simp at hy⟩
    · rw [if_neg h1, Option.map_some, addr_add]
      refine .inr ⟨g, k + 1, cp - 1, cur, rfl, hg, by omega, by omega, by omega, fun j y hy => ?_⟩
      have := hc (j + 1) y (by simpa using hy)
      rw [show k + 1 + j = k + (j + 1) by omega]
      exact this

def IntMade (w : World) (v : Value) (l : List Int) (v' : Value) (w' : World) : Prop :=
  IntRow w' v' l ∧ Touch v.ownBlock.toList w w' ∧ ∀ g, v'.ownBlock = some g → v.ownBlock = some g ∨ w.heap.size ≤ g

theorem ints_append {w : World} {ty : TypeId} {v x : Value} {l news : List Int} (h : IntRow w v l) (hx : IntsAt w x news) (hl : l.length + news.length ≤ 10000000) :
    ∃ v' w', (Builtin.append_ #[43, 43] ty #[v, x]).run Tryz.prog w = .ok v' w' ∧ IntMade w v (l ++ news) v' w' := by
  obtain ⟨i, hi, hz⟩ := Option.map_eq_some_iff.1 info_int
  simp only [Prod.mk.injEq] at hz
  obtain ⟨hz0, hz1, hz2⟩ := hz
  have ht := Tryz.underlying43
  have hself : IntMade w v l v w := ⟨h, Touch.refl _ _, fun g hg => .inl hg⟩
  rcases hx with ⟨xa, xc, rfl, rfl⟩ | ⟨adb, ado, c, rfl, hc0⟩
  · rw [List.append_nil]
    refine ⟨v, w, ?_, hself⟩
    cases xa with
    | none =>
      rcases h with ⟨rfl, rfl⟩ | ⟨g, k, cp, cur, rfl, hg, hn, hk, hm, hcu⟩
      · simp [Builtin.append_, run_underlying ht, sizeOf, typeInfo, hi, Builtin.lenOf, Builtin.firstCells]
      · simp [Builtin.append_, run_underlying ht, sizeOf, typeInfo, hi, Builtin.lenOf, Builtin.firstCells, hn, storeCells]
    | some xa =>
      rcases h with ⟨rfl, rfl⟩ | ⟨g, k, cp, cur, rfl, hg, hn, hk, hm, hcu⟩
      · simp [Builtin.append_, run_underlying ht, sizeOf, typeInfo, hi, Builtin.lenOf, Builtin.firstCells, loadCells, loadCellsFrom]
      · simp [Builtin.append_, run_underlying ht, sizeOf, typeInfo, hi, Builtin.lenOf, Builtin.firstCells, hn, storeCells, loadCells, loadCellsFrom]
  · obtain ⟨ad, had⟩ : ∃ ad : Addr, ad = ⟨adb, ado, none⟩ := ⟨_, rfl⟩
    have hc : ∀ (j : Nat) (x : Int), news[j]? = some x → w.cell? (ad.add j) = some (Value.int .i64 x) := fun j x hx => by rw [had, addr_add]; exact hc0 j x hx
    rw [← had]
    have hc' : ∀ (j : Nat) (u : Value), (news.map (Value.int .i64))[j]? = some u → w.cell? (ad.add j) = some u := by
      intro j u hu
      rw [List.getElem?_map] at hu
      obtain ⟨y, hy, rfl⟩ := Option.map_eq_some_iff.1 hu
      exact hc j y hy
    have h1 : ∀ u ∈ news.map (Value.int .i64), u.oneCell' = true := by simp [Value.oneCell']
    have hlen : (news.map (Value.int .i64)).length = news.length * i.size := by rw [hz1]; simp
    rcases h with ⟨rfl, rfl⟩ | ⟨g, k, cp, cur, rfl, hg, hn, hk, hm, hcu⟩
    · by_cases hm : news.length = 0
      · have hn : news = [] := List.eq_nil_of_length_eq_zero hm
        subst hn
        refine ⟨_, w, ?_, hself⟩
        simp [Builtin.append_, run_underlying ht, sizeOf, typeInfo, hi, Builtin.lenOf, Builtin.firstCells, loadCells, loadCellsFrom]
      · have hr := run_append_nil (P := Tryz.prog) w 43 ty 3 i (.int .i64 0) ht hi hz0 ad news.length c _ hlen hc' (by omega) (by omega) (by rw [hz2]; omega)
        refine ⟨_, _, hr, .inr ⟨w.heap.size, 0, grownCap w news.length 0 3, _, by simp, heap_alloc_new w.drew _, by simpa using grownCap_ge w news.length 0 3, ?_, grownCap_le_maxLen w _ _ _ (by simp only [maxLen]; simp at hl; omega), ?_⟩, ?_, ?_⟩
        · have := grownCap_ge w news.length 0 3
          simp [size_zeroCells, Value.cells]; omega
        · intro j y hy
          have hj : j < news.length := by simpa using (List.getElem?_eq_some_iff.1 hy).1
          rw [Nat.zero_add, Array.getElem?_append_left (by simpa using hj)]
          simpa using hy
        · exact ((Touch.refl _ w).drew).alloc _
        · intro g hg; simp [Value.ownBlock] at hg; right; omega
    · by_cases hroom : l.length + news.length ≤ cp
      · have hf := run_firstCells_some (P := Tryz.prog) w i.size news.length ad news.length c _ hlen hc'
        have hst := run_storeCells_at Tryz.prog g (k + l.length) 3 (news.map (Value.int .i64)) 0 cur w hg (by simp; omega) h1
        simp only [Nat.add_zero] at hst
        have hr : (Builtin.append_ #[43, 43] ty #[.slice (some ⟨g, k, none⟩) l.length cp, .slice (some ad) news.length c]).run Tryz.prog w =
            .ok (.slice (some ⟨g, k, none⟩) (l.length + news.length) cp) (w.setRow g (cur.toList.take (k + l.length) ++ news.map (Value.int .i64) ++ cur.toList.drop (k + l.length + (news.map (Value.int .i64)).length)).toArray) := by
          rw [hz1] at hf
          simp [Builtin.append_, run_underlying ht, sizeOf, typeInfo, hi, hz1, Builtin.lenOf, hroom, hf, addr_add]
          rw [List.length_map] at hst
          rw [hst]
          simp only [Result.andThen_ok, List.append_assoc]
        refine ⟨_, _, hr, .inr ⟨g, k, cp, _, by simp, setRow_heap w g cur _ _ _ hg, by simpa using hroom, by simp; omega, hm, ?_⟩, ?_, fun b hb => .inl hb⟩
        · intro j y hy
          have hA : (cur.toList.take (k + l.length)).length = k + l.length := by simp; omega
          by_cases hj : j < l.length
          · rw [List.getElem?_append_left hj] at hy
            have h2 := hcu j y hy
            simp only [List.getElem?_toArray]
            rw [List.append_assoc, List.getElem?_append_left (by rw [hA]; omega), List.getElem?_take, if_pos (by omega)]
            simpa using h2
          · rw [List.getElem?_append_right (by omega)] at hy
            have hj2 : j - l.length < news.length := (List.getElem?_eq_some_iff.1 hy).1
            simp only [List.getElem?_toArray]
            rw [List.append_assoc, List.getElem?_append_right (by rw [hA]; omega), hA, List.getElem?_append_left (by simp; omega), show k + j - (k + l.length) = j - l.length by omega, List.getElem?_map, hy]
            rfl
        · exact ⟨rfl, rfl, rfl, by simp [World.setRow], fun i hi hF => setRow_other w g i _ (fun e => hF (by simp [Value.ownBlock, e]))⟩
      · have hr := run_append_grow (P := Tryz.prog) w 43 ty 3 i (.int .i64 0) ht hi hz0 ⟨g, k, none⟩ l.length cp (l.map (Value.int .i64)) (by rw [hz1]; simp) (fun j u hu => by
          rw [List.getElem?_map] at hu
          obtain ⟨y, hy, rfl⟩ := Option.map_eq_some_iff.1 hu
          rw [addr_add]
          exact cell_of hg (k + j) _ (hcu j y hy)) ad news.length c _ hlen hc' (by omega) (by omega) (growslice_fits (by omega) (by rw [hz2]; omega))
        have hge := grownCap_ge w (l.length + news.length) cp 3
        refine ⟨_, _, hr, .inr ⟨w.heap.size, 0, grownCap w (l.length + news.length) cp 3, _, by simp, heap_alloc_new w.drew _, by simpa using hge, ?_, grownCap_le_maxLen w _ _ _ (by simp only [maxLen]; omega), ?_⟩, ?_, ?_⟩
        · simp [size_zeroCells, Value.cells]; omega
        · intro j y hy
          have hj : j < (l ++ news).length := (List.getElem?_eq_some_iff.1 hy).1
          rw [Nat.zero_add, Array.getElem?_append_left (by simp at hj ⊢; omega)]
          have : (List.map (Value.int .i64) l).toArray ++ (List.map (Value.int .i64) news).toArray = (List.map (Value.int .i64) (l ++ news)).toArray := by simp
          rw [this, List.getElem?_toArray, List.getElem?_map, hy]
          rfl
        · exact ((Touch.refl _ w).drew).alloc _
        · intro b hb; simp [Value.ownBlock] at hb; right; omega
end Go.Proofs.YtljgifbnmgpdbaaGreatDoor

namespace Go.Proofs.YtljgifbnmgpdbaaGreatDoor
open Go Go.RowKit

abbrev PendM := List (Int × (Int × Int))
def oneV (x : Int × Int) : Value := .agg #[.int .i64 x.1, .int .i64 x.2]
def pendGet (P : PendM) (id : Int) : Int × Int := ((P.find? fun x => decide (x.1 = id)).map (·.2)).getD (0, 0)
def pendMap (P : PendM) : List (Int × Value) := P.map fun p => (p.1, oneV p.2)
def pendSet (P : PendM) (id : Int) (x : Int × Int) : PendM := if id ∈ P.map (·.1) then P.map fun y => if y.1 = id then (id, x) else y else P ++ [(id, x)]

theorem pend_look (P : PendM) (id : Int) : (getK (pendMap P) id).getD (oneV (0, 0)) = oneV (pendGet P id) := by
  unfold pendMap pendGet getK
  induction P with
  | nil => rfl
  | cons p P ih =>
    simp only [List.map_cons, List.find?_cons]
    by_cases h : p.1 = id
    · simp [h]
    · simpa [h] using ih

theorem pend_upd (P : PendM) (id : Int) (x : Int × Int) : upd (pendMap P) id (oneV x) = pendMap (pendSet P id x) := by
  unfold upd pendSet pendMap
  have hk : List.map (fun y : Int × Value => y.1) (List.map (fun p : Int × Int × Int => (p.1, oneV p.2)) P) = P.map (·.1) := by simp [Function.comp_def]
  rw [hk]
  by_cases h : id ∈ P.map (·.1)
  · rw [if_pos h, if_pos h, List.map_map, List.map_map]
    apply List.map_congr_left
    intro y _
    by_cases e : y.1 = id <;> simp [e]
  · rw [if_neg h, if_neg h]; simp

theorem pendSet_keys (P : PendM) (id : Int) (x : Int × Int) : (pendSet P id x).map (·.1) = if id ∈ P.map (·.1) then P.map (·.1) else P.map (·.1) ++ [id] := by
  unfold pendSet
  by_cases h : id ∈ P.map (·.1)
  · rw [if_pos h, if_pos h, List.map_map]
    apply List.map_congr_left
    intro y _
    by_cases e : y.1 = id <;> simp [e]
  · rw [if_neg h, if_neg h]; simp

theorem pendSet_nodup {P : PendM} (h : (P.map (·.1)).Nodup) (id : Int) (x : Int × Int) : ((pendSet P id x).map (·.1)).Nodup := by
  rw [pendSet_keys]
  split
  · exact h
  · rename_i hm
    rw [List.nodup_append]
    exact ⟨h, by simp, fun a ha b hb => by simp at hb; subst hb; exact fun e => hm (e ▸ ha)⟩

theorem pendGet_map (P : PendM) (id j : Int) (x : Int × Int) (h : id ∈ P.map (·.1)) : pendGet (P.map fun y => if y.1 = id then (id, x) else y) j = if j = id then x else pendGet P j := by
  unfold pendGet
  induction P with
  | nil => simp at h
  | cons p P ih =>
    simp only [List.map_cons, List.find?_cons]
    by_cases e : p.1 = id
    · subst e
      by_cases hj : j = p.1
      · subst hj; simp
      · have hj' : ¬ p.1 = j := fun e => hj e.symm
        simp only [if_true, hj', decide_false, if_neg hj]
        by_cases hm : p.1 ∈ P.map (·.1)
        · have := ih hm; rw [if_neg hj] at this; exact this
        · congr 2
          apply congrArg (List.find? fun x : Int × Int × Int => decide (x.1 = j))
          conv => rhs; rw [← List.map_id P]
          apply List.map_congr_left
          intro y hy
          have : ¬ y.1 = p.1 := fun e => hm (e ▸ List.mem_map_of_mem hy)
          simp [this]
    · have hm : id ∈ P.map (·.1) := by
        rcases List.mem_cons.1 h with h | h
        · exact absurd h.symm e
        · exact h
      simp only [if_neg e]
      by_cases hj : p.1 = j
      · subst hj; simp [e]
      · simp only [hj, decide_false]; exact ih hm

theorem pendGet_set (P : PendM) (id j : Int) (x : Int × Int) : pendGet (pendSet P id x) j = if j = id then x else pendGet P j := by
  unfold pendSet
  by_cases h : id ∈ P.map (·.1)
  · rw [if_pos h]; exact pendGet_map P id j x h
  · rw [if_neg h]
    unfold pendGet
    rw [List.find?_append]
    by_cases hj : j = id
    · subst hj
      have : P.find? (fun x => decide (x.1 = j)) = none := by
        rw [List.find?_eq_none]; intro y hy; simpa using fun e : y.1 = j => h (e ▸ List.mem_map_of_mem hy)
      simp [this]
    · have hj' : ¬ id = j := fun e => hj e.symm
      cases hf : P.find? (fun x => decide (x.1 = j)) <;> simp [hj, hj']

structure PendAt (w : World) (s mb : Nat) (P : PendM) : Prop where
  cells : w.heap[s]? = some (.cells #[.map (some mb)] 176 (0, 0))
  map : MapOf encI w mb (pendMap P)
  nodup : (P.map (·.1)).Nodup
  apart : s ≠ mb
  low : 8 ≤ s ∧ 8 ≤ mb

theorem PendAt.touch {w w' : World} {s mb : Nat} {P : PendM} {G : List Nat} (h : PendAt w s mb P) (hT : Touch G w w') (h1 : s ∉ G) (h2 : mb ∉ G) : PendAt w' s mb P :=
  ⟨hT.heap h.cells h1, MapAt.touch h.map hT h2, h.nodup, h.apart, h.low⟩

/-- A set, for the layers above. -/
def PendV (w : World) (s : Nat) (F : List Nat) (P : PendM) : Prop := ∃ mb, PendAt w s mb P ∧ F = [s, mb]

section
variable {w w' : World} {s : Nat} {F G : List Nat} {P : PendM}
theorem PendV.lt (h : PendV w s F P) : ∀ b ∈ F, b < w.heap.size := by
  obtain ⟨mb, h, rfl⟩ := h
  intro b hb
  simp at hb
  rcases hb with rfl | rfl
  · exact lt_of_heap h.cells
  · exact MapAt.lt h.map
theorem PendV.low (h : PendV w s F P) : ∀ b ∈ F, 8 ≤ b := by
  obtain ⟨mb, h, rfl⟩ := h
  intro b hb
  simp at hb
  rcases hb with rfl | rfl
  · exact h.low.1
  · exact h.low.2
theorem PendV.self (h : PendV w s F P) : s ∈ F := by obtain ⟨mb, h, rfl⟩ := h; simp
theorem PendV.touch (h : PendV w s F P) (hT : Touch G w w') (hG : ∀ b ∈ F, b ∉ G) : PendV w' s F P := by
  obtain ⟨mb, h, rfl⟩ := h
  exact ⟨mb, ⟨hT.heap h.cells (hG _ (by simp)), MapAt.touch h.map hT (hG _ (by simp)), h.nodup, h.apart, h.low⟩, rfl⟩
theorem PendV.quiet (h : PendV w s F P) (hT : Touch [] w w') : PendV w' s F P := h.touch hT (by simp)
end

theorem one_zero (w : World) : (zeroValue 173).run Tryz.prog w = .ok (oneV (0, 0)) w := by
  kernel_rfl

theorem pend_lookup {w : World} {mb : Nat} {P : PendM} (h : MapOf encI w mb (pendMap P)) (id : Int) : (Instr.lookup 174 (.map (some mb)) (.int .i64 id) false).run Tryz.prog w = .ok (oneV (pendGet P id)) w := by
  have := run_lookup_of keysI Tryz.underlying174 h id (one_zero w)
  rw [pend_look] at this
  exact this

theorem one_f0 (w : World) (a b : Int) : (Instr.field 173 (.agg #[.int .i64 a, .int .i64 b]) 0).run Tryz.prog w = .ok (.int .i64 a) w := by kernel_rfl
theorem one_f1 (w : World) (a b : Int) : (Instr.field 173 (.agg #[.int .i64 a, .int .i64 b]) 1).run Tryz.prog w = .ok (.int .i64 b) w := by kernel_rfl

theorem one_equal (w : World) (a b : Int × Int) : (Op.equal 173 (oneV a) (oneV b)).run Tryz.prog w = .ok (decide (a = b)) w := by
  have hi := fun (w : World) (x y : Int) => run_equalIn_int (P := Tryz.prog) w 9998 3 .i64 .i64 x y Tryz.underlying3
  unfold Op.equal Op.maxDepth
  rw [show (10000 : Nat) = 9998 + 1 + 1 from rfl]
  rw [Op.equalIn]
  simp only [Sem.run_bind, run_underlying Tryz.underlying173, Result.andThen_ok]
  obtain ⟨a1, a2⟩ := a
  obtain ⟨b1, b2⟩ := b
  have hst : (Tryz.prog.stoodInHeld 173) = false := by kernel_rfl
  by_cases h1 : a1 = b1
  · by_cases h2 : a2 = b2
    · simp [oneV, go_sem, Tryz.sizeOf3, part, hi, hst, h1, h2]
    · simp [oneV, go_sem, Tryz.sizeOf3, part, hi, hst, h1, h2]
  · simp [oneV, go_sem, Tryz.sizeOf3, part, hi, hst, h1]
end Go.Proofs.YtljgifbnmgpdbaaGreatDoor

namespace Go.Proofs.YtljgifbnmgpdbaaGreatDoor
open Go Go.RowKit

set_option maxRecDepth 100000 in
set_option maxHeartbeats 1000000 in
theorem pnew_ok (w : World) (hg : 8 ≤ w.heap.size) :
    Calls Tryz.prog 87 #[] w fun e w' => ∃ s F, e = .returned (.pointer (some ⟨s, 0, none⟩)) ∧ PendV w' s F [] ∧ Touch [] w w' ∧ ∀ b ∈ F, w.heap.size ≤ b := by
  have hmm := @run_makeMap Tryz.prog
  go_enter Tryz.func87, Tryz.ntmps87
  go_wp2_with fail
  go_ret
  refine ⟨w.heap.size + 1, [w.heap.size + 1, w.heap.size], rfl, ⟨w.heap.size, ⟨heap_at _ _ _ (by simp), (MapAt.made w).same (Below.heap_alloc _ _ _ (by simp)), by simp, by omega, by omega, by omega⟩, rfl⟩, ((Touch.refl _ _).alloc _).alloc _, ?_⟩
  intro b hb
  simp at hb
  omega

set_option maxRecDepth 100000 in
set_option maxHeartbeats 1000000 in
theorem pstate_ok (w : World) (s : Nat) (F : List Nat) (P : PendM) (h : PendV w s F P) (id : Int) :
    Calls Tryz.prog 52 #[.pointer (some ⟨s, 0, none⟩), .int .i64 id] w fun e w' => e = .returned (.int .i64 (pendGet P id).1) ∧ w = w' := by
  obtain ⟨mb, h, -⟩ := h
  have c0 := cell_of h.cells 0 _ rfl
  have hl := pend_lookup h.map id
  have hf0 := fun w => one_f0 w (pendGet P id).1 (pendGet P id).2
  have hf1 := fun w => one_f1 w (pendGet P id).1 (pendGet P id).2
  unfold oneV at hl
  clear h
  go_enter Tryz.func52, Tryz.ntmps52
  go_wp2_with fail
  go_ret
  exact ⟨rfl, rfl⟩

set_option maxRecDepth 100000 in
set_option maxHeartbeats 1000000 in
theorem pdue_ok (w : World) (s : Nat) (F : List Nat) (P : PendM) (h : PendV w s F P) (id : Int) :
    Calls Tryz.prog 62 #[.pointer (some ⟨s, 0, none⟩), .int .i64 id] w fun e w' => e = .returned (.int .i64 (if (pendGet P id).1 = 1 then (pendGet P id).2 else 0)) ∧ w = w' := by
  have hst := pstate_ok w s F P h id
  obtain ⟨mb, h, -⟩ := h
  have c0 := cell_of h.cells 0 _ rfl
  have hl := pend_lookup h.map id
  have hf0 := fun w => one_f0 w (pendGet P id).1 (pendGet P id).2
  have hf1 := fun w => one_f1 w (pendGet P id).1 (pendGet P id).2
  unfold oneV at hl
  obtain ⟨st, hst0⟩ : ∃ st, st = (pendGet P id).1 := ⟨_, rfl⟩
  obtain ⟨due, hdue0⟩ : ∃ due, due = (pendGet P id).2 := ⟨_, rfl⟩
  rw [← hst0, ← hdue0] at hl hf0 hf1 ⊢
  rw [← hst0] at hst
  clear hst0 hdue0
  have HS := Lib.hid hst
  clear h hst
  go_enter Tryz.func62, Tryz.ntmps62
  go_wp2_with fail
  refine HS.out.mono ?_
  rintro e w' ⟨rfl, rfl⟩
  by_cases h1 : st = 1
  · subst h1
    go_wp2_with fail
    go_ret
    exact ⟨rfl, rfl⟩
  · have h1' : (st != 1) = true := by simpa using h1
    have h1'' : (st == 1) = false := by simpa using h1
    have h1d : decide (st = 1) = false := by simpa using h1
    go_wp2_with fail
    go_ret
    exact ⟨by simp [h1], rfl⟩

def pendEnds (P : PendM) (id st : Int) : Bool × PendM := if (pendGet P id).1 = 1 then (true, pendSet P id (st, 0)) else (false, P)

def PendOut (w : World) (s : Nat) (F : List Nat) (r : Bool × PendM) (e : Ending) (w' : World) : Prop := e = .returned (.bool r.1) ∧ PendV w' s F r.2 ∧ Touch F w w'

set_option maxRecDepth 100000 in
set_option maxHeartbeats 1000000 in
theorem pends_ok (w : World) (s : Nat) (F : List Nat) (P : PendM) (h : PendV w s F P) (id st : Int) :
    Calls Tryz.prog 99 #[.pointer (some ⟨s, 0, none⟩), .int .i64 id, .int .i64 st] w (PendOut w s F (pendEnds P id st)) := by
  have hst := pstate_ok w s F P h id
  have hV := Lib.hid h
  obtain ⟨mb, h, hF⟩ := h
  have c0 := cell_of h.cells 0 _ rfl
  have hne := h.apart
  obtain ⟨w1, hrun1, hm1, hT1, hs1⟩ := run_mapUpdate_of keysI Tryz.underlying174 h.map (by
    have := h.nodup; rw [show (pendMap P).map (·.1) = P.map (·.1) from by simp [pendMap, Function.comp_def]]; exact this) id (oneV (st, 0))
  rw [pend_upd] at hm1
  have hfin : (pendGet P id).1 = 1 → PendOut w s F (pendEnds P id st) (.returned (.bool true)) w1 := by
    intro h1
    unfold PendOut pendEnds
    rw [if_pos h1]
    refine ⟨rfl, ⟨mb, ⟨hT1.heap h.cells (by simpa using hne), hm1, pendSet_nodup h.nodup _ _, hne, h.low⟩, hF⟩, hT1.mono (by simp [hF])⟩
  have HF := Lib.hid hfin
  have HS := Lib.hid hst
  unfold encI oneV at hrun1
  have HR := Lib.hid hrun1
  have hno : (pendGet P id).1 ≠ 1 → PendOut w s F (pendEnds P id st) (.returned (.bool false)) w := by
    intro h1
    unfold PendOut pendEnds
    rw [if_neg h1]
    exact ⟨rfl, hV.out, Touch.refl _ _⟩
  have HN := Lib.hid hno
  obtain ⟨x, hx⟩ : ∃ x, x = (pendGet P id).1 := ⟨_, rfl⟩
  rw [← hx] at HF HN HS
  clear h hst hfin hrun1 hno hm1 hT1 hs1 hne hx
  go_enter Tryz.func99, Tryz.ntmps99
  go_wp2_with fail
  refine HS.out.mono ?_
  rintro e w' ⟨rfl, rfl⟩
  by_cases h1 : x = 1
  · have HF1 := Lib.hid (HF.out h1)
    subst h1
    have hr := HR.out
    go_wp2_with fail
    go_ret
    exact HF1.out
  · have HN1 := Lib.hid (HN.out h1)
    have h1' : (x != 1) = true := by simpa using h1
    have h1'' : (x == 1) = false := by simpa using h1
    have h1d : decide (x = 1) = false := by simpa using h1
    go_wp2_with fail
    go_ret
    exact HN1.out
end Go.Proofs.YtljgifbnmgpdbaaGreatDoor

namespace Go.Proofs.YtljgifbnmgpdbaaGreatDoor
open Go Go.RowKit

def pendNote (P : PendM) (id : Int) (m : MsgM) : Bool × PendM :=
  if id < 0 then (false, P)
  else if m.kind = 3 then pendEnds P m.ref 2
  else if m.kind = 4 then pendEnds P m.ref 3
  else if m.kind = 2 then (if pendGet P id = (0, 0) then (true, pendSet P id (1, m.due)) else (false, P))
  else (false, P)

theorem PendOut.before {w w0 w' : World} {s : Nat} {F : List Nat} {r : Bool × PendM} {e : Ending} (h : PendOut w0 s F r e w') (hT : Touch [] w w0) : PendOut w s F r e w' :=
  ⟨h.1, h.2.1, hT.nil.trans' h.2.2⟩

theorem pend_store {w : World} {s mb : Nat} {P : PendM} (h : PendAt w s mb P) (id : Int) (x : Int × Int) :
    ∃ w', (Instr.mapUpdate 174 (.map (some mb)) (.int .i64 id) (.agg #[.int .i64 x.1, .int .i64 x.2])).run Tryz.prog w = .ok () w' ∧ PendAt w' s mb (pendSet P id x) ∧ Touch [s, mb] w w' := by
  obtain ⟨w1, hrun1, hm1, hT1, hs1⟩ := run_mapUpdate_of keysI Tryz.underlying174 h.map (by
    have := h.nodup; rw [show (pendMap P).map (·.1) = P.map (·.1) from by simp [pendMap, Function.comp_def]]; exact this) id (oneV x)
  rw [pend_upd] at hm1
  exact ⟨w1, hrun1, ⟨hT1.heap h.cells (by simpa using h.apart), hm1, pendSet_nodup h.nodup _ _, h.apart, h.low⟩, hT1.mono (by simp)⟩



set_option maxRecDepth 100000 in
set_option maxHeartbeats 2000000 in
theorem pnote3 (w : World) (s : Nat) (F : List Nat) (P : PendM) (h : PendV w s F P) (id : Int) (h0 : 0 ≤ id) (m : MsgM) (a : Option Addr) (n cp : Nat) (hk : m.kind = 3) :
    Calls Tryz.prog 53 #[.pointer (some ⟨s, 0, none⟩), .int .i64 id, msgV m (.slice a n cp)] w (PendOut w s F (pendEnds P m.ref 2)) := by
  obtain ⟨W, hW⟩ : ∃ W, W = w.alloc (msgObj m (.slice a n cp)) := ⟨_, rfl⟩
  have hT0 : Touch [] w W := by rw [hW]; exact (Touch.refl _ _).alloc _
  obtain ⟨b, hb⟩ : ∃ b, b = w.heap.size := ⟨_, rfl⟩
  have hb0 : W.heap[b]? = some (msgObj m (.slice a n cp)) := by rw [hW, hb]; exact heap_alloc_at _ _
  have hPW := h.quiet hT0
  have hend := pends_ok W s F P hPW m.ref 2
  have c0 := cell_of hb0 0 _ rfl
  have c4 := cell_of hb0 4 _ rfl
  have hid0 : decide (id < 0) = false := by simpa using h0
  rw [hk] at c0
  rw [hW] at c0 c4 hend hT0
  rw [hb] at c0 c4
  clear hb hb0 hPW h
  unfold msgObj at c0 c4 hend hT0
  have HE := Lib.hid hend
  have HT := Lib.hid hT0
  clear hW hend hT0 b
  unfold msgV
  rw [hk] at c0 c4 HE HT ⊢
  go_enter Tryz.func53, Tryz.ntmps53
  go_wp2_with fail
  refine HE.out.mono ?_
  rintro e w' ⟨he, hV, hT⟩
  subst he
  have HF := Lib.hid (And.intro hV hT)
  clear hV hT
  obtain ⟨r1, hr1⟩ : ∃ r1, r1 = (pendEnds P m.ref 2).1 := ⟨_, rfl⟩
  rw [← hr1]
  have HR1 := Lib.hid hr1
  clear hr1
  go_wp2_with fail
  go_ret
  rw [HR1.out]
  exact ⟨rfl, HF.out.1, HT.out.nil.trans' HF.out.2⟩

set_option maxRecDepth 100000 in
set_option maxHeartbeats 2000000 in
theorem pnote4 (w : World) (s : Nat) (F : List Nat) (P : PendM) (h : PendV w s F P) (id : Int) (h0 : 0 ≤ id) (m : MsgM) (a : Option Addr) (n cp : Nat) (hk : m.kind = 4) :
    Calls Tryz.prog 53 #[.pointer (some ⟨s, 0, none⟩), .int .i64 id, msgV m (.slice a n cp)] w (PendOut w s F (pendEnds P m.ref 3)) := by
  obtain ⟨W, hW⟩ : ∃ W, W = w.alloc (msgObj m (.slice a n cp)) := ⟨_, rfl⟩
  have hT0 : Touch [] w W := by rw [hW]; exact (Touch.refl _ _).alloc _
  obtain ⟨b, hb⟩ : ∃ b, b = w.heap.size := ⟨_, rfl⟩
  have hb0 : W.heap[b]? = some (msgObj m (.slice a n cp)) := by rw [hW, hb]; exact heap_alloc_at _ _
  have hPW := h.quiet hT0
  have hend := pends_ok W s F P hPW m.ref 3
  have c0 := cell_of hb0 0 _ rfl
  have c4 := cell_of hb0 4 _ rfl
  have hid0 : decide (id < 0) = false := by simpa using h0
  rw [hk] at c0
  rw [hW] at c0 c4 hend hT0
  rw [hb] at c0 c4
  clear hb hb0 hPW h
  unfold msgObj at c0 c4 hend hT0
  have HE := Lib.hid hend
  have HT := Lib.hid hT0
  clear hW hend hT0 b
  unfold msgV
  rw [hk] at c0 c4 HE HT ⊢
  go_enter Tryz.func53, Tryz.ntmps53
  go_wp2_with fail
  refine HE.out.mono ?_
  rintro e w' ⟨he, hV, hT⟩
  subst he
  have HF := Lib.hid (And.intro hV hT)
  clear hV hT
  obtain ⟨r1, hr1⟩ : ∃ r1, r1 = (pendEnds P m.ref 3).1 := ⟨_, rfl⟩
  rw [← hr1]
  have HR1 := Lib.hid hr1
  clear hr1
  go_wp2_with fail
  go_ret
  rw [HR1.out]
  exact ⟨rfl, HF.out.1, HT.out.nil.trans' HF.out.2⟩

set_option maxRecDepth 100000 in
set_option maxHeartbeats 2000000 in
theorem pnote_neg (w : World) (s : Nat) (F : List Nat) (P : PendM) (h : PendV w s F P) (id : Int) (h0 : id < 0) (m : MsgM) (a : Option Addr) (n cp : Nat) :
    Calls Tryz.prog 53 #[.pointer (some ⟨s, 0, none⟩), .int .i64 id, msgV m (.slice a n cp)] w (PendOut w s F (false, P)) := by
  have hid0 : decide (id < 0) = true := by simpa using h0
  have HP := Lib.hid h
  clear h
  unfold msgV
  go_enter Tryz.func53, Tryz.ntmps53
  go_wp2_with fail
  go_ret
  exact ⟨rfl, HP.out.quiet ((Touch.refl _ _).alloc _), ((Touch.refl _ _).alloc _).nil⟩

set_option maxRecDepth 100000 in
set_option maxHeartbeats 2000000 in
theorem pnote_other (w : World) (s : Nat) (F : List Nat) (P : PendM) (h : PendV w s F P) (id : Int) (h0 : 0 ≤ id) (m : MsgM) (a : Option Addr) (n cp : Nat) (h3 : m.kind ≠ 3) (h4 : m.kind ≠ 4) (h2 : m.kind ≠ 2) :
    Calls Tryz.prog 53 #[.pointer (some ⟨s, 0, none⟩), .int .i64 id, msgV m (.slice a n cp)] w (PendOut w s F (false, P)) := by
  obtain ⟨W, hW⟩ : ∃ W, W = w.alloc (msgObj m (.slice a n cp)) := ⟨_, rfl⟩
  have hT0 : Touch [] w W := by rw [hW]; exact (Touch.refl _ _).alloc _
  obtain ⟨b, hb⟩ : ∃ b, b = w.heap.size := ⟨_, rfl⟩
  have hb0 : W.heap[b]? = some (msgObj m (.slice a n cp)) := by rw [hW, hb]; exact heap_alloc_at _ _
  have hPW := h.quiet hT0
  have c0 := cell_of hb0 0 _ rfl
  rw [hW] at c0
  rw [hb] at c0
  have hid0 : decide (id < 0) = false := by simpa using h0
  obtain ⟨k, hk⟩ : ∃ k, k = m.kind := ⟨_, rfl⟩
  unfold msgObj at c0
  unfold msgV
  rw [← hk] at h3 h4 h2 c0 ⊢
  have e3 : (k == 3) = false := by simpa using h3
  have e4 : (k == 4) = false := by simpa using h4
  have e2 : (k == 2) = false := by simpa using h2
  have HP := Lib.hid h
  clear h hb hb0 hPW hW hT0 b hk h3 h4 h2
  go_enter Tryz.func53, Tryz.ntmps53
  go_wp2_with fail
  go_ret
  exact ⟨rfl, HP.out.quiet ((Touch.refl _ _).alloc _), ((Touch.refl _ _).alloc _).nil⟩
end Go.Proofs.YtljgifbnmgpdbaaGreatDoor

namespace Go.Proofs.YtljgifbnmgpdbaaGreatDoor
open Go Go.RowKit

theorem msg2 {m : MsgM} {k : Int} (h : m.kind = k) (kv : Value) : msgObj m kv = .cells #[.int .i64 k, .int .i64 m.queue, .int .i64 m.due, .int .i64 m.retry, .int .i64 m.ref, .int .i64 m.born, .string m.topic, .string m.tag, .string m.body, kv] 46 (0, 0) := by
  unfold msgObj; rw [h]

set_option maxRecDepth 100000 in
set_option maxHeartbeats 2000000 in
theorem pnote2 (w : World) (s : Nat) (F : List Nat) (P : PendM) (h : PendV w s F P) (id : Int) (h0 : 0 ≤ id) (m : MsgM) (a : Option Addr) (n cp : Nat) (hk : m.kind = 2) :
    Calls Tryz.prog 53 #[.pointer (some ⟨s, 0, none⟩), .int .i64 id, msgV m (.slice a n cp)] w (PendOut w s F (if pendGet P id = (0, 0) then (true, pendSet P id (1, m.due)) else (false, P))) := by
  obtain ⟨W, hW⟩ : ∃ W, W = w.alloc (msgObj m (.slice a n cp)) := ⟨_, rfl⟩
  have hT0 : Touch [] w W := by rw [hW]; exact (Touch.refl _ _).alloc _
  obtain ⟨b, hb⟩ : ∃ b, b = w.heap.size := ⟨_, rfl⟩
  have hb0 : W.heap[b]? = some (msgObj m (.slice a n cp)) := by rw [hW, hb]; exact heap_alloc_at _ _
  have hPW := h.quiet hT0
  have HPW := Lib.hid hPW
  obtain ⟨mb, hP, hF⟩ := hPW
  have c0 := cell_of hb0 0 _ rfl
  have k0 := cell_of hP.cells 0 _ rfl
  have hl := pend_lookup hP.map id
  unfold oneV at hl
  have hid0 : decide (id < 0) = false := by simpa using h0
  have HB := Lib.hid (And.intro hb0 (And.intro hP hF))
  rw [hk] at c0
  rw [hW] at c0 k0 hl
  rw [hb] at c0
  have HT := Lib.hid (And.intro hT0 (And.intro hW hb))
  unfold msgObj at c0 k0 hl
  rw [hk] at c0 k0 hl
  obtain ⟨x, hx⟩ : ∃ x, x = pendGet P id := ⟨_, rfl⟩
  rw [← hx] at hl ⊢
  clear hb hb0 h hP hF hT0 hW hx
  unfold msgV
  rw [hk]
  obtain ⟨st, due⟩ := x
  by_cases hz : (st, due) = (0, 0)
  · rw [if_pos hz]
    obtain ⟨rfl, rfl⟩ := Prod.mk.inj hz
    simp only at hl
    clear hz
    go_enter Tryz.func53, Tryz.ntmps53
    go_wp2_with fail
    refine region_class_tail 8 (fun w' => w'.heap[s]? = some (.cells #[.map (some mb)] 176 (0, 0)) ∧ w'.heap[w.heap.size]? = some (msgObj m (.slice a n cp)) ∧ Touch [] W w') (by kernel_rfl) (by kernel_rfl) ⟨by rw [← msg2 hk, ← HT.out.2.1]; exact HB.out.2.1.cells, by rw [← msg2 hk, ← HT.out.2.1, ← HT.out.2.2]; exact HB.out.1, by rw [← msg2 hk, ← HT.out.2.1]; exact (Touch.refl _ _).drew⟩ ?_
    simp only [List.take_succ_cons, List.take_zero, List.drop_succ_cons, List.drop_zero]
    repeat (first | go_big_quiet_skip | (go_big_quiet_want; go_big_quiet_op; first | go_big_quiet_on | (refine Exists.intro _ ⟨fun _ _ => rfl, ?_⟩; go_big_quiet_on) | (refine Exists.intro (.map (some mb)) (And.intro ?_ ?_); (next => (intro w' hC; have c0 := cell_of hC.out.1 0 _ rfl; rw [c0]; exact ⟨rfl, rfl⟩)); go_big_quiet_on) | (refine Exists.intro (.int .i64 m.due) (And.intro ?_ ?_); (next => (intro w' hC; have c0 := cell_of hC.out.2.1 2 _ rfl; rw [c0]; exact ⟨rfl, rfl⟩)); go_big_quiet_on)))
    refine wpQuiet_nil ?_
    rintro w3 ⟨-, -, hT3⟩
    obtain ⟨w4, hrun4, hP4, hT4⟩ := pend_store (HB.out.2.1.touch hT3 (by simp) (by simp)) id (1, m.due)
    have HF := Lib.hid (show PendOut w s F (true, pendSet P id (1, m.due)) (.returned (.bool true)) w4 from ⟨rfl, ⟨mb, hP4, HB.out.2.2⟩, by rw [HB.out.2.2]; exact HT.out.1.nil.trans' (hT3.nil.trans' hT4)⟩)
    clear hT3 hP4 hT4 hl k0 c0
    simp only at hrun4
    go_wp2_with fail
    go_ret
    exact HF.out
  · rw [if_neg hz]
    have hz1 : (decide (st = 0) && decide (due = 0)) = false := by
      have : ¬ (st = 0 ∧ due = 0) := fun e => hz (by rw [e.1, e.2])
      simpa using this
    simp only at hl
    have HZ := Lib.hid hz
    clear hz
    go_enter Tryz.func53, Tryz.ntmps53
    go_wp2_with fail
    next h1 h2 _ _ => (exact absurd (show (st, due) = (0, 0) by rw [h1, h2]) HZ.out)
    all_goals (go_ret; exact ⟨rfl, by rw [← msg2 hk, ← HT.out.2.1]; exact HPW.out, by rw [← msg2 hk, ← HT.out.2.1]; exact HT.out.1.nil⟩)

theorem pnote_ok (w : World) (s : Nat) (F : List Nat) (P : PendM) (h : PendV w s F P) (id : Int) (m : MsgM) (a : Option Addr) (n cp : Nat) :
    Calls Tryz.prog 53 #[.pointer (some ⟨s, 0, none⟩), .int .i64 id, msgV m (.slice a n cp)] w (PendOut w s F (pendNote P id m)) := by
  unfold pendNote
  split
  · exact pnote_neg w s F P h id ‹_› m a n cp
  · have h0 : 0 ≤ id := by omega
    split
    · exact pnote3 w s F P h id h0 m a n cp ‹_›
    · split
      · exact pnote4 w s F P h id h0 m a n cp ‹_›
      · split
        · exact pnote2 w s F P h id h0 m a n cp ‹_›
        · exact pnote_other w s F P h id h0 m a n cp ‹_› ‹_› ‹_›
end Go.Proofs.YtljgifbnmgpdbaaGreatDoor

namespace Go.Proofs.YtljgifbnmgpdbaaGreatDoor
open Go Go.RowKit


set_option maxRecDepth 100000 in
set_option maxHeartbeats 1000000 in
theorem pput_ok (w : World) (a b c d : Nat) (ha : a < 256 ^ 6) (hb : b < 256 ^ 2) (hc : c < 256 ^ 5) (hd : d < 256 ^ 7) :
    Calls Tryz.prog 182 #[.agg #[.int .i64 a, .int .i64 b, .int .i64 c, .int .i64 d]] w fun e w' => e = .returned (.tuple #[.string (bytesOf (wideB [(6, a), (2, b), (5, c), (7, d)])), .bool true]) ∧ Touch [] w w' := by
  have HH := Lib.hid (And.intro ha (And.intro hb (And.intro hc hd)))
  clear ha hb hc hd
  go_enter Tryz.func182, Tryz.ntmps182
  go_wp2_with fail
  refine (eput_ok _ [(6, a), (2, b), (5, c), (7, d)] _ 4 ?hc (by simp) ?hx).mono ?_
  case hc =>
    intro i p hi
    match i, hi with
    | 0, hi => simp at hi; subst hi; exact ⟨cell_of (heap_at _ _ _ (by simp)) 0 _ rfl, cell_of (heap_at _ _ _ (by simp)) 1 _ rfl⟩
    | 1, hi => simp at hi; subst hi; exact ⟨cell_of (heap_at _ _ _ (by simp)) 2 _ rfl, cell_of (heap_at _ _ _ (by simp)) 3 _ rfl⟩
    | 2, hi => simp at hi; subst hi; exact ⟨cell_of (heap_at _ _ _ (by simp)) 4 _ rfl, cell_of (heap_at _ _ _ (by simp)) 5 _ rfl⟩
    | 3, hi => simp at hi; subst hi; exact ⟨cell_of (heap_at _ _ _ (by simp)) 6 _ rfl, cell_of (heap_at _ _ _ (by simp)) 7 _ rfl⟩
    | i + 4, hi => simp at hi
  case hx =>
    obtain ⟨h1, h2, h3, h4⟩ := HH.out
    intro p hp
    simp only [List.mem_cons, List.not_mem_nil, or_false] at hp
    rcases hp with rfl | rfl | rfl | rfl
    · exact ⟨by omega, by omega, h1⟩
    · exact ⟨by omega, by omega, h2⟩
    · exact ⟨by omega, by omega, h3⟩
    · exact ⟨by omega, by omega, h4⟩
  rintro e w2 ⟨rfl, hT⟩
  have HT := Lib.hid hT
  clear hT
  go_wp2_with fail
  go_ret2
  exact ⟨rfl, (((Touch.refl [] w).alloc _).alloc _).trans' HT.out⟩

set_option maxRecDepth 100000 in
set_option maxHeartbeats 1000000 in
theorem lput_ok (w : World) (a b c d : Nat) (ha : a < 256 ^ 5) (hb : b < 256 ^ 6) (hc : c < 256 ^ 6) (hd : d < 256 ^ 3) :
    Calls Tryz.prog 186 #[.agg #[.int .i64 a, .int .i64 b, .int .i64 c, .int .i64 d]] w fun e w' => e = .returned (.tuple #[.string (bytesOf (wideB [(5, a), (6, b), (6, c), (3, d)])), .bool true]) ∧ Touch [] w w' := by
  have HH := Lib.hid (And.intro ha (And.intro hb (And.intro hc hd)))
  clear ha hb hc hd
  go_enter Tryz.func186, Tryz.ntmps186
  go_wp2_with fail
  refine (eput_ok _ [(5, a), (6, b), (6, c), (3, d)] _ 4 ?hc (by simp) ?hx).mono ?_
  case hc =>
    intro i p hi
    match i, hi with
    | 0, hi => simp at hi; subst hi; exact ⟨cell_of (heap_at _ _ _ (by simp)) 0 _ rfl, cell_of (heap_at _ _ _ (by simp)) 1 _ rfl⟩
    | 1, hi => simp at hi; subst hi; exact ⟨cell_of (heap_at _ _ _ (by simp)) 2 _ rfl, cell_of (heap_at _ _ _ (by simp)) 3 _ rfl⟩
    | 2, hi => simp at hi; subst hi; exact ⟨cell_of (heap_at _ _ _ (by simp)) 4 _ rfl, cell_of (heap_at _ _ _ (by simp)) 5 _ rfl⟩
    | 3, hi => simp at hi; subst hi; exact ⟨cell_of (heap_at _ _ _ (by simp)) 6 _ rfl, cell_of (heap_at _ _ _ (by simp)) 7 _ rfl⟩
    | i + 4, hi => simp at hi
  case hx =>
    obtain ⟨h1, h2, h3, h4⟩ := HH.out
    intro p hp
    simp only [List.mem_cons, List.not_mem_nil, or_false] at hp
    rcases hp with rfl | rfl | rfl | rfl
    · exact ⟨by omega, by omega, h1⟩
    · exact ⟨by omega, by omega, h2⟩
    · exact ⟨by omega, by omega, h3⟩
    · exact ⟨by omega, by omega, h4⟩
  rintro e w2 ⟨rfl, hT⟩
  have HT := Lib.hid hT
  clear hT
  go_wp2_with fail
  go_ret2
  exact ⟨rfl, (((Touch.refl [] w).alloc _).alloc _).trans' HT.out⟩

set_option maxRecDepth 100000 in
set_option maxHeartbeats 1000000 in
theorem mput_ok (w : World) (a b c d : Nat) (ha : a < 256 ^ 6) (hb : b < 256 ^ 6) (hc : c < 256 ^ 6) (hd : d < 256 ^ 2) :
    Calls Tryz.prog 155 #[.agg #[.int .i64 a, .int .i64 b, .int .i64 c, .int .i64 d]] w fun e w' => e = .returned (.tuple #[.string (bytesOf (wideB [(6, a), (6, b), (6, c), (2, d)])), .bool true]) ∧ Touch [] w w' := by
  have HH := Lib.hid (And.intro ha (And.intro hb (And.intro hc hd)))
  clear ha hb hc hd
  go_enter Tryz.func155, Tryz.ntmps155
  go_wp2_with fail
  refine (eput_ok _ [(6, a), (6, b), (6, c), (2, d)] _ 4 ?hc (by simp) ?hx).mono ?_
  case hc =>
    intro i p hi
    match i, hi with
    | 0, hi => simp at hi; subst hi; exact ⟨cell_of (heap_at _ _ _ (by simp)) 0 _ rfl, cell_of (heap_at _ _ _ (by simp)) 1 _ rfl⟩
    | 1, hi => simp at hi; subst hi; exact ⟨cell_of (heap_at _ _ _ (by simp)) 2 _ rfl, cell_of (heap_at _ _ _ (by simp)) 3 _ rfl⟩
    | 2, hi => simp at hi; subst hi; exact ⟨cell_of (heap_at _ _ _ (by simp)) 4 _ rfl, cell_of (heap_at _ _ _ (by simp)) 5 _ rfl⟩
    | 3, hi => simp at hi; subst hi; exact ⟨cell_of (heap_at _ _ _ (by simp)) 6 _ rfl, cell_of (heap_at _ _ _ (by simp)) 7 _ rfl⟩
    | i + 4, hi => simp at hi
  case hx =>
    obtain ⟨h1, h2, h3, h4⟩ := HH.out
    intro p hp
    simp only [List.mem_cons, List.not_mem_nil, or_false] at hp
    rcases hp with rfl | rfl | rfl | rfl
    · exact ⟨by omega, by omega, h1⟩
    · exact ⟨by omega, by omega, h2⟩
    · exact ⟨by omega, by omega, h3⟩
    · exact ⟨by omega, by omega, h4⟩
  rintro e w2 ⟨rfl, hT⟩
  have HT := Lib.hid hT
  clear hT
  go_wp2_with fail
  go_ret2
  exact ⟨rfl, (((Touch.refl [] w).alloc _).alloc _).trans' HT.out⟩
end Go.Proofs.YtljgifbnmgpdbaaGreatDoor
