/- Layer 8 (tape): Append, a filler ahead. (Here too: Layer 6 (rec): Get: the record of its bytes. Layer 8 (tape): what a tape is in memory; its small calls. Layer 8 (tape): note. Layer 8 (tape): laid, Cost. Layer 8 (tape): bytes and records come behind the others. Layer 8 (tape): Append.) -/
import Derived.Test.YtljgifbnmgpdbaaGreatDoorZc10
set_option linter.unusedSimpArgs false
set_option linter.unusedVariables false
set_option linter.unnecessarySimpa false
namespace Go.Proofs.YtljgifbnmgpdbaaGreatDoor
open Go Go.RowKit

theorem opened_ok (w : World) (m : MsgM) (hm : rightM m = true) : Calls Tryz.prog 145 #[.string (bytesOf (insideB m))] w (MsgOut w m #[.bool true]) := by
  have hf := right_facts hm
  have e : m = ⟨(m.kind.toNat : Int), (m.queue.toNat : Int), (m.due.toNat : Int), (m.retry.toNat : Int), (m.ref.toNat : Int), (m.born.toNat : Int), m.topic, m.tag, m.body, m.keys⟩ := by
    have e1 : ((m.kind.toNat : Nat) : Int) = m.kind := by have := hf.kind0; omega
    have e2 : ((m.queue.toNat : Nat) : Int) = m.queue := by have := hf.queue0; omega
    have e3 : ((m.due.toNat : Nat) : Int) = m.due := by have := hf.due0; omega
    have e4 : ((m.retry.toNat : Nat) : Int) = m.retry := by have := hf.retry0; omega
    have e5 : ((m.ref.toNat : Nat) : Int) = m.ref := by have := hf.ref0; omega
    have e6 : ((m.born.toNat : Nat) : Int) = m.born := by have := hf.born0; omega
    rw [e1, e2, e3, e4, e5, e6]
  have h := opened_nat w m.kind.toNat m.queue.toNat m.due.toNat m.retry.toNat m.ref.toNat m.born.toNat m.topic m.tag m.body m.keys (by rw [← e]; exact hm)
  rw [← e] at h
  exact h

set_option maxRecDepth 100000 in
set_option maxHeartbeats 4000000 in
theorem get_right (w : World) (t : Nat) (T : Nat → Int) (ht : TabAt w t T) (m : MsgM) (hm : rightM m = true) :
    Calls Tryz.prog 82 #[.pointer (some ⟨t, 0, none⟩), .string (bytesOf (putB T m))] w (MsgOut w m #[.int .i64 (recSize m), .int .i64 0]) := by
  have hf := right_facts hm
  obtain ⟨x, hx⟩ : ∃ x, x = sealed T (bytesOf (insideB m)) := ⟨_, rfl⟩
  have hxs : x.size = 4 + (insideB m).length := by rw [hx, sealed_size, bytesOf_size]
  have hil := inside_len hf
  obtain ⟨hd, hhd⟩ : ∃ hd : ByteArray, hd = ⟨#[165]⟩ := ⟨_, rfl⟩
  have hds : hd.size = 1 := by rw [hhd]; rfl
  obtain ⟨n, hn⟩ : ∃ n, n = 3 + x.size := ⟨_, rfl⟩
  have hput : bytesOf (putB T m) = hd ++ (numB 2 n ++ (x ++ ⟨#[]⟩)) := by
    rw [hhd, hn, hx]
    apply bytes_ext
    simp [bytesOf, putB, numB, ByteArray.data_append]
  have hnr : n = recSize m := by unfold recSize; omega
  obtain ⟨s, hs⟩ : ∃ s, s = bytesOf (putB T m) := ⟨_, rfl⟩
  have hss : s.size = n := by
    rw [hs, hput]
    simp only [ByteArray.size_append]
    have : (numB 2 n).size = 2 := by unfold numB; show (List.toArray _).size = 2; simp [be_len]
    have e0 : (ByteArray.mk #[]).size = 0 := rfl
    omega
  have b1 : hd.toList = [165] := by rw [hhd, ByteArray.toList_eq]
  have HX := Lib.hid (And.intro hx (And.intro hxs (And.intro hil (And.intro hds (And.intro hn (And.intro hput (And.intro hnr (And.intro hs hss))))))))
  have HM := Lib.hid (And.intro hm ht)
  have d1 : hd.toList = [] ↔ False := by rw [b1]; simp
  have d2 : (!hd.toList.isEmpty) = true := by rw [b1]; rfl
  have d3 : hd.toList.isEmpty = false := by rw [b1]; rfl
  have BN : (7 : Int) ≤ n := by omega
  have BN2 : (n : Int) ≤ 400 := by omega
  have BS : (s.size : Int) = n := by omega
  have hd1 : decide ((s.size : Int) < 3) = false := by simp; omega
  have hd2 : decide ((n : Int) < 3) = false := by simp; omega
  have HS := Lib.hid BS
  have HB1 := Lib.hid b1
  rw [← hs]
  clear hf hx hxs hil hds hn hput hnr hs hss hm ht hhd BS
  go_enter Tryz.func82, Tryz.ntmps82
  go_wp2_with fail
  obtain ⟨w0, hw0⟩ : ∃ w0, w0 = w.alloc (.cells #[.int .i64 0, .int .i64 0, .int .i64 0, .int .i64 0, .int .i64 0, .int .i64 0, .string ⟨#[]⟩, .string ⟨#[]⟩, .string ⟨#[]⟩, .slice none 0 0] 46) := ⟨_, rfl⟩
  have hR0 : w0.heap[w.heap.size]? = some (msgObj noMsg (.slice none 0 0)) := by rw [hw0]; exact heap_alloc_at w _
  have hT0 : Touch [] w w0 := by rw [hw0]; exact (Touch.refl _ _).alloc _
  rw [← hw0]
  clear hw0
  obtain ⟨B, hB⟩ : ∃ B, B = w.heap.size := ⟨_, rfl⟩
  rw [← hB] at hR0 ⊢
  refine (rnew_ok w0 s).mono ?_
  rintro e w1 ⟨rfl, hr, hT⟩
  obtain ⟨r, hrr⟩ : ∃ r, r = w0.heap.size := ⟨_, rfl⟩
  rw [← hrr] at hr ⊢
  have HI := Lib.hid (show B < r ∧ w.heap.size ≤ B from ⟨by have := lt_of_heap hR0; omega, by omega⟩)
  have HR := Lib.hid hr
  have HT := Lib.hid (show Touch [r] w0 w1 from hT.nil)
  have HW := Lib.hid (And.intro hR0 (And.intro hT0 hrr))
  clear hr hT hR0 hT0 hrr hB
  go_wp2_with fail
  have htake := rtake_ok w1 r hd (numB 2 n ++ (x ++ ⟨#[]⟩)) (by have h := HR.out; rw [HX.out.2.2.2.2.2.2.2.1, HX.out.2.2.2.2.2.1] at h; exact h) (by
    have h1 := HX.out.2.2.2.2.2.1
    have h2 := HX.out.2.2.2.2.2.2.2.1
    rw [← h1, ← h2]
    have := HS.out; omega)
  rw [HX.out.2.2.2.1] at htake
  refine htake.mono ?_
  rintro e w2 ⟨rfl, hr, hT⟩
  replace HR := Lib.hid hr
  replace HT := Lib.hid (HT.out.trans' hT)
  clear hr hT htake
  go_wp2_with fail
  refine (rnum_be _ r 2 n (x ++ ⟨#[]⟩) HR.out (by rw [ByteArray.size_append]; have := HX.out; have e0 : (ByteArray.mk #[]).size = 0 := rfl; omega) (by omega) (by omega) (by omega)).mono ?_
  rintro e w3 ⟨rfl, hr, hT⟩
  replace HR := Lib.hid hr
  replace HT := Lib.hid (HT.out.trans' hT)
  clear hr hT
  go_wp2_with fail
  have hmx : max ((n : Int) - 3) 0 = (x.size : Int) := by have := HX.out; omega
  rw [hmx]
  clear hmx
  refine (rtake_ok w3 r x ⟨#[]⟩ HR.out (by rw [ByteArray.size_append]; have := HX.out; have e0 : (ByteArray.mk #[]).size = 0 := rfl; omega)).mono ?_
  rintro e w4 ⟨rfl, hr, hT⟩
  replace HR := Lib.hid hr
  replace HT := Lib.hid (HT.out.trans' hT)
  clear hr hT
  go_wp2_with fail
  refine (rerr_ok w4 r _ HR.out).mono ?_
  rintro e w' ⟨rfl, rfl⟩
  go_wp2_with fail
  have hT4 : Touch [] w w4 := HW.out.2.1.trans HT.out (fun y hy => by
    have := HW.out.2.2
    have := HW.out.2.1.size
    simp at hy; right; omega)
  have hB4 := HT.out.heap HW.out.1 (by have := HI.out; simp; omega)
  have HT4 := Lib.hid (And.intro hT4 hB4)
  clear hT4 hB4 HR HT
  have hopen := copen_ok w4 t T (HM.out.2.touch HT4.out.1 (by simp)) (bytesOf (insideB m)) (by rw [bytesOf_size]; have := HX.out; omega)
  rw [← HX.out.1] at hopen
  obtain ⟨y, hy⟩ : ∃ y, y = bytesOf (insideB m) := ⟨_, rfl⟩
  rw [← hy] at hopen
  have HY := Lib.hid hy
  clear hy
  refine hopen.mono ?_
  rintro e w5 ⟨rfl, hT⟩
  have HT5 := Lib.hid (And.intro (HT4.out.1.trans' hT) (hT.heap HT4.out.2 (by simp)))
  clear hT hopen
  go_wp2_with fail
  have hopd := opened_ok w5 m HM.out.1
  rw [← HY.out] at hopd
  refine hopd.mono ?_
  rintro e w6 ⟨kv, rfl, hk, hf, hT⟩
  obtain ⟨a, cp, rfl, hka⟩ := hk
  have hk : KeysAt w6 (.slice a m.keys.length cp) m.keys := ⟨a, cp, rfl, hka⟩
  have HT6 := Lib.hid (And.intro (HT5.out.1.trans' hT) (hT.heap HT5.out.2 (by simp)))
  have HK := Lib.hid (And.intro hk hf)
  have hBl := lt_of_heap HT6.out.2
  have hb6 := HT6.out.2
  unfold msgObj at hb6
  have x0 := cell_of hb6 0 _ rfl
  have y0 := free_of hb6 0
  have x1 := cell_of hb6 1 _ rfl
  have y1 := free_of hb6 1
  have x2 := cell_of hb6 2 _ rfl
  have y2 := free_of hb6 2
  have x3 := cell_of hb6 3 _ rfl
  have y3 := free_of hb6 3
  have x4 := cell_of hb6 4 _ rfl
  have y4 := free_of hb6 4
  have x5 := cell_of hb6 5 _ rfl
  have y5 := free_of hb6 5
  have x6 := cell_of hb6 6 _ rfl
  have y6 := free_of hb6 6
  have x7 := cell_of hb6 7 _ rfl
  have y7 := free_of hb6 7
  have x8 := cell_of hb6 8 _ rfl
  have y8 := free_of hb6 8
  have x9 := cell_of hb6 9 _ rfl
  have y9 := free_of hb6 9
  clear hT hopd hk hf hka hb6
  unfold msgV
  go_wp2_with fail
  obtain ⟨zf, hTF⟩ := store10 HT6.out.2 (.int .i64 m.kind) (.int .i64 m.queue) (.int .i64 m.due) (.int .i64 m.retry) (.int .i64 m.ref) (.int .i64 m.born) (.string m.topic) (.string m.tag) (.string m.body) (.slice a m.keys.length cp)
  obtain ⟨Wf, hWf⟩ : ∃ Wf, Wf = ((((((((((w6.setCell ⟨B, 0, none⟩ (.int .i64 m.kind)).setCell ⟨B, 1, none⟩ (.int .i64 m.queue)).setCell ⟨B, 2, none⟩ (.int .i64 m.due)).setCell ⟨B, 3, none⟩ (.int .i64 m.retry)).setCell ⟨B, 4, none⟩ (.int .i64 m.ref)).setCell ⟨B, 5, none⟩ (.int .i64 m.born)).setCell ⟨B, 6, none⟩ (.string m.topic)).setCell ⟨B, 7, none⟩ (.string m.tag)).setCell ⟨B, 8, none⟩ (.string m.body)).setCell ⟨B, 9, none⟩ (.slice a m.keys.length cp)) := ⟨_, rfl⟩
  rw [← hWf] at zf hTF ⊢
  clear hWf
  have zf := heap_alloc_lt zf (msgObj m (.slice a m.keys.length cp))
  have hTF : Touch [B] w6 (Wf.alloc (msgObj m (.slice a m.keys.length cp))) := hTF.alloc _
  unfold msgObj at zf hTF
  obtain ⟨Wg, hWg⟩ : ∃ Wg, Wg = Wf.alloc (.cells #[.int .i64 m.kind, .int .i64 m.queue, .int .i64 m.due, .int .i64 m.retry, .int .i64 m.ref, .int .i64 m.born, .string m.topic, .string m.tag, .string m.body, .slice a m.keys.length cp] 46) := ⟨_, rfl⟩
  rw [← hWg] at zf hTF ⊢
  clear hWg
  have s0 := cell_of zf 0 (.int .i64 m.kind) rfl
  have s1 := cell_of zf 1 (.int .i64 m.queue) rfl
  have s2 := cell_of zf 2 (.int .i64 m.due) rfl
  have s3 := cell_of zf 3 (.int .i64 m.retry) rfl
  have s4 := cell_of zf 4 (.int .i64 m.ref) rfl
  have s5 := cell_of zf 5 (.int .i64 m.born) rfl
  have s6 := cell_of zf 6 (.string m.topic) rfl
  have s7 := cell_of zf 7 (.string m.tag) rfl
  have s8 := cell_of zf 8 (.string m.body) rfl
  have s9 := cell_of zf 9 (.slice a m.keys.length cp) rfl
  have HTF := Lib.hid hTF
  clear hTF zf
  refine bodyPost_ret (v := .tuple #[msgV m (.slice a m.keys.length cp), .int .i64 n, .int .i64 0]) (by simp [results, Tryz.results82, go_sem, msgV, s0, s1, s2, s3, s4, s5, s6, s7, s8, s9]) rfl ⟨.slice a m.keys.length cp, by rw [HX.out.2.2.2.2.2.2.1]; rfl, HK.out.1.touch HTF.out (fun g hg => by
    have h1 := HK.out.2 g hg
    have h2 := lt_of_heap HT5.out.2
    simp; omega), fun g hg => ?_, ?_⟩
  · have h1 := HK.out.2 g hg
    have h2 := HT5.out.1.size
    omega
  · exact HT6.out.1.trans HTF.out (fun x hx => by
      have := HI.out
      simp at hx; right; omega)
end Go.Proofs.YtljgifbnmgpdbaaGreatDoor

namespace Go.Proofs.YtljgifbnmgpdbaaGreatDoor
open Go Go.RowKit

structure TapeM where
  recs : List (Nat × MsgM)
  fin : Nat
  synced : Nat

structure TapeX where
  r : Nat
  d : Nat
  c : Nat
  mb : Nat
  sv : Value
  pv : Value
  last : Int
  R : RowM
  Fd : List Nat
  V : ByteArray → Option ByteArray
  data : ByteArray
  T : Nat → Int
  cap : Nat
  q : Nat

def tapeHead : ByteArray := ⟨#[116, 97, 112, 101, 45]⟩
def idCell (p : Nat × MsgM) : List Value := [.int .i64 (p.1 : Nat)]
theorem idCell1 (p : Nat × MsgM) : (idCell p).length = 1 := rfl
def encI (n : Int) : Value := .int .i64 n
def sizeOfRec (p : Nat × MsgM) : Int × Value := ((p.1 : Nat), .int .i64 (recSize p.2 : Nat))

/-- The tape's own blocks, but the disk's. -/
def ownT (t : Nat) (X : TapeX) : List Nat := t :: X.mb :: X.c :: (X.sv.ownBlock.toList ++ rowFoot X.r X.pv)
def footT (t : Nat) (X : TapeX) : List Nat := ownT t X ++ X.Fd

structure RecsIn (l : List (Nat × MsgM)) (fin : Nat) (T : Nat → Int) (data : ByteArray) : Prop where
  each : ∀ p ∈ l, rightM p.2 = true ∧ p.1 + recSize p.2 ≤ fin ∧ p.1 % 1024 + recSize p.2 ≤ 1024 ∧ data.extract p.1 (p.1 + recSize p.2) = bytesOf (putB T p.2)
  sorted : l.Pairwise fun a b => a.1 + recSize a.2 ≤ b.1

structure TapeAt (w : World) (t : Nat) (X : TapeX) (M : TapeM) : Prop where
  cells : w.heap[t]? = some (.cells #[.pointer (some ⟨X.r, 0, none⟩), .pointer (some ⟨X.c, 0, none⟩), X.sv, .map (some X.mb), .int .i64 X.last] 136 (0, 0))
  row : RowIn w X.r X.d X.pv X.R
  disk : DiskV w X.d X.Fd X.V X.cap M.fin X.q
  segs : SegsIn X.R X.data X.V
  tab : TabAt w X.c X.T
  ids : w.ownsRow 0 3 1 X.sv M.recs.length (M.recs.flatMap idCell)
  sizes : MapOf encI w X.mb (M.recs.map sizeOfRec)
  apart : (ownT t X).Nodup
  dis : ∀ b ∈ ownT t X, b ∉ X.Fd
  low : ∀ b ∈ ownT t X, 8 ≤ b
  head : X.R.head = tapeHead
  size : X.R.size = 1024
  beg : X.R.begin = 0
  fin : X.R.fin = M.fin
  syn : X.R.synced = M.synced
  recs : RecsIn M.recs M.fin X.T X.data

/-- A tape, for the layers above. -/
def TapeV (w : World) (t : Nat) (F : List Nat) (M : TapeM) (cap : Nat) : Prop := ∃ X, TapeAt w t X M ∧ F = footT t X ∧ X.cap = cap ∧ X.q ≤ 4 * M.recs.length ∧ 3 ≤ 1024 - M.fin % 1024

theorem TapeAt.lt {w : World} {t : Nat} {X : TapeX} {M : TapeM} (h : TapeAt w t X M) : ∀ b ∈ footT t X, b < w.heap.size := by
  intro b hb
  simp only [footT, ownT, List.cons_append, List.mem_cons, List.mem_append, Option.mem_toList] at hb
  rcases hb with rfl | rfl | rfl | (hb | hb) | hb
  · exact lt_of_heap h.cells
  · exact MapAt.lt h.sizes
  · exact h.tab.lt
  · exact (h.ids.lt b hb).2
  · exact h.row.lt b hb
  · exact h.disk.lt b hb

theorem TapeAt.touch {w w' : World} {t : Nat} {X : TapeX} {M : TapeM} {G : List Nat} (h : TapeAt w t X M) (hT : Touch G w w') (hG : ∀ b ∈ footT t X, b ∉ G) : TapeAt w' t X M where
  cells := hT.heap h.cells (hG t (by simp [footT, ownT]))
  row := h.row.touch hT fun b hb => hG b (by simp [footT, ownT, hb])
  disk := h.disk.touch hT fun b hb => hG b (by simp [footT, hb])
  segs := h.segs
  tab := h.tab.touch hT (hG X.c (by simp [footT, ownT]))
  ids := ownsRow_other h.ids fun b hb => hT.block b (h.ids.lt b hb).2 (hG b (by simp [footT, ownT, hb]))
  sizes := MapAt.touch h.sizes hT (hG X.mb (by simp [footT, ownT]))
  apart := h.apart
  dis := h.dis
  low := h.low
  head := h.head
  size := h.size
  beg := h.beg
  fin := h.fin
  syn := h.syn
  recs := h.recs

section
variable {w w' : World} {t : Nat} {F G : List Nat} {M : TapeM} {cap : Nat}
theorem TapeV.lt (h : TapeV w t F M cap) : ∀ b ∈ F, b < w.heap.size := by obtain ⟨X, h, rfl, -, -, -⟩ := h; exact h.lt
theorem TapeV.low (h : TapeV w t F M cap) : ∀ b ∈ F, 8 ≤ b := by
  obtain ⟨X, h, rfl, -, -, -⟩ := h
  intro b hb
  rcases List.mem_append.1 hb with hb | hb
  · exact h.low b hb
  · exact h.disk.low b hb
theorem TapeV.self (h : TapeV w t F M cap) : t ∈ F := by obtain ⟨X, h, rfl, -, -, -⟩ := h; simp [footT, ownT]
theorem TapeV.touch (h : TapeV w t F M cap) (hT : Touch G w w') (hG : ∀ b ∈ F, b ∉ G) : TapeV w' t F M cap := by
  obtain ⟨X, h, rfl, e⟩ := h; exact ⟨X, h.touch hT hG, rfl, e⟩
theorem TapeV.quiet (h : TapeV w t F M cap) (hT : Touch [] w w') : TapeV w' t F M cap := h.touch hT (by simp)
theorem TapeV.le (h : TapeV w t F M cap) : M.fin ≤ cap ∧ cap ≤ 16777216 := by obtain ⟨X, h, -, e, -⟩ := h; rw [← e]; exact h.disk.le
theorem TapeV.synced_le (h : TapeV w t F M cap) : M.synced ≤ M.fin := by obtain ⟨X, h, -, e, -⟩ := h; rw [← h.syn, ← h.fin]; exact h.row.ok.syn
end


set_option maxRecDepth 100000 in
set_option maxHeartbeats 1000000 in
theorem tbegin_ok (w : World) (t : Nat) (F : List Nat) (M : TapeM) (cap : Nat) (h : TapeV w t F M cap) :
    Calls Tryz.prog 69 #[.pointer (some ⟨t, 0, none⟩)] w fun e w' => e = .returned (.int .i64 (0 : Nat)) ∧ w = w' := by
  obtain ⟨X, h, -, -, -⟩ := h
  have c0 := cell_of h.cells 0 _ rfl
  have hcon := begin_ok w X.r X.d X.pv X.R h.row
  have hb := h.beg
  have he := h.fin
  have hs := h.syn
  first | rw [hb] at hcon | rw [he] at hcon | rw [hs] at hcon
  clear h hb he hs
  go_enter Tryz.func69, Tryz.ntmps69
  go_wp2_with fail
  refine hcon.mono ?_
  rintro e w' ⟨rfl, rfl⟩
  go_wp2_with fail
  go_ret
  exact ⟨rfl, rfl⟩

set_option maxRecDepth 100000 in
set_option maxHeartbeats 1000000 in
theorem tend_ok (w : World) (t : Nat) (F : List Nat) (M : TapeM) (cap : Nat) (h : TapeV w t F M cap) :
    Calls Tryz.prog 54 #[.pointer (some ⟨t, 0, none⟩)] w fun e w' => e = .returned (.int .i64 (M.fin : Nat)) ∧ w = w' := by
  obtain ⟨X, h, -, -, -⟩ := h
  have c0 := cell_of h.cells 0 _ rfl
  have hcon := end_ok w X.r X.d X.pv X.R h.row
  have hb := h.beg
  have he := h.fin
  have hs := h.syn
  first | rw [hb] at hcon | rw [he] at hcon | rw [hs] at hcon
  clear h hb he hs
  go_enter Tryz.func54, Tryz.ntmps54
  go_wp2_with fail
  refine hcon.mono ?_
  rintro e w' ⟨rfl, rfl⟩
  go_wp2_with fail
  go_ret
  exact ⟨rfl, rfl⟩

set_option maxRecDepth 100000 in
set_option maxHeartbeats 1000000 in
theorem tsynced_ok (w : World) (t : Nat) (F : List Nat) (M : TapeM) (cap : Nat) (h : TapeV w t F M cap) :
    Calls Tryz.prog 71 #[.pointer (some ⟨t, 0, none⟩)] w fun e w' => e = .returned (.int .i64 (M.synced : Nat)) ∧ w = w' := by
  obtain ⟨X, h, -, -, -⟩ := h
  have c0 := cell_of h.cells 0 _ rfl
  have hcon := synced_ok w X.r X.d X.pv X.R h.row
  have hb := h.beg
  have he := h.fin
  have hs := h.syn
  first | rw [hb] at hcon | rw [he] at hcon | rw [hs] at hcon
  clear h hb he hs
  go_enter Tryz.func71, Tryz.ntmps71
  go_wp2_with fail
  refine hcon.mono ?_
  rintro e w' ⟨rfl, rfl⟩
  go_wp2_with fail
  go_ret
  exact ⟨rfl, rfl⟩

/-- How many bytes a record has that stands there. -/
def TapeM.sizeAt (M : TapeM) (id : Int) : Nat := match M.recs.find? fun p => decide ((p.1 : Int) = id) with
  | some p => recSize p.2
  | none => 0

theorem zero_i64 (w : World) : (zeroValue 3).run Tryz.prog w = .ok (.int .i64 0) w := Tryz.zeroValue3 w

theorem sizes_get (l : List (Nat × MsgM)) (id : Int) : (getK (l.map sizeOfRec) id).getD (.int .i64 0) = .int .i64 ((TapeM.sizeAt ⟨l, 0, 0⟩ id : Nat) : Int) := by
  unfold getK TapeM.sizeAt
  rw [List.find?_map]
  have : ((fun x : Int × Value => decide (x.1 = id)) ∘ sizeOfRec) = fun p : Nat × MsgM => decide ((p.1 : Int) = id) := rfl
  rw [this]
  simp only
  cases l.find? fun p => decide ((p.1 : Int) = id) with
  | none => rfl
  | some p => rfl

theorem keysI : Keys Tryz.prog 3 encI := keys_int Tryz.underlying3

theorem lookup_size {w : World} {t : Nat} {X : TapeX} {M : TapeM} (h : TapeAt w t X M) (id : Int) :
    (Instr.lookup 134 (.map (some X.mb)) (.int .i64 id) false).run Tryz.prog w = .ok (.int .i64 (M.sizeAt id : Nat)) w := by
  have := run_lookup_of keysI Tryz.underlying134 h.sizes id (zero_i64 w)
  rw [sizes_get] at this
  exact this

set_option maxRecDepth 100000 in
set_option maxHeartbeats 1000000 in
theorem tsize_ok (w : World) (t : Nat) (F : List Nat) (M : TapeM) (cap : Nat) (h : TapeV w t F M cap) (id : Int) :
    Calls Tryz.prog 73 #[.pointer (some ⟨t, 0, none⟩), .int .i64 id] w fun e w' => e = .returned (.int .i64 (M.sizeAt id : Nat)) ∧ w = w' := by
  obtain ⟨X, h, -, -, -⟩ := h
  have c3 := cell_of h.cells 3 _ rfl
  have hl := lookup_size h id
  clear h
  go_enter Tryz.func73, Tryz.ntmps73
  go_wp2
  go_ret
  exact ⟨rfl, rfl⟩

/-- Where the first record from a place on stands. -/
def TapeM.place (M : TapeM) (at_ : Int) : Nat := M.recs.countP fun p => decide ((p.1 : Int) < at_)

theorem ids_cells {w : World} {t : Nat} {X : TapeX} {M : TapeM} (h : TapeAt w t X M) : (X.sv = .slice none 0 0 ∧ M.recs = []) ∨ ∃ g cp, X.sv = .slice (some ⟨g, 0, none⟩) M.recs.length cp ∧ M.recs.length ≤ cp ∧ ∀ (i : Nat) (p : Nat × MsgM), M.recs[i]? = some p → w.cell? ⟨g, i, none⟩ = some (.int .i64 (p.1 : Nat)) := by
  have hw := h.ids
  rcases hw.2 with ⟨e, h0⟩ | ⟨g, cp, cur, e, -, -, hcap, -⟩
  · exact .inl ⟨e, List.eq_nil_of_length_eq_zero h0⟩
  · refine .inr ⟨g, cp, e, hcap, fun i p hi => ?_⟩
    rw [e] at hw
    have := row_cell? idCell1 hw hi (i := 0) (by omega) rfl
    simpa using this

theorem recs_sorted {l : List (Nat × MsgM)} {fin : Nat} {T : Nat → Int} {data : ByteArray} (h : RecsIn l fin T data) : (l.map fun p => ((p.1 : Nat) : Int)).Pairwise (· ≤ ·) := by
  rw [List.pairwise_map]
  exact h.sorted.imp fun {a b} hab => by omega

set_option maxRecDepth 100000 in
set_option maxHeartbeats 1000000 in
theorem tplace_ok (w : World) (t : Nat) (F : List Nat) (M : TapeM) (cap : Nat) (h : TapeV w t F M cap) (hl : M.recs.length ≤ 1000000) (at_ : Int) :
    Calls Tryz.prog 94 #[.pointer (some ⟨t, 0, none⟩), .int .i64 at_] w fun e w' => e = .returned (.int .i64 (M.place at_ : Nat)) ∧ ∃ q, w' = w.drewN q := by
  obtain ⟨X, h, -, -, -⟩ := h
  have c2 := cell_of h.cells 2 _ rfl
  have hcon : ∃ b : Bool, Calls Tryz.prog 152 #[X.sv, .int .i64 at_] w fun e w' => e = .returned (.tuple #[.int .i64 (M.place at_ : Nat), .bool b]) ∧ ∃ q, w' = w.drewN q := by
    rcases ids_cells h with ⟨e, h0⟩ | ⟨g, cp, e, -, hc⟩
    · refine ⟨false, ?_⟩
      rw [e]
      have := Tryz.slices_BinarySearch_int_empty none 0 at_ w
      refine this.mono fun e w' hh => ⟨?_, 0, by rw [hh.2]; rfl⟩
      rw [hh.1]
      simp [TapeM.place, h0]
    · have := Tryz.slices_BinarySearch_int g 0 M.recs.length cp (M.recs.map fun p => ((p.1 : Nat) : Int)) at_ w (by simp) (by omega) (fun j hj => by
        have hj' : j < M.recs.length := by simpa using hj
        rw [Nat.zero_add, hc j _ (List.getElem?_eq_getElem hj')]
        simp [hj']) (by
        have := recs_sorted h.recs
        exact this.sublist (List.take_sublist _ _))
      refine ⟨((M.recs.map fun p => ((p.1 : Nat) : Int)).take M.recs.length).contains at_, ?_⟩
      rw [e]
      have e1 : ((M.recs.map fun p => ((p.1 : Nat) : Int)).take M.recs.length).countP (fun y => decide (y < at_)) = M.place at_ := by
        rw [List.take_of_length_le (by simp), List.countP_map]
        rfl
      rw [e1] at this
      exact this
  obtain ⟨b, hcon⟩ := hcon
  have hsv : ∃ a n cp, X.sv = .slice a n cp := by
    rcases ids_cells h with ⟨e, -⟩ | ⟨g, cp, e, -, -⟩
    · exact ⟨_, _, _, e⟩
    · exact ⟨_, _, _, e⟩
  obtain ⟨a, n, cp, e⟩ := hsv
  rw [e] at c2 hcon
  clear h e hl
  go_enter Tryz.func94, Tryz.ntmps94
  go_wp2_with fail
  refine hcon.mono ?_
  rintro e w' ⟨rfl, q, rfl⟩
  go_wp2_with fail
  go_ret
  exact ⟨rfl, q, rfl⟩

/-- The first record from a place on. -/
def TapeM.next (M : TapeM) (at_ : Int) : Option (Nat × MsgM) := M.recs[M.place at_]?

set_option maxRecDepth 100000 in
set_option maxHeartbeats 1000000 in
theorem tnext_some (w : World) (t : Nat) (F : List Nat) (M : TapeM) (cap : Nat) (h : TapeV w t F M cap) (hl : M.recs.length ≤ 1000000) (at_ : Int) (p : Nat × MsgM) (hp : M.next at_ = some p) :
    Calls Tryz.prog 70 #[.pointer (some ⟨t, 0, none⟩), .int .i64 at_] w fun e w' => e = .returned (.tuple #[.int .i64 (p.1 : Nat), .bool true]) ∧ Touch [] w w' := by
  have hcon := tplace_ok w t F M cap h hl at_
  obtain ⟨X, h, -, -, -⟩ := h
  have c2 := cell_of h.cells 2 _ rfl
  obtain ⟨k, hk⟩ : ∃ k, k = M.place at_ := ⟨_, rfl⟩
  unfold TapeM.next at hp
  rw [← hk] at hcon hp
  have hkl := (List.getElem?_eq_some_iff.1 hp).1
  rcases ids_cells h with ⟨e, h0⟩ | ⟨g, cp, e, -, hc⟩
  · rw [h0] at hkl; simp at hkl
  · have ck := hc k p hp
    obtain ⟨n, hn⟩ : ∃ n, n = M.recs.length := ⟨_, rfl⟩
    rw [e, ← hn] at c2
    have hd : decide ((k : Int) < n) = true := by simp; omega
    have hd2 : decide (k < n) = true := by simp; omega
    have B1 : (k : Int) < n := by omega
    have B2 : (n : Int) ≤ 1000000 := by omega
    have hkn : k < n := by omega
    clear h e hl hc hk hn hp hkl
    go_enter Tryz.func70, Tryz.ntmps70
    go_wp2_with fail
    refine hcon.mono ?_
    rintro e w' ⟨rfl, q, rfl⟩
    go_wp2_with fail
    go_ret2
    exact ⟨rfl, (Touch.refl _ _).drewN _⟩

theorem countP_le {α : Type} (p : α → Bool) (l : List α) : l.countP p ≤ l.length := List.countP_le_length

set_option maxRecDepth 100000 in
set_option maxHeartbeats 1000000 in
theorem tnext_none (w : World) (t : Nat) (F : List Nat) (M : TapeM) (cap : Nat) (h : TapeV w t F M cap) (hl : M.recs.length ≤ 1000000) (at_ : Int) (hp : M.next at_ = none) :
    Calls Tryz.prog 70 #[.pointer (some ⟨t, 0, none⟩), .int .i64 at_] w fun e w' => e = .returned (.tuple #[.int .i64 0, .bool false]) ∧ Touch [] w w' := by
  have hcon := tplace_ok w t F M cap h hl at_
  obtain ⟨X, h, -, -, -⟩ := h
  have c2 := cell_of h.cells 2 _ rfl
  obtain ⟨k, hk⟩ : ∃ k, k = M.place at_ := ⟨_, rfl⟩
  unfold TapeM.next at hp
  rw [← hk] at hcon hp
  have hkl : M.recs.length ≤ k := List.getElem?_eq_none_iff.1 hp
  obtain ⟨n, hn⟩ : ∃ n, n = M.recs.length := ⟨_, rfl⟩
  have hk2 : k ≤ n := by rw [hk, hn]; exact countP_le _ _
  have hkn : k = n := by omega
  have hsv : ∃ a cp, X.sv = .slice a n cp := by
    rcases ids_cells h with ⟨e, h0⟩ | ⟨g, cp, e, -, -⟩
    · exact ⟨_, _, by rw [e, hn, h0]; rfl⟩
    · exact ⟨_, _, by rw [e, hn]⟩
  obtain ⟨a, cp, e⟩ := hsv
  rw [e] at c2
  rw [hkn] at hcon
  clear h e hl hk hp hkl hk2 hkn hn
  go_enter Tryz.func70, Tryz.ntmps70
  go_wp2_with fail
  refine hcon.mono ?_
  rintro e w' ⟨rfl, q, rfl⟩
  go_wp2_with fail
  go_ret2
  exact ⟨rfl, (Touch.refl _ _).drewN _⟩
end Go.Proofs.YtljgifbnmgpdbaaGreatDoor

namespace Go.Proofs.YtljgifbnmgpdbaaGreatDoor
open Go Go.RowKit

/-- The tape's own words. -/
structure IdsAt (w : World) (t r c mb : Nat) (sv : Value) (last : Int) (l : List (Nat × MsgM)) : Prop where
  cells : w.heap[t]? = some (.cells #[.pointer (some ⟨r, 0, none⟩), .pointer (some ⟨c, 0, none⟩), sv, .map (some mb), .int .i64 last] 136 (0, 0))
  ids : w.ownsRow 0 3 1 sv l.length (l.flatMap idCell)
  sizes : MapOf encI w mb (l.map sizeOfRec)
  apart : (t :: mb :: sv.ownBlock.toList).Nodup

theorem sizes_upd (l : List (Nat × MsgM)) (id : Nat) (m : MsgM) (h : ∀ p ∈ l, p.1 ≠ id) : upd (l.map sizeOfRec) (id : Int) (.int .i64 (recSize m : Nat)) = (l ++ [(id, m)]).map sizeOfRec := by
  unfold upd
  rw [if_neg]
  · simp [sizeOfRec]
  · intro hm
    simp only [List.map_map, List.mem_map, Function.comp_apply] at hm
    obtain ⟨p, hp, e⟩ := hm
    have : ((p.1 : Nat) : Int) = (id : Int) := e
    exact h p hp (by omega)

theorem sizes_keys {l : List (Nat × MsgM)} (h : l.Pairwise fun a b => a.1 ≠ b.1) : ((l.map sizeOfRec).map (·.1)).Nodup := by
  rw [List.map_map, List.Nodup, List.pairwise_map]
  exact h.imp fun {a b} hab e => hab (by have : ((a.1 : Nat) : Int) = (b.1 : Int) := e; omega)

def NoteDone (w : World) (t r c mb : Nat) (sv : Value) (l : List (Nat × MsgM)) (id : Nat) (m : MsgM) (e : Ending) (w' : World) : Prop :=
  ∃ sv', e = .returned (.tuple #[]) ∧ IdsAt w' t r c mb sv' m.born (l ++ [(id, m)]) ∧ Touch (t :: mb :: sv.ownBlock.toList) w w' ∧ (∀ g, sv'.ownBlock = some g → sv.ownBlock = some g ∨ w.heap.size ≤ g)

set_option maxRecDepth 100000 in
set_option maxHeartbeats 2000000 in
theorem note_ok (w : World) (t r c mb : Nat) (sv : Value) (last : Int) (l : List (Nat × MsgM)) (h : IdsAt w t r c mb sv last l) (id : Nat) (m : MsgM) (kv : Value) (hk : KeysAt w kv m.keys) (h0 : m.kind ≠ 0) (hl : l.length ≤ 1000000) (hid : ∀ p ∈ l, p.1 ≠ id) (hd : l.Pairwise fun a b => a.1 ≠ b.1) :
    Calls Tryz.prog 78 #[.pointer (some ⟨t, 0, none⟩), .int .i64 id, .int .i64 (recSize m : Nat), msgV m kv] w (NoteDone w t r c mb sv l id m) := by
  obtain ⟨a0, cp0, rfl, -⟩ := hk
  have hd0 : (m.kind != 0) = true := by simpa using h0
  have hd0' : (m.kind == 0) = false := by simpa using h0
  have HL := Lib.hid (And.intro hl (And.intro hid hd))
  have hsv : ∃ a n cp, sv = .slice a n cp := by
    rcases h.ids.2 with ⟨e, -⟩ | ⟨g, cp, cur, e, -⟩
    · exact ⟨_, _, _, e⟩
    · exact ⟨_, _, _, e⟩
  obtain ⟨a1, n1, cp1, rfl⟩ := hsv
  have hT0 : Touch [] w (w.alloc (msgObj m (.slice a0 m.keys.length cp0))) := (Touch.refl _ _).alloc _
  have hb0 := heap_alloc_at w (msgObj m (.slice a0 m.keys.length cp0))
  obtain ⟨W, hW⟩ : ∃ W, W = w.alloc (msgObj m (.slice a0 m.keys.length cp0)) := ⟨_, rfl⟩
  rw [← hW] at hT0 hb0
  obtain ⟨b, hb⟩ : ∃ b, b = w.heap.size := ⟨_, rfl⟩
  rw [← hb] at hb0
  have hcW := hT0.heap h.cells (by simp)
  have hiW := ownsRow_other h.ids (fun g hg => hT0.block g (h.ids.lt g hg).2 (by simp))
  have hmW : MapOf encI W mb (l.map sizeOfRec) := MapAt.touch h.sizes hT0 (by simp)
  have htl := lt_of_heap h.cells
  have hmbl := MapAt.lt h.sizes
  have hap := h.apart
  have hrowlt : ∀ g, (Value.slice a1 n1 cp1).ownBlock = some g → g < w.heap.size := fun g hg => (h.ids.lt g hg).2
  obtain ⟨g5, cp5, w5, hrun, hown, hgr, hlies, hlt5⟩ := push_int (w := W) (ty := 43) hiW (id : Int) (by omega)
  have hne_t : (Value.slice a1 n1 cp1).ownBlock ≠ some t := fun e => by rw [e] at hap; simp at hap
  have hne_m : (Value.slice a1 n1 cp1).ownBlock ≠ some mb := fun e => by rw [e] at hap; simp at hap
  have htm : t ≠ mb := fun e => by rw [e] at hap; simp at hap
  -- behind the append
  have hc5 : w5.heap[t]? = _ := (hgr.block t (lt_of_heap hcW) (fun e => hne_t e.symm)).trans hcW
  have hb5 : w5.heap[b]? = _ := (hgr.block b (lt_of_heap hb0) (fun e => by have := hrowlt b e.symm; omega)).trans hb0
  have hm5 : MapOf encI w5 mb (l.map sizeOfRec) := hmW.same (hgr.block mb (MapAt.lt hmW) (fun e => hne_m e.symm))
  have hg5t : g5 ≠ t := by
    rcases hlies with h1 | h1
    · exact fun e => hne_t (by rw [h1, e])
    · have := lt_of_heap hcW; omega
  have hg5m : g5 ≠ mb := by
    rcases hlies with h1 | h1
    · exact fun e => hne_m (by rw [h1, e])
    · have := MapAt.lt hmW; omega
  -- behind the store of the slice
  obtain ⟨w6, hw6⟩ : ∃ w6, w6 = w5.setCell ⟨t, 2, none⟩ (.slice (some ⟨g5, 0, none⟩) (l.length + 1) cp5) := ⟨_, rfl⟩
  have hT6 : Touch [t] w5 w6 := by rw [hw6]; exact (Touch.refl [t] w5).setCell _ _ _ _ (by simp)
  have hc6 : w6.heap[t]? = some (.cells #[.pointer (some ⟨r, 0, none⟩), .pointer (some ⟨c, 0, none⟩), .slice (some ⟨g5, 0, none⟩) (l.length + 1) cp5, .map (some mb), .int .i64 last] 136 (0, 0)) := by rw [hw6]; exact heap_setCell_at hc5 2 _
  have hb6 := hT6.heap hb5 (by simp; omega)
  have hm6 : MapOf encI w6 mb (l.map sizeOfRec) := MapAt.touch hm5 hT6 (by simpa using htm.symm)
  have hi6 := ownsRow_other hown (fun g hg => hT6.block g (hown.lt g hg).2 (by injection hg with hg; subst hg; simpa using hg5t))
  -- behind the map's store
  obtain ⟨w7, hrun7, hm7, hT7, hs7⟩ := run_mapUpdate_of keysI Tryz.underlying134 hm6 (sizes_keys hd) (id : Int) (.int .i64 (recSize m : Nat))
  rw [sizes_upd l id m hid] at hm7
  have hc7 := hT7.heap hc6 (by simpa using htm)
  have hb7 := hT7.heap hb6 (by simp; omega)
  have hi7 := ownsRow_other hi6 (fun g hg => hT7.block g (hi6.lt g hg).2 (by injection hg with hg; subst hg; simpa using hg5m))
  have hTall : Touch (t :: mb :: (Value.slice a1 n1 cp1).ownBlock.toList) w w7 := by
    have t1 : Touch (t :: mb :: (Value.slice a1 n1 cp1).ownBlock.toList) w w5 := (hT0.nil).grown hgr (fun g hg => .inl (by simp [hg]))
    exact (t1.trans' (hT6.mono (by simp))).trans' (hT7.mono (by simp))
  -- behind the last store
  obtain ⟨w8, hw8⟩ : ∃ w8, w8 = w7.setCell ⟨t, 4, none⟩ (.int .i64 m.born) := ⟨_, rfl⟩
  have hT8 : Touch [t] w7 w8 := by rw [hw8]; exact (Touch.refl [t] w7).setCell _ _ _ _ (by simp)
  have hc8 : w8.heap[t]? = some (.cells #[.pointer (some ⟨r, 0, none⟩), .pointer (some ⟨c, 0, none⟩), .slice (some ⟨g5, 0, none⟩) (l.length + 1) cp5, .map (some mb), .int .i64 m.born] 136 (0, 0)) := by rw [hw8]; exact heap_setCell_at hc7 4 _
  have hfin : NoteDone w t r c mb (.slice a1 n1 cp1) l id m (.returned (.tuple #[])) w8 := by
    refine ⟨.slice (some ⟨g5, 0, none⟩) (l.length + 1) cp5, rfl, ⟨hc8, ?_, MapAt.touch hm7 hT8 (by simpa using htm.symm), ?_⟩, hTall.trans' (hT8.mono (by simp)), ?_⟩
    · have hlen : (l ++ [(id, m)]).length = l.length + 1 := by simp
      have hfl : (l ++ [(id, m)]).flatMap idCell = l.flatMap idCell ++ [.int .i64 (id : Int)] := by simp [idCell]
      rw [hlen, hfl]
      exact ownsRow_other hi7 (fun g hg => hT8.block g (hi7.lt g hg).2 (by injection hg with hg; subst hg; simpa using hg5t))
    · simp only [Value.ownBlock, Option.toList_some, List.nodup_cons, List.mem_cons, List.not_mem_nil, or_false, not_or, not_false_iff, List.nodup_nil, and_true]
      exact ⟨⟨htm, fun e => hg5t e.symm⟩, fun e => hg5m e.symm⟩
    · intro g hg
      have hg : g5 = g := by simpa [Value.ownBlock] using hg
      subst hg
      rcases hlies with h1 | h1
      · exact .inl h1
      · right; have := hT0.size; omega
  have c2 := cell_of h.cells 2 _ rfl
  have f2 := free_of hc5 2
  have k2 := cell_of hc5 2 _ rfl
  have k3 := cell_of hc5 3 _ rfl
  have k5 := cell_of hb7 5 _ rfl
  have j4 := cell_of hc7 4 _ rfl
  have f4 := free_of hc7 4
  have hrun := hrun
  rw [hW] at hrun
  unfold msgObj at hrun
  simp only [World.size_alloc] at hrun
  rw [hw6] at hrun7
  unfold encI at hrun7
  have HR := Lib.hid hrun
  have HF := Lib.hid hfin
  have H7 := Lib.hid hrun7
  have HB := Lib.hid hb
  have H8 := Lib.hid hw8
  clear hW hw6 hw8 hfin hrun hrun7 hT8 hc8 hTall hi7 hb7 hc7 hs7 hT7 hm7 hi6 hm6 hb6 hc6 hT6 hg5m hg5t hm5 hb5 hc5 htm hne_m hne_t hlt5 hlies hgr hown hrowlt hap hmbl hmW hiW hcW hb0 hT0 h hid hd hl h0
  rw [hb] at k5
  clear hb
  unfold msgV
  go_enter Tryz.func78, Tryz.ntmps78
  have hr7 := H7.out
  go_wp2_with (at_builtin; refine wpList_append_run rfl _ _ _ _ rfl rfl rfl HR.out ?_)
  rw [← H8.out]
  go_end0
  exact HF.out
end Go.Proofs.YtljgifbnmgpdbaaGreatDoor

namespace Go.Proofs.YtljgifbnmgpdbaaGreatDoor
open Go Go.RowKit

/-- How many bytes go into the last segment. -/
def TapeM.room (M : TapeM) : Nat := 1024 - M.fin % 1024
/-- Does a record of n bytes go behind the last one? -/
def TapeM.fits (M : TapeM) (n : Nat) : Prop := M.room = n ∨ n + 3 ≤ M.room
instance (M : TapeM) (n : Nat) : Decidable (M.fits n) := by unfold TapeM.fits; exact inferInstance
/-- The filler ahead of a record. -/
def TapeM.fill (M : TapeM) (n : Nat) : List UInt8 := if M.fits n then [] else fillB M.room
def TapeM.fillN (M : TapeM) (n : Nat) : Nat := if M.fits n then 0 else M.room

theorem room_eq {w : World} {t : Nat} {X : TapeX} {M : TapeM} (h : TapeAt w t X M) : X.R.room = M.room := by
  have h1 := h.row.ok
  have h2 := h.size
  have h3 := h.beg
  have h4 := h.fin
  have h5 := h1.none
  have h6 := h1.lo
  have h7 := h1.hi
  unfold RowM.room TapeM.room
  rw [h2, h3] at *
  rw [h4] at *
  generalize X.R.places.length = n at *
  split
  · rename_i hc
    have := h6 hc.1
    omega
  · rename_i hc
    by_cases e : n = 0
    · have := h5 e
      rw [this]
    · have := h6 (by omega)
      have : M.fin = n * 1024 := by omega
      omega


set_option maxRecDepth 100000 in
set_option maxHeartbeats 2000000 in
theorem laid_right (w : World) (t : Nat) (X : TapeX) (M : TapeM) (h : TapeAt w t X M) (m : MsgM) (kv : Value) (hk : KeysAt w kv m.keys) (hm : rightM m = true) (hroom : 3 ≤ M.room) :
    Calls Tryz.prog 74 #[.pointer (some ⟨t, 0, none⟩), msgV m kv] w fun e w' => e = .returned (.tuple #[.string (bytesOf (M.fill (recSize m))), .string (bytesOf (putB X.T m)), .bool true]) ∧ Touch [] w w' := by
  have hT0 : Touch [] w (w.alloc (msgObj m kv)).drew := ((Touch.refl [] w).alloc _).drew
  have HC := Lib.hid (show (w.alloc (msgObj m kv)).drew.heap[t]? = _ ∧ (w.alloc (msgObj m kv)).drew.heap[w.heap.size]? = _ ∧ Touch [] w (w.alloc (msgObj m kv)).drew from ⟨heap_alloc_lt h.cells _, heap_alloc_at w _, hT0⟩)
  have hput : ∀ W : World, Touch [] w W → Calls Tryz.prog 129 #[.pointer (some ⟨X.c, 0, none⟩), .agg #[.int .i64 m.kind, .int .i64 m.queue, .int .i64 m.due, .int .i64 m.retry, .int .i64 m.ref, .int .i64 m.born, .string m.topic, .string m.tag, .string m.body, kv]] W fun e w' => e = .returned (.tuple #[.string (bytesOf (putB X.T m)), .int .i64 0]) ∧ Touch [] W w' :=
    fun W hT => put_right W X.c X.T m kv (h.tab.touch hT (by simp)) (hk.quiet hT) hm
  have hf := right_facts hm
  have hroom2 := room_eq h
  have hrow := fun (W : World) (hT : Touch [] w W) => room_row W X.r X.d X.pv X.R (h.row.touch hT (by simp))
  rw [hroom2] at hrow
  obtain ⟨s, hs⟩ : ∃ s, s = bytesOf (putB X.T m) := ⟨_, rfl⟩
  have hss : s.size = recSize m := by rw [hs, bytesOf_size, putB_len]
  have hsl := recSize_le hf
  have hM : M.room ≤ 1024 := by unfold TapeM.room; omega
  rw [← hs] at hput ⊢
  have HPUT := Lib.hid hput
  have HROW := Lib.hid hrow
  have hk0 : (m.kind == 0) = false := by have := hf.kind0; simp; omega
  have BS : (s.size : Int) ≤ 321 := by omega
  have HS := Lib.hid (And.intro hss (And.intro hroom hM))
  obtain ⟨a0, cp0, rfl, -⟩ := hk
  clear h hm hT0 hput hf hroom2 hrow hs hss hsl hroom hM
  unfold msgV
  obtain ⟨rm, hrm⟩ : ∃ rm, rm = M.room := ⟨_, rfl⟩
  have hfill : M.fill (recSize m) = if rm = s.size ∨ s.size + 3 ≤ rm then [] else fillB rm := by
    rw [hrm, HS.out.1]; rfl
  rw [hfill]
  have B1 : (rm : Int) ≤ 1024 := by have := HS.out; omega
  have HRM := Lib.hid hrm
  by_cases hfit : rm = s.size ∨ s.size + 3 ≤ rm
  · rw [if_pos hfit]
    have hdd : (((rm : Int) - s.size == 0) = true) ∨ (((rm : Int) - s.size == 0) = false ∧ decide ((3 : Int) ≤ (rm : Int) - s.size) = true) := by
      rcases hfit with hfit | hfit
      · left; simp; omega
      · right; constructor
        · simp; omega
        · simp; omega
    have HFIT := Lib.hid hfit
    clear hfill hfit hrm
    rcases hdd with hd1 | ⟨hd1, hd2⟩
    · skip
      go_enter Tryz.func74, Tryz.ntmps74
      go_wp2_with fail
      skip
      refine region_class (fun w' => w'.heap[t]? = some (.cells #[.pointer (some ⟨X.r, 0, none⟩), .pointer (some ⟨X.c, 0, none⟩), X.sv, .map (some X.mb), .int .i64 X.last] 136 (0, 0)) ∧ w'.heap[w.heap.size]? = some (msgObj m (.slice a0 m.keys.length cp0)) ∧ Touch [] w w') (by kernel_rfl) (by kernel_rfl) ⟨HC.out.1, HC.out.2.1, HC.out.2.2⟩ ?_
      repeat (first | go_big_quiet_skip | (go_big_quiet_want; go_big_quiet_op; first | go_big_quiet_on | (refine Exists.intro _ ⟨fun _ _ => rfl, ?_⟩; go_big_quiet_on) | (refine Exists.intro _ ⟨fun w' hC => by (first | rw [hC.out.1] | rw [hC.out.2.1] | rw [hC.out.2.2.1] | rw [hC.out.2.2.2.1]); exact ⟨rfl, rfl⟩, ?_⟩; go_big_quiet_on) | (refine Exists.intro (.pointer (some ⟨X.c, 0, none⟩)) (And.intro ?_ ?_); (next => (intro w' hC; have c0 := cell_of hC.out.1 1 _ rfl; rw [c0]; exact ⟨rfl, rfl⟩)); go_big_quiet_on) | (refine Exists.intro (.agg #[.int .i64 m.kind, .int .i64 m.queue, .int .i64 m.due, .int .i64 m.retry, .int .i64 m.ref, .int .i64 m.born, .string m.topic, .string m.tag, .string m.body, (.slice a0 m.keys.length cp0)]) (And.intro ?_ ?_); (next => (intro w' hC; have c0 := cell_of hC.out.2.1 0 _ rfl; have c1 := cell_of hC.out.2.1 1 _ rfl; have c2 := cell_of hC.out.2.1 2 _ rfl; have c3 := cell_of hC.out.2.1 3 _ rfl; have c4 := cell_of hC.out.2.1 4 _ rfl; have c5 := cell_of hC.out.2.1 5 _ rfl; have c6 := cell_of hC.out.2.1 6 _ rfl; have c7 := cell_of hC.out.2.1 7 _ rfl; have c8 := cell_of hC.out.2.1 8 _ rfl; have c9 := cell_of hC.out.2.1 9 _ rfl; simp [c0, c1, c2, c3, c4, c5, c6, c7, c8, c9, Result.andThen]; done)); go_big_quiet_on) | (refine Exists.intro _ ⟨fun w' hC => (HPUT.out w' hC.out.2.2).mono fun e w2 hh => ⟨hh.1, hh.2.heap hC.out.1 (by simp), hh.2.heap hC.out.2.1 (by simp), hC.out.2.2.trans' hh.2⟩, ?_⟩; go_big_quiet_on)))
      refine wpQuiet_nil ?_
      rintro w3 ⟨hc3, hb3, hT3⟩
      have c0 := cell_of hc3 0 _ rfl
      have k0 := cell_of hb3 0 _ rfl
      have HT3 := Lib.hid hT3
      clear hc3 hb3 hT3
      go_wp2_with fail
      refine (HROW.out w3 HT3.out).mono ?_
      rintro e w4 ⟨he, hT4⟩
      rw [← HRM.out] at he
      subst he
      have HT4 := Lib.hid (HT3.out.trans' hT4)
      clear hT4
      go_wp2_with fail
      go_ret3
      exact ⟨rfl, HT4.out⟩
    · skip
      go_enter Tryz.func74, Tryz.ntmps74
      go_wp2_with fail
      skip
      refine region_class (fun w' => w'.heap[t]? = some (.cells #[.pointer (some ⟨X.r, 0, none⟩), .pointer (some ⟨X.c, 0, none⟩), X.sv, .map (some X.mb), .int .i64 X.last] 136 (0, 0)) ∧ w'.heap[w.heap.size]? = some (msgObj m (.slice a0 m.keys.length cp0)) ∧ Touch [] w w') (by kernel_rfl) (by kernel_rfl) ⟨HC.out.1, HC.out.2.1, HC.out.2.2⟩ ?_
      repeat (first | go_big_quiet_skip | (go_big_quiet_want; go_big_quiet_op; first | go_big_quiet_on | (refine Exists.intro _ ⟨fun _ _ => rfl, ?_⟩; go_big_quiet_on) | (refine Exists.intro _ ⟨fun w' hC => by (first | rw [hC.out.1] | rw [hC.out.2.1] | rw [hC.out.2.2.1] | rw [hC.out.2.2.2.1]); exact ⟨rfl, rfl⟩, ?_⟩; go_big_quiet_on) | (refine Exists.intro (.pointer (some ⟨X.c, 0, none⟩)) (And.intro ?_ ?_); (next => (intro w' hC; have c0 := cell_of hC.out.1 1 _ rfl; rw [c0]; exact ⟨rfl, rfl⟩)); go_big_quiet_on) | (refine Exists.intro (.agg #[.int .i64 m.kind, .int .i64 m.queue, .int .i64 m.due, .int .i64 m.retry, .int .i64 m.ref, .int .i64 m.born, .string m.topic, .string m.tag, .string m.body, (.slice a0 m.keys.length cp0)]) (And.intro ?_ ?_); (next => (intro w' hC; have c0 := cell_of hC.out.2.1 0 _ rfl; have c1 := cell_of hC.out.2.1 1 _ rfl; have c2 := cell_of hC.out.2.1 2 _ rfl; have c3 := cell_of hC.out.2.1 3 _ rfl; have c4 := cell_of hC.out.2.1 4 _ rfl; have c5 := cell_of hC.out.2.1 5 _ rfl; have c6 := cell_of hC.out.2.1 6 _ rfl; have c7 := cell_of hC.out.2.1 7 _ rfl; have c8 := cell_of hC.out.2.1 8 _ rfl; have c9 := cell_of hC.out.2.1 9 _ rfl; simp [c0, c1, c2, c3, c4, c5, c6, c7, c8, c9, Result.andThen]; done)); go_big_quiet_on) | (refine Exists.intro _ ⟨fun w' hC => (HPUT.out w' hC.out.2.2).mono fun e w2 hh => ⟨hh.1, hh.2.heap hC.out.1 (by simp), hh.2.heap hC.out.2.1 (by simp), hC.out.2.2.trans' hh.2⟩, ?_⟩; go_big_quiet_on)))
      refine wpQuiet_nil ?_
      rintro w3 ⟨hc3, hb3, hT3⟩
      have c0 := cell_of hc3 0 _ rfl
      have k0 := cell_of hb3 0 _ rfl
      have HT3 := Lib.hid hT3
      clear hc3 hb3 hT3
      go_wp2_with fail
      refine (HROW.out w3 HT3.out).mono ?_
      rintro e w4 ⟨he, hT4⟩
      rw [← HRM.out] at he
      subst he
      have HT4 := Lib.hid (HT3.out.trans' hT4)
      clear hT4
      go_wp2_with fail
      go_ret3
      exact ⟨rfl, HT4.out⟩
  · rw [if_neg hfit]
    have hd1 : ((rm : Int) - s.size == 0) = false := by simp; omega
    have hd2 : decide ((3 : Int) ≤ (rm : Int) - s.size) = false := by simp; omega
    have hfl := fun (W : World) => fill_ok W rm (by rw [hrm]; exact HS.out.2.1) (by rw [hrm]; exact HS.out.2.2)
    have HFL := Lib.hid hfl
    clear hfill hfit hrm hfl
    go_enter Tryz.func74, Tryz.ntmps74
    go_wp2_with fail
    skip
    refine region_class (fun w' => w'.heap[t]? = some (.cells #[.pointer (some ⟨X.r, 0, none⟩), .pointer (some ⟨X.c, 0, none⟩), X.sv, .map (some X.mb), .int .i64 X.last] 136 (0, 0)) ∧ w'.heap[w.heap.size]? = some (msgObj m (.slice a0 m.keys.length cp0)) ∧ Touch [] w w') (by kernel_rfl) (by kernel_rfl) ⟨HC.out.1, HC.out.2.1, HC.out.2.2⟩ ?_
    repeat (first | go_big_quiet_skip | (go_big_quiet_want; go_big_quiet_op; first | go_big_quiet_on | (refine Exists.intro _ ⟨fun _ _ => rfl, ?_⟩; go_big_quiet_on) | (refine Exists.intro _ ⟨fun w' hC => by (first | rw [hC.out.1] | rw [hC.out.2.1] | rw [hC.out.2.2.1] | rw [hC.out.2.2.2.1]); exact ⟨rfl, rfl⟩, ?_⟩; go_big_quiet_on) | (refine Exists.intro (.pointer (some ⟨X.c, 0, none⟩)) (And.intro ?_ ?_); (next => (intro w' hC; have c0 := cell_of hC.out.1 1 _ rfl; rw [c0]; exact ⟨rfl, rfl⟩)); go_big_quiet_on) | (refine Exists.intro (.agg #[.int .i64 m.kind, .int .i64 m.queue, .int .i64 m.due, .int .i64 m.retry, .int .i64 m.ref, .int .i64 m.born, .string m.topic, .string m.tag, .string m.body, (.slice a0 m.keys.length cp0)]) (And.intro ?_ ?_); (next => (intro w' hC; have c0 := cell_of hC.out.2.1 0 _ rfl; have c1 := cell_of hC.out.2.1 1 _ rfl; have c2 := cell_of hC.out.2.1 2 _ rfl; have c3 := cell_of hC.out.2.1 3 _ rfl; have c4 := cell_of hC.out.2.1 4 _ rfl; have c5 := cell_of hC.out.2.1 5 _ rfl; have c6 := cell_of hC.out.2.1 6 _ rfl; have c7 := cell_of hC.out.2.1 7 _ rfl; have c8 := cell_of hC.out.2.1 8 _ rfl; have c9 := cell_of hC.out.2.1 9 _ rfl; simp [c0, c1, c2, c3, c4, c5, c6, c7, c8, c9, Result.andThen]; done)); go_big_quiet_on) | (refine Exists.intro _ ⟨fun w' hC => (HPUT.out w' hC.out.2.2).mono fun e w2 hh => ⟨hh.1, hh.2.heap hC.out.1 (by simp), hh.2.heap hC.out.2.1 (by simp), hC.out.2.2.trans' hh.2⟩, ?_⟩; go_big_quiet_on)))
    refine wpQuiet_nil ?_
    rintro w3 ⟨hc3, hb3, hT3⟩
    have c0 := cell_of hc3 0 _ rfl
    have k0 := cell_of hb3 0 _ rfl
    have HT3 := Lib.hid hT3
    clear hc3 hb3 hT3
    go_wp2_with fail
    refine (HROW.out w3 HT3.out).mono ?_
    rintro e w4 ⟨he, hT4⟩
    rw [← HRM.out] at he
    subst he
    have HT4 := Lib.hid (HT3.out.trans' hT4)
    clear hT4
    go_wp2_with fail
    refine (HFL.out w4).mono ?_
    rintro e w5 ⟨rfl, hT5⟩
    have HT5 := Lib.hid (HT4.out.trans' hT5)
    clear hT5
    go_wp2_with fail
    go_ret3
    exact ⟨rfl, HT5.out⟩

set_option maxRecDepth 100000 in
set_option maxHeartbeats 2000000 in
theorem laid_wrong (w : World) (t : Nat) (X : TapeX) (M : TapeM) (h : TapeAt w t X M) (m : MsgM) (kv : Value) (hk : KeysAt w kv m.keys) (hl : m.keys.length ≤ 1000) (hb : m.body.size ≤ 1000000) (hm : rightM m = false) :
    Calls Tryz.prog 74 #[.pointer (some ⟨t, 0, none⟩), msgV m kv] w fun e w' => e = .returned (.tuple #[.string ⟨#[]⟩, .string ⟨#[]⟩, .bool false]) ∧ Touch [] w w' := by
  have hT0 : Touch [] w (w.alloc (msgObj m kv)).drew := ((Touch.refl [] w).alloc _).drew
  have HC := Lib.hid (show (w.alloc (msgObj m kv)).drew.heap[t]? = _ ∧ (w.alloc (msgObj m kv)).drew.heap[w.heap.size]? = _ ∧ Touch [] w (w.alloc (msgObj m kv)).drew from ⟨heap_alloc_lt h.cells _, heap_alloc_at w _, hT0⟩)
  by_cases h0 : m.kind = 0
  · have hk0 : (m.kind == 0) = true := by simpa using h0
    have hput : ∀ W : World, Touch [] w W → Calls Tryz.prog 129 #[.pointer (some ⟨X.c, 0, none⟩), .agg #[.int .i64 m.kind, .int .i64 m.queue, .int .i64 m.due, .int .i64 m.retry, .int .i64 m.ref, .int .i64 m.born, .string m.topic, .string m.tag, .string m.body, kv]] W fun e w' => e = .returned (.tuple #[.string (putF m).1, .int .i64 (putF m).2]) ∧ Touch [] W w' :=
      fun W hT => put_filler W X.c m kv (hk.quiet hT) hl h0 hb
    obtain ⟨a0, cp0, rfl, -⟩ := hk
    have hp2 : (putF m).2 = 0 ∨ (putF m).2 = 1 := by unfold putF; split <;> simp
    generalize (putF m).1 = p1 at hput
    generalize (putF m).2 = p2 at hput hp2
    have HPUT := Lib.hid hput
    clear h hl hb hm h0 hput hT0
    unfold msgV
    rcases hp2 with rfl | rfl
    · skip
      go_enter Tryz.func74, Tryz.ntmps74
      go_wp2_with fail
      skip
      refine region_class (fun w' => w'.heap[t]? = some (.cells #[.pointer (some ⟨X.r, 0, none⟩), .pointer (some ⟨X.c, 0, none⟩), X.sv, .map (some X.mb), .int .i64 X.last] 136 (0, 0)) ∧ w'.heap[w.heap.size]? = some (msgObj m (.slice a0 m.keys.length cp0)) ∧ Touch [] w w') (by kernel_rfl) (by kernel_rfl) ⟨HC.out.1, HC.out.2.1, HC.out.2.2⟩ ?_
      repeat (first | go_big_quiet_skip | (go_big_quiet_want; go_big_quiet_op; first | go_big_quiet_on | (refine Exists.intro _ ⟨fun _ _ => rfl, ?_⟩; go_big_quiet_on) | (refine Exists.intro _ ⟨fun w' hC => by (first | rw [hC.out.1] | rw [hC.out.2.1] | rw [hC.out.2.2.1] | rw [hC.out.2.2.2.1]); exact ⟨rfl, rfl⟩, ?_⟩; go_big_quiet_on) | (refine Exists.intro (.pointer (some ⟨X.c, 0, none⟩)) (And.intro ?_ ?_); (next => (intro w' hC; have c0 := cell_of hC.out.1 1 _ rfl; rw [c0]; exact ⟨rfl, rfl⟩)); go_big_quiet_on) | (refine Exists.intro (.agg #[.int .i64 m.kind, .int .i64 m.queue, .int .i64 m.due, .int .i64 m.retry, .int .i64 m.ref, .int .i64 m.born, .string m.topic, .string m.tag, .string m.body, (.slice a0 m.keys.length cp0)]) (And.intro ?_ ?_); (next => (intro w' hC; have c0 := cell_of hC.out.2.1 0 _ rfl; have c1 := cell_of hC.out.2.1 1 _ rfl; have c2 := cell_of hC.out.2.1 2 _ rfl; have c3 := cell_of hC.out.2.1 3 _ rfl; have c4 := cell_of hC.out.2.1 4 _ rfl; have c5 := cell_of hC.out.2.1 5 _ rfl; have c6 := cell_of hC.out.2.1 6 _ rfl; have c7 := cell_of hC.out.2.1 7 _ rfl; have c8 := cell_of hC.out.2.1 8 _ rfl; have c9 := cell_of hC.out.2.1 9 _ rfl; simp [c0, c1, c2, c3, c4, c5, c6, c7, c8, c9, Result.andThen]; done)); go_big_quiet_on) | (refine Exists.intro _ ⟨fun w' hC => (HPUT.out w' hC.out.2.2).mono fun e w2 hh => ⟨hh.1, hh.2.heap hC.out.1 (by simp), hh.2.heap hC.out.2.1 (by simp), hC.out.2.2.trans' hh.2⟩, ?_⟩; go_big_quiet_on)))
      refine wpQuiet_nil ?_
      rintro w3 ⟨hc3, hb3, hT3⟩
      have k0 := cell_of hb3 0 _ rfl
      have HT3 := Lib.hid hT3
      clear hc3 hb3 hT3
      go_wp2_with fail
      go_ret3
      exact ⟨rfl, HT3.out⟩
    · skip
      go_enter Tryz.func74, Tryz.ntmps74
      go_wp2_with fail
      skip
      refine region_class (fun w' => w'.heap[t]? = some (.cells #[.pointer (some ⟨X.r, 0, none⟩), .pointer (some ⟨X.c, 0, none⟩), X.sv, .map (some X.mb), .int .i64 X.last] 136 (0, 0)) ∧ w'.heap[w.heap.size]? = some (msgObj m (.slice a0 m.keys.length cp0)) ∧ Touch [] w w') (by kernel_rfl) (by kernel_rfl) ⟨HC.out.1, HC.out.2.1, HC.out.2.2⟩ ?_
      repeat (first | go_big_quiet_skip | (go_big_quiet_want; go_big_quiet_op; first | go_big_quiet_on | (refine Exists.intro _ ⟨fun _ _ => rfl, ?_⟩; go_big_quiet_on) | (refine Exists.intro _ ⟨fun w' hC => by (first | rw [hC.out.1] | rw [hC.out.2.1] | rw [hC.out.2.2.1] | rw [hC.out.2.2.2.1]); exact ⟨rfl, rfl⟩, ?_⟩; go_big_quiet_on) | (refine Exists.intro (.pointer (some ⟨X.c, 0, none⟩)) (And.intro ?_ ?_); (next => (intro w' hC; have c0 := cell_of hC.out.1 1 _ rfl; rw [c0]; exact ⟨rfl, rfl⟩)); go_big_quiet_on) | (refine Exists.intro (.agg #[.int .i64 m.kind, .int .i64 m.queue, .int .i64 m.due, .int .i64 m.retry, .int .i64 m.ref, .int .i64 m.born, .string m.topic, .string m.tag, .string m.body, (.slice a0 m.keys.length cp0)]) (And.intro ?_ ?_); (next => (intro w' hC; have c0 := cell_of hC.out.2.1 0 _ rfl; have c1 := cell_of hC.out.2.1 1 _ rfl; have c2 := cell_of hC.out.2.1 2 _ rfl; have c3 := cell_of hC.out.2.1 3 _ rfl; have c4 := cell_of hC.out.2.1 4 _ rfl; have c5 := cell_of hC.out.2.1 5 _ rfl; have c6 := cell_of hC.out.2.1 6 _ rfl; have c7 := cell_of hC.out.2.1 7 _ rfl; have c8 := cell_of hC.out.2.1 8 _ rfl; have c9 := cell_of hC.out.2.1 9 _ rfl; simp [c0, c1, c2, c3, c4, c5, c6, c7, c8, c9, Result.andThen]; done)); go_big_quiet_on) | (refine Exists.intro _ ⟨fun w' hC => (HPUT.out w' hC.out.2.2).mono fun e w2 hh => ⟨hh.1, hh.2.heap hC.out.1 (by simp), hh.2.heap hC.out.2.1 (by simp), hC.out.2.2.trans' hh.2⟩, ?_⟩; go_big_quiet_on)))
      refine wpQuiet_nil ?_
      rintro w3 ⟨hc3, hb3, hT3⟩
      have k0 := cell_of hb3 0 _ rfl
      have HT3 := Lib.hid hT3
      clear hc3 hb3 hT3
      go_wp2_with fail
      go_ret3
      exact ⟨rfl, HT3.out⟩
  · have hk0 : (m.kind == 0) = false := by simpa using h0
    have hput : ∀ W : World, Touch [] w W → Calls Tryz.prog 129 #[.pointer (some ⟨X.c, 0, none⟩), .agg #[.int .i64 m.kind, .int .i64 m.queue, .int .i64 m.due, .int .i64 m.retry, .int .i64 m.ref, .int .i64 m.born, .string m.topic, .string m.tag, .string m.body, kv]] W fun e w' => e = .returned (.tuple #[.string ⟨#[]⟩, .int .i64 1]) ∧ Touch [] W w' :=
      fun W hT => put_wrong W X.c m kv (hk.quiet hT) hl h0 hm
    have HPUT := Lib.hid hput
    obtain ⟨a0, cp0, rfl, -⟩ := hk
    clear h hl hb hm h0 hput hT0
    unfold msgV
    go_enter Tryz.func74, Tryz.ntmps74
    go_wp2_with fail
    skip
    refine region_class (fun w' => w'.heap[t]? = some (.cells #[.pointer (some ⟨X.r, 0, none⟩), .pointer (some ⟨X.c, 0, none⟩), X.sv, .map (some X.mb), .int .i64 X.last] 136 (0, 0)) ∧ w'.heap[w.heap.size]? = some (msgObj m (.slice a0 m.keys.length cp0)) ∧ Touch [] w w') (by kernel_rfl) (by kernel_rfl) ⟨HC.out.1, HC.out.2.1, HC.out.2.2⟩ ?_
    repeat (first | go_big_quiet_skip | (go_big_quiet_want; go_big_quiet_op; first | go_big_quiet_on | (refine Exists.intro _ ⟨fun _ _ => rfl, ?_⟩; go_big_quiet_on) | (refine Exists.intro _ ⟨fun w' hC => by (first | rw [hC.out.1] | rw [hC.out.2.1] | rw [hC.out.2.2.1] | rw [hC.out.2.2.2.1]); exact ⟨rfl, rfl⟩, ?_⟩; go_big_quiet_on) | (refine Exists.intro (.pointer (some ⟨X.c, 0, none⟩)) (And.intro ?_ ?_); (next => (intro w' hC; have c0 := cell_of hC.out.1 1 _ rfl; rw [c0]; exact ⟨rfl, rfl⟩)); go_big_quiet_on) | (refine Exists.intro (.agg #[.int .i64 m.kind, .int .i64 m.queue, .int .i64 m.due, .int .i64 m.retry, .int .i64 m.ref, .int .i64 m.born, .string m.topic, .string m.tag, .string m.body, (.slice a0 m.keys.length cp0)]) (And.intro ?_ ?_); (next => (intro w' hC; have c0 := cell_of hC.out.2.1 0 _ rfl; have c1 := cell_of hC.out.2.1 1 _ rfl; have c2 := cell_of hC.out.2.1 2 _ rfl; have c3 := cell_of hC.out.2.1 3 _ rfl; have c4 := cell_of hC.out.2.1 4 _ rfl; have c5 := cell_of hC.out.2.1 5 _ rfl; have c6 := cell_of hC.out.2.1 6 _ rfl; have c7 := cell_of hC.out.2.1 7 _ rfl; have c8 := cell_of hC.out.2.1 8 _ rfl; have c9 := cell_of hC.out.2.1 9 _ rfl; simp [c0, c1, c2, c3, c4, c5, c6, c7, c8, c9, Result.andThen]; done)); go_big_quiet_on) | (refine Exists.intro _ ⟨fun w' hC => (HPUT.out w' hC.out.2.2).mono fun e w2 hh => ⟨hh.1, hh.2.heap hC.out.1 (by simp), hh.2.heap hC.out.2.1 (by simp), hC.out.2.2.trans' hh.2⟩, ?_⟩; go_big_quiet_on)))
    refine wpQuiet_nil ?_
    rintro w3 ⟨hc3, hb3, hT3⟩
    have HT3 := Lib.hid hT3
    clear hc3 hb3 hT3
    go_wp2_with fail
    go_ret3
    exact ⟨rfl, HT3.out⟩
end Go.Proofs.YtljgifbnmgpdbaaGreatDoor

namespace Go.Proofs.YtljgifbnmgpdbaaGreatDoor
open Go Go.RowKit

theorem own_iff (t : Nat) (X : TapeX) : (ownT t X).Nodup ↔ t ≠ X.mb ∧ t ≠ X.c ∧ X.mb ≠ X.c ∧ (∀ g, X.sv.ownBlock = some g → g ≠ t ∧ g ≠ X.mb ∧ g ≠ X.c ∧ g ∉ rowFoot X.r X.pv) ∧ (t ∉ rowFoot X.r X.pv ∧ X.mb ∉ rowFoot X.r X.pv ∧ X.c ∉ rowFoot X.r X.pv) ∧ (rowFoot X.r X.pv).Nodup := by
  unfold ownT
  cases h : X.sv.ownBlock with
  | none =>
    simp only [Option.toList_none, List.nil_append, List.nodup_cons, List.mem_cons, not_or]
    constructor
    · rintro ⟨⟨a, b, c⟩, ⟨d, e⟩, f, g⟩; exact ⟨a, b, d, by simp, ⟨c, e, f⟩, g⟩
    · rintro ⟨a, b, d, -, ⟨c, e, f⟩, g⟩; exact ⟨⟨a, b, c⟩, ⟨d, e⟩, f, g⟩
  | some x =>
    simp only [Option.toList_some, List.cons_append, List.nil_append, List.nodup_cons, List.mem_cons, not_or, Option.some.injEq]
    constructor
    · rintro ⟨⟨a, b, i, c⟩, ⟨d, j, e⟩, ⟨k, f⟩, l, g⟩; exact ⟨a, b, d, by rintro y rfl; exact ⟨fun e => i e.symm, fun e => j e.symm, fun e => k e.symm, l⟩, ⟨c, e, f⟩, g⟩
    · rintro ⟨a, b, d, hx, ⟨c, e, f⟩, g⟩
      obtain ⟨i, j, k, l⟩ := hx x rfl
      exact ⟨⟨a, b, fun e => i e.symm, c⟩, ⟨d, fun e => j e.symm, e⟩, ⟨fun e => k e.symm, f⟩, l, g⟩

theorem extract_prefix (a b : ByteArray) {i j : Nat} (h : j ≤ a.size) : (a ++ b).extract i j = a.extract i j := by
  apply bytes_ext
  rw [ByteArray.data_extract, ByteArray.data_extract, ByteArray.data_append]
  simp only [Array.toList_extract, Array.toList_append, List.extract_eq_take_drop]
  have hl : a.data.toList.length = a.size := rfl
  by_cases hi : i ≤ a.size
  · rw [List.drop_append_of_le_length (by omega), List.take_append_of_le_length (by rw [List.length_drop]; omega)]
  · have : j - i = 0 := by omega
    rw [this, List.take_zero, List.take_zero]

theorem extract_tail (a b : ByteArray) : (a ++ b).extract a.size (a.size + b.size) = b := by
  have := extract_right a b
  rwa [ByteArray.size_append] at this

theorem RecsIn.longer {l : List (Nat × MsgM)} {fin : Nat} {T : Nat → Int} {data : ByteArray} (h : RecsIn l fin T data) (s : ByteArray) (hd : data.size = fin) : RecsIn l (fin + s.size) T (data ++ s) :=
  ⟨fun p hp => by
    obtain ⟨h1, h2, h3, h4⟩ := h.each p hp
    exact ⟨h1, by omega, h3, by rw [extract_prefix _ _ (by omega)]; exact h4⟩, h.sorted⟩

/-- What stays of a tape's words when its row goes on. -/
structure SameX (X X' : TapeX) : Prop where
  r : X'.r = X.r
  d : X'.d = X.d
  c : X'.c = X.c
  mb : X'.mb = X.mb
  sv : X'.sv = X.sv
  last : X'.last = X.last
  T : X'.T = X.T
  cap : X'.cap = X.cap

def RowOn (w : World) (t : Nat) (X : TapeX) (M : TapeM) (s : ByteArray) (e : Ending) (w' : World) : Prop :=
  e = .returned (.tuple #[.int .i64 M.fin, .int .i64 0]) ∧ ∃ X', TapeAt w' t X' { M with fin := M.fin + s.size } ∧ SameX X X' ∧ X'.data = X.data ++ s ∧ X'.q = X.q + 2 ∧ Touch (rowFoot X.r X.pv ++ X.Fd) w w' ∧ Grew w.heap.size (footT t X) (footT t X')

theorem rowOn_ok (w : World) (t : Nat) (X : TapeX) (M : TapeM) (h : TapeAt w t X M) (hg : Glob w) (hq : X.q + 1 < 1000000) (s : ByteArray) (h0 : 0 < s.size) (hn : s.size ≤ M.room) (hcap : M.fin + s.size ≤ X.cap) :
    Calls Tryz.prog 77 #[.pointer (some ⟨X.r, 0, none⟩), .string s] w (RowOn w t X M s) := by
  obtain ⟨o1, o2, o3, o4, o5, o6⟩ := (own_iff t X).1 h.apart
  have hle := h.disk.le
  have hdis : ∀ b ∈ rowFoot X.r X.pv, b ∉ X.Fd := fun b hb => h.dis b (by simp [ownT, hb])
  have := append_ok h.row h.disk hdis hg h.segs hq s h0 (by rw [room_eq h]; exact hn) (by rw [h.fin]; omega) hcap
  refine this.mono ?_
  rintro e w' ⟨rfl, pv', F', V', hrow, hdisk, hsegs, hT, hG1, hG2, hdis', -⟩
  refine ⟨by rw [h.fin], { X with pv := pv', R := X.R.more s.size, Fd := F', V := V', data := X.data ++ s, q := X.q + 2 }, ?_, ⟨rfl, rfl, rfl, rfl, rfl, rfl, rfl, rfl⟩, rfl, rfl, hT, ?_⟩
  · have hnot : ∀ b, b ∈ ownT t X → b ∉ rowFoot X.r X.pv → b ∉ rowFoot X.r X.pv ++ X.Fd := fun b hb hr hm => by
      rcases List.mem_append.1 hm with hm | hm
      · exact hr hm
      · exact h.dis b hb hm
    have hnew : ∀ b ∈ rowFoot X.r pv', b ∉ rowFoot X.r X.pv → w.heap.size ≤ b := fun b hb hr => (hG2 b hb).resolve_left hr
    have hlt := h.lt
    have htl : t < w.heap.size := hlt t (by simp [footT, ownT])
    have hml : X.mb < w.heap.size := hlt X.mb (by simp [footT, ownT])
    have hcl : X.c < w.heap.size := hlt X.c (by simp [footT, ownT])
    have hsl : ∀ g, X.sv.ownBlock = some g → g < w.heap.size := fun g hg => hlt g (by simp [footT, ownT, hg])
    have hown' : (ownT t { X with pv := pv', R := X.R.more s.size, Fd := F', V := V', data := X.data ++ s, q := X.q + 2 }).Nodup := by
      refine (own_iff t _).2 ⟨o1, o2, o3, fun g hg => ?_, ⟨fun hm => ?_, fun hm => ?_, fun hm => ?_⟩, hrow.apart⟩
      · obtain ⟨a, b, c, d⟩ := o4 g hg
        exact ⟨a, b, c, fun hm => by have := hnew g hm d; have := hsl g hg; omega⟩
      · have := hnew t hm o5.1; omega
      · have := hnew X.mb hm o5.2.1; omega
      · have := hnew X.c hm o5.2.2; omega
    refine ⟨hT.heap h.cells (hnot t (by simp [ownT]) o5.1), hrow, hdisk, hsegs, h.tab.touch hT (hnot X.c (by simp [ownT]) o5.2.2), ownsRow_other h.ids fun b hb => hT.block b (h.ids.lt b hb).2 (hnot b (by simp [ownT, hb]) (o4 b hb).2.2.2),
      MapAt.touch h.sizes hT (hnot X.mb (by simp [ownT]) o5.2.1), hown', ?_, ?_, ?_, ?_, ?_, ?_, ?_, ?_⟩
    · intro b hb
      simp only [ownT, List.mem_cons, List.mem_append, Option.mem_toList] at hb
      have key : b ∈ ownT t X → b < w.heap.size → b ∉ F' := fun hb hbl hm => by
        rcases hG1 b hm with h1 | h1
        · exact h.dis b hb h1
        · omega
      rcases hb with rfl | rfl | rfl | hb | hb
      · exact key (by simp [ownT]) htl
      · exact key (by simp [ownT]) hml
      · exact key (by simp [ownT]) hcl
      · exact key (by simp [ownT, hb]) (hsl b hb)
      · exact hdis' b hb
    · intro b hb
      simp only [ownT, List.mem_cons, List.mem_append, Option.mem_toList] at hb
      rcases hb with rfl | rfl | rfl | hb | hb
      · exact h.low _ (by simp [ownT])
      · exact h.low _ (by simp [ownT])
      · exact h.low _ (by simp [ownT])
      · exact h.low _ (by simp [ownT, hb])
      · exact hrow.low b hb
    · show (X.R.more s.size).head = tapeHead
      rw [show (X.R.more s.size).head = X.R.freshed.head from rfl, (freshed_pos h.row.ok).2.2.2.1]; exact h.head
    · show (X.R.more s.size).size = 1024
      rw [show (X.R.more s.size).size = X.R.freshed.size from rfl, (freshed_pos h.row.ok).2.2.1]; exact h.size
    · show (X.R.more s.size).begin = 0
      rw [more_begin h.row.ok]; exact h.beg
    · show X.R.fin + s.size = M.fin + s.size
      rw [h.fin]
    · show (X.R.more s.size).synced = M.synced
      rw [show (X.R.more s.size).synced = X.R.freshed.synced from rfl, (freshed_pos h.row.ok).2.2.2.2.1]; exact h.syn
    · exact h.recs.longer s (by rw [h.segs.len, h.fin])
  · intro b hb
    simp only [footT, ownT, List.cons_append, List.mem_cons, List.mem_append, Option.mem_toList] at hb
    rcases hb with rfl | rfl | rfl | (hb | hb) | hb
    · exact .inl (by simp [footT, ownT])
    · exact .inl (by simp [footT, ownT])
    · exact .inl (by simp [footT, ownT])
    · exact .inl (by simp [footT, ownT, hb])
    · rcases hG2 b hb with h1 | h1
      · exact .inl (by simp [footT, ownT, h1])
      · exact .inr h1
    · rcases hG1 b hb with h1 | h1
      · exact .inl (by simp [footT, h1])
      · exact .inr h1

def Noted (w : World) (t : Nat) (X : TapeX) (M : TapeM) (id : Nat) (m : MsgM) (e : Ending) (w' : World) : Prop :=
  e = .returned (.tuple #[]) ∧ ∃ X', TapeAt w' t X' { M with recs := M.recs ++ [(id, m)] } ∧ X'.cap = X.cap ∧ X'.q = X.q ∧ Touch (t :: X.mb :: X.sv.ownBlock.toList) w w' ∧ Grew w.heap.size (footT t X) (footT t X')

theorem noted_ok (w : World) (t : Nat) (X : TapeX) (M : TapeM) (h : TapeAt w t X M) (id : Nat) (m : MsgM) (kv : Value) (hk : KeysAt w kv m.keys) (hm : rightM m = true) (hl : M.recs.length ≤ 1000000)
    (h1 : id + recSize m ≤ M.fin) (h2 : id % 1024 + recSize m ≤ 1024) (h3 : X.data.extract id (id + recSize m) = bytesOf (putB X.T m)) (h4 : ∀ p ∈ M.recs, p.1 + recSize p.2 ≤ id) :
    Calls Tryz.prog 78 #[.pointer (some ⟨t, 0, none⟩), .int .i64 id, .int .i64 (recSize m : Nat), msgV m kv] w (Noted w t X M id m) := by
  obtain ⟨o1, o2, o3, o4, o5, o6⟩ := (own_iff t X).1 h.apart
  have hap : (t :: X.mb :: X.sv.ownBlock.toList).Nodup := by
    cases hx : X.sv.ownBlock with
    | none => simp [o1]
    | some g => obtain ⟨a, b, -, -⟩ := o4 g hx; simp [o1]; exact ⟨fun e => a e.symm, fun e => b e.symm⟩
  have hpos : ∀ m : MsgM, 7 ≤ recSize m := recSize_ge
  have := note_ok w t X.r X.c X.mb X.sv X.last M.recs ⟨h.cells, h.ids, h.sizes, hap⟩ id m kv hk (by have := (right_facts hm).kind0; omega) hl (fun p hp e => by have := h4 p hp; have := hpos p.2; omega)
    (h.recs.sorted.imp fun {a b} hab e => by have := hpos a.2; omega)
  refine this.mono ?_
  rintro e w' ⟨sv', rfl, hI, hT, hG⟩
  have hlt := h.lt
  have hnot : ∀ b, b ∈ footT t X → b ≠ t → b ≠ X.mb → (∀ g, X.sv.ownBlock = some g → b ≠ g) → b ∉ t :: X.mb :: X.sv.ownBlock.toList := fun b _ ht hm hs hmem => by
    simp only [List.mem_cons, Option.mem_toList] at hmem
    rcases hmem with e | e | e
    · exact ht e
    · exact hm e
    · exact hs b e rfl
  have hro : ∀ b ∈ rowFoot X.r X.pv, b ∉ t :: X.mb :: X.sv.ownBlock.toList := fun b hb => hnot b (by simp [footT, ownT, hb]) (fun e => o5.1 (e ▸ hb)) (fun e => o5.2.1 (e ▸ hb)) (fun g hg e => (o4 g hg).2.2.2 (e ▸ hb))
  have hdk : ∀ b ∈ X.Fd, b ∉ t :: X.mb :: X.sv.ownBlock.toList := fun b hb => hnot b (by simp [footT, hb]) (fun e => h.dis t (by simp [ownT]) (e ▸ hb)) (fun e => h.dis X.mb (by simp [ownT]) (e ▸ hb)) (fun g hg e => h.dis g (by simp [ownT, hg]) (e ▸ hb))
  have hsl : ∀ g, sv'.ownBlock = some g → g ∈ footT t X → X.sv.ownBlock = some g := fun g hg hm => by
    rcases hG g hg with h1 | h1
    · exact h1
    · have := hlt g hm; omega
  have hap' := hI.apart
  refine ⟨rfl, { X with sv := sv', last := m.born }, ?_, rfl, rfl, hT, ?_⟩
  · have hsv' : ∀ g, sv'.ownBlock = some g → g ≠ t ∧ g ≠ X.mb ∧ g ≠ X.c ∧ g ∉ rowFoot X.r X.pv ∧ g ∉ X.Fd := fun g hg => by
      refine ⟨fun e => ?_, fun e => ?_, fun e => ?_, fun hm => ?_, fun hm => ?_⟩
      · rw [hg, e] at hap'; simp at hap'
      · rw [hg, e] at hap'; simp at hap'
      · exact (o4 g (hsl g hg (by rw [e]; simp [footT, ownT]))).2.2.1 e
      · exact (o4 g (hsl g hg (by simp [footT, ownT, hm]))).2.2.2 hm
      · exact h.dis g (by simp [ownT, hsl g hg (by simp [footT, hm])]) hm
    refine ⟨hI.cells, h.row.touch hT hro, h.disk.touch hT hdk, h.segs, h.tab.touch hT (hnot X.c (by simp [footT, ownT]) (fun e => o2 e.symm) (fun e => o3 e.symm) (fun g hg e => (o4 g hg).2.2.1 e.symm)), hI.ids, hI.sizes,
      (own_iff t _).2 ⟨o1, o2, o3, fun g hg => ⟨(hsv' g hg).1, (hsv' g hg).2.1, (hsv' g hg).2.2.1, (hsv' g hg).2.2.2.1⟩, o5, o6⟩, ?_, ?_, h.head, h.size, h.beg, h.fin, h.syn, ?_⟩
    · intro b hb
      simp only [ownT, List.mem_cons, List.mem_append, Option.mem_toList] at hb
      rcases hb with rfl | rfl | rfl | hb | hb
      · exact h.dis _ (by simp [ownT])
      · exact h.dis _ (by simp [ownT])
      · exact h.dis _ (by simp [ownT])
      · exact (hsv' b hb).2.2.2.2
      · exact h.dis _ (by simp [ownT, hb])
    · intro b hb
      simp only [ownT, List.mem_cons, List.mem_append, Option.mem_toList] at hb
      rcases hb with rfl | rfl | rfl | hb | hb
      · exact h.low _ (by simp [ownT])
      · exact h.low _ (by simp [ownT])
      · exact h.low _ (by simp [ownT])
      · rcases hG b hb with h1 | h1
        · exact h.low b (by simp [ownT, h1])
        · have h2 := h.low t (by simp [ownT])
          have h3 := hlt t (by simp [footT, ownT])
          omega
      · exact h.low _ (by simp [ownT, hb])
    · refine ⟨fun p hp => ?_, ?_⟩
      · rcases List.mem_append.1 hp with hp | hp
        · exact h.recs.each p hp
        · simp at hp; subst hp; exact ⟨hm, h1, h2, h3⟩
      · rw [List.pairwise_append]
        refine ⟨h.recs.sorted, by simp, fun a ha b hb => ?_⟩
        simp at hb; subst hb; exact h4 a ha
  · intro b hb
    simp only [footT, ownT, List.cons_append, List.mem_cons, List.mem_append, Option.mem_toList] at hb
    rcases hb with rfl | rfl | rfl | (hb | hb) | hb
    · exact .inl (by simp [footT, ownT])
    · exact .inl (by simp [footT, ownT])
    · exact .inl (by simp [footT, ownT])
    · rcases hG b hb with h1 | h1
      · exact .inl (by simp [footT, ownT, h1])
      · exact .inr h1
    · exact .inl (by simp [footT, ownT, hb])
    · exact .inl (by simp [footT, hb])
end Go.Proofs.YtljgifbnmgpdbaaGreatDoor

namespace Go.Proofs.YtljgifbnmgpdbaaGreatDoor
open Go Go.RowKit

def TapeM.cost (M : TapeM) (m : MsgM) : Nat := M.fillN (recSize m) + recSize m
def TapeM.idOf (M : TapeM) (m : MsgM) : Nat := M.fin + M.fillN (recSize m)
def TapeM.push (M : TapeM) (m : MsgM) : TapeM := ⟨M.recs ++ [(M.idOf m, m)], M.idOf m + recSize m, M.synced⟩

def Appended (w : World) (t : Nat) (F : List Nat) (M : TapeM) (cap : Nat) (m : MsgM) (e : Ending) (w' : World) : Prop :=
  e = .returned (.tuple #[.int .i64 (M.idOf m : Nat), .int .i64 0]) ∧ ∃ F', TapeV w' t F' (M.push m) cap ∧ Touch F w w' ∧ Grew w.heap.size F F'

theorem KeysAt.touch' {w w' : World} {kv : Value} {ks : List ByteArray} {F : List Nat} (h : KeysAt w kv ks) (hT : Touch F w w') (hF : ks ≠ [] → ∀ b, kv.ownBlock = some b → b ∉ F) : KeysAt w' kv ks := by
  by_cases e : ks = []
  · subst e
    obtain ⟨a, cp, rfl, -⟩ := h
    exact ⟨a, cp, rfl, fun i s hi => by simp at hi⟩
  · exact h.touch hT (hF e)

theorem fill_size (M : TapeM) (n : Nat) (h : 3 ≤ M.room) : (M.fill n).length = M.fillN n := by
  unfold TapeM.fill TapeM.fillN
  split
  · rfl
  · exact fillB_len h

theorem recs_le {l : List (Nat × MsgM)} {fin : Nat} {T : Nat → Int} {data : ByteArray} (h : RecsIn l fin T data) : ∀ p ∈ l, p.1 + recSize p.2 ≤ fin := fun p hp => (h.each p hp).2.1

set_option maxRecDepth 100000 in
set_option maxHeartbeats 4000000 in
theorem tappend_fits (w : World) (t : Nat) (F : List Nat) (M : TapeM) (cap : Nat) (h : TapeV w t F M cap) (hg : Glob w) (m : MsgM) (kv : Value) (hk : KeysAt w kv m.keys) (hkF : m.keys ≠ [] → ∀ b, kv.ownBlock = some b → b ∉ F) (hm : rightM m = true) (hl : M.recs.length ≤ 200000)
    (hfit : M.fits (recSize m)) (hcap : M.fin + M.cost m ≤ cap) :
    Calls Tryz.prog 22 #[.pointer (some ⟨t, 0, none⟩), msgV m kv] w (Appended w t F M cap m) := by
  have hlow := h.low
  have hlt := h.lt
  obtain ⟨X, h, rfl, rfl, hq, hroom⟩ := h
  have hfn : M.fillN (recSize m) = 0 := by unfold TapeM.fillN; rw [if_pos hfit]
  have hid : M.idOf m = M.fin := by unfold TapeM.idOf; omega
  have hf := right_facts hm
  obtain ⟨a0, cp0, rfl, hka⟩ := hk
  have hk : KeysAt w (.slice a0 m.keys.length cp0) m.keys := ⟨a0, cp0, rfl, hka⟩
  have hT1 : Touch [] w (w.alloc (msgObj m (.slice a0 m.keys.length cp0))) := (Touch.refl _ _).alloc _
  have hlaid := laid_right _ t X M (h.touch hT1 (by simp)) m _ (hk.quiet hT1) hm hroom
  have hfe : bytesOf (M.fill (recSize m)) = ⟨#[]⟩ := by unfold TapeM.fill; rw [if_pos hfit]; rfl
  rw [hfe] at hlaid
  obtain ⟨s, hs⟩ : ∃ s, s = bytesOf (putB X.T m) := ⟨_, rfl⟩
  have hss : s.size = recSize m := by rw [hs, bytesOf_size, putB_len]
  rw [← hs] at hlaid
  unfold msgObj at hlaid
  have HLAID := Lib.hid hlaid
  have HH := Lib.hid h
  have HK := Lib.hid (And.intro hk hkF)
  have HS := Lib.hid (And.intro hs hss)
  have hsl := recSize_le hf
  have hsg := recSize_ge m
  have hcost : M.fin + s.size ≤ X.cap := by have : M.cost m = recSize m := by unfold TapeM.cost; omega
                                            omega
  have HN := Lib.hid (And.intro hlow (And.intro hlt (And.intro hg (And.intro hm (And.intro hl (And.intro hfit (And.intro hcost (And.intro hq (And.intro hroom (And.intro hfn hid))))))))))
  have BS : (s.size : Int) ≤ 321 := by omega
  have BS2 : (7 : Int) ≤ s.size := by omega
  have hd1 : decide ((X.cap - M.fin : Nat) < s.size) = false := by simp; omega
  have hd2 : decide (((X.cap - M.fin : Nat) : Int) < (s.size : Int)) = false := by simp; omega
  clear hlow hlt hf hk hka hkF hlaid hfe hs hss hT1 h hg hm hl hfit hcap hq hroom hfn hid hsl hsg hcost
  unfold msgV
  go_enter Tryz.func22, Tryz.ntmps22
  go_wp2_with fail
  refine HLAID.out.mono ?_
  rintro e w2 ⟨rfl, hT2⟩
  have hb2 := hT2.heap (heap_alloc_at w _) (by simp)
  have hT2 : Touch [] w w2 := ((Touch.refl [] w).alloc _).trans' hT2
  have hX2 := HH.out.touch hT2 (by simp)
  have c0 := cell_of hX2.cells 0 _ rfl
  have r0 := hX2.row.six.1
  have HB2 := Lib.hid hb2
  have HT2 := Lib.hid hT2
  have HX2 := Lib.hid hX2
  clear hb2 hT2 hX2
  go_wp2_with fail
  refine (downV_ok HX2.out.disk).mono ?_
  rintro e w' ⟨rfl, rfl⟩
  go_wp2_with fail
  refine (roomV_ok HX2.out.disk).mono ?_
  rintro e w3 ⟨rfl, hT3⟩
  have HX3 := Lib.hid (HX2.out.touch hT3 (by simp))
  have HB3 := Lib.hid (hT3.heap HB2.out (by simp))
  have HT3 := Lib.hid (HT2.out.trans' hT3)
  clear hT3 c0 r0
  have c0 := cell_of HX3.out.cells 0 _ rfl
  go_wp2_with fail
  refine (rowOn_ok w3 t X M HX3.out (HN.out.2.2.1.touch HT3.out (by simp)) (by have := HN.out; omega) s (by omega) ?hroom HN.out.2.2.2.2.2.2.1).mono ?_
  case hroom =>
    have h1 := HS.out.2
    rcases HN.out.2.2.2.2.2.1 with h2 | h2
    · omega
    · omega
  rintro e w4 ⟨rfl, X4, hX4, hsame, hdata, hq4, hT4, hG4⟩
  have hb4 := hT4.heap HB3.out (fun hm => by
    have h1 : w.heap.size ∈ footT t X := by
      rcases List.mem_append.1 hm with hm | hm
      · simp [footT, ownT, hm]
      · simp [footT, hm]
    have := HN.out.2.1 _ h1; omega)
  have c0 := cell_of hb4 0 _ rfl
  have c1 := cell_of hb4 1 _ rfl
  have c2 := cell_of hb4 2 _ rfl
  have c3 := cell_of hb4 3 _ rfl
  have c4 := cell_of hb4 4 _ rfl
  have c5 := cell_of hb4 5 _ rfl
  have c6 := cell_of hb4 6 _ rfl
  have c7 := cell_of hb4 7 _ rfl
  have c8 := cell_of hb4 8 _ rfl
  have c9 := cell_of hb4 9 _ rfl
  have hsub : ∀ b ∈ rowFoot X.r X.pv ++ X.Fd, b ∈ footT t X := fun b hm => by
    rcases List.mem_append.1 hm with hm | hm
    · simp [footT, ownT, hm]
    · simp [footT, hm]
  have hT4' : Touch (footT t X) w w4 := HT3.out.nil.trans' (hT4.mono hsub)
  have hk4 : KeysAt w4 (.slice a0 m.keys.length cp0) m.keys := HK.out.1.touch' hT4' HK.out.2
  have hnote := noted_ok w4 t X4 _ hX4 M.fin m _ hk4 HN.out.2.2.2.1 (by have := HN.out.2.2.2.2.1; show M.recs.length ≤ _; omega) (by show M.fin + recSize m ≤ M.fin + s.size; have := HS.out.2; omega)
    (by
      have h1 := HS.out.2
      rcases HN.out.2.2.2.2.2.1 with h2 | h2
      · unfold TapeM.room at h2; omega
      · unfold TapeM.room at h2; omega)
    (by
      rw [hdata, hsame.T]
      have h1 := HX3.out.segs.len
      rw [HX3.out.fin] at h1
      have h2 := HS.out
      rw [← h2.2, ← h2.1, ← h1]
      exact extract_tail _ _)
    (fun p hp => recs_le HH.out.recs p hp)
  have HNOTE := Lib.hid hnote
  have HT4 := Lib.hid hT4'
  have HG4 := Lib.hid (show Grew w.heap.size (footT t X) (footT t X4) from fun b hb => by
    rcases hG4 b hb with h1 | h1
    · exact .inl h1
    · right; have := HT3.out.size; omega)
  have HQ4 := Lib.hid (And.intro hq4 (And.intro hsame.cap hX4))
  rw [← HS.out.2] at hnote
  have HNO := Lib.hid hnote
  clear hnote hT4' hT4 hG4 hq4 hdata hX4 hk4 hsub hb4 hsame
  go_wp2_with fail
  refine HNO.out.mono ?_
  rintro e w5 ⟨rfl, X5, hX5, hcap5, hq5, hT5, hG5⟩
  have hsub5 : ∀ b ∈ t :: X4.mb :: X4.sv.ownBlock.toList, b ∈ footT t X4 := fun b hb => by
    simp only [List.mem_cons, Option.mem_toList] at hb
    rcases hb with rfl | rfl | hb
    · simp [footT, ownT]
    · simp [footT, ownT]
    · simp [footT, ownT, hb]
  have hfin : Appended w t (footT t X) M X.cap m (.returned (.tuple #[.int .i64 (M.fin : Nat), .int .i64 0])) w5 := by
    obtain ⟨hlow, hlt, hg, hm, hl, hfit, hcost, hq, hroom, hfn, hid⟩ := HN.out
    have e1 := HS.out.2
    refine ⟨by rw [hid], footT t X5, ⟨X5, ?_, rfl, by rw [hcap5, HQ4.out.2.1], ?_, ?_⟩, HT4.out.trans (hT5.mono hsub5) HG4.out, HG4.out.trans hG5 HT4.out.size⟩
    · have : M.push m = ⟨M.recs ++ [(M.fin, m)], M.fin + s.size, M.synced⟩ := by unfold TapeM.push; rw [hid, e1]
      rw [this]
      exact hX5
    · have : (M.push m).recs.length = M.recs.length + 1 := by simp [TapeM.push]
      rw [this, hq5, HQ4.out.1]
      omega
    · show 3 ≤ 1024 - (M.idOf m + recSize m) % 1024
      rw [hid]
      rcases hfit with h2 | h2
      · unfold TapeM.room at h2; omega
      · unfold TapeM.room at h2; omega
  have HFIN := Lib.hid hfin
  clear hfin hX5 hcap5 hq5 hT5 hG5 hsub5
  go_wp2_with fail
  go_ret2
  exact HFIN.out
end Go.Proofs.YtljgifbnmgpdbaaGreatDoor

namespace Go.Proofs.YtljgifbnmgpdbaaGreatDoor
open Go Go.RowKit

set_option maxRecDepth 100000 in
set_option maxHeartbeats 4000000 in
theorem tappend_fill (w : World) (t : Nat) (F : List Nat) (M : TapeM) (cap : Nat) (h : TapeV w t F M cap) (hg : Glob w) (m : MsgM) (kv : Value) (hk : KeysAt w kv m.keys) (hkF : m.keys ≠ [] → ∀ b, kv.ownBlock = some b → b ∉ F) (hm : rightM m = true) (hl : M.recs.length ≤ 200000)
    (hfit : ¬ M.fits (recSize m)) (hcap : M.fin + M.cost m ≤ cap) :
    Calls Tryz.prog 22 #[.pointer (some ⟨t, 0, none⟩), msgV m kv] w (Appended w t F M cap m) := by
  have hlow := h.low
  have hlt := h.lt
  obtain ⟨X, h, rfl, rfl, hq, hroom⟩ := h
  have hfn : M.fillN (recSize m) = M.room := by unfold TapeM.fillN; rw [if_neg hfit]
  have hid : M.idOf m = M.fin + M.room := by unfold TapeM.idOf; omega
  have hf := right_facts hm
  obtain ⟨a0, cp0, rfl, hka⟩ := hk
  have hk : KeysAt w (.slice a0 m.keys.length cp0) m.keys := ⟨a0, cp0, rfl, hka⟩
  have hT1 : Touch [] w (w.alloc (msgObj m (.slice a0 m.keys.length cp0))) := (Touch.refl _ _).alloc _
  have hlaid := laid_right _ t X M (h.touch hT1 (by simp)) m _ (hk.quiet hT1) hm hroom
  have hfe : bytesOf (M.fill (recSize m)) = bytesOf (fillB M.room) := by unfold TapeM.fill; rw [if_neg hfit]
  rw [hfe] at hlaid
  obtain ⟨f, hff⟩ : ∃ f, f = bytesOf (fillB M.room) := ⟨_, rfl⟩
  have hfs : f.size = M.room := by rw [hff, bytesOf_size]; exact fillB_len hroom
  rw [← hff] at hlaid
  have hf0 : f.size ≠ 0 := by rw [hfs]; show M.room ≠ 0; unfold TapeM.room; omega
  have f1 := bytes_not_nil hf0
  have f2 : f.toList.isEmpty = false := by simpa using f1
  have f3 : (!f.toList.isEmpty) = true := by simpa using f1
  have hrm : M.room ≤ 1024 := by unfold TapeM.room; omega
  have HFS := Lib.hid (And.intro hfs hrm)
  have BF : (f.size : Int) ≤ 1024 := by omega
  obtain ⟨s, hs⟩ : ∃ s, s = bytesOf (putB X.T m) := ⟨_, rfl⟩
  have hss : s.size = recSize m := by rw [hs, bytesOf_size, putB_len]
  rw [← hs] at hlaid
  unfold msgObj at hlaid
  have HLAID := Lib.hid hlaid
  have HH := Lib.hid h
  have HK := Lib.hid (And.intro hk hkF)
  have HS := Lib.hid (And.intro hs hss)
  have hsl := recSize_le hf
  have hsg := recSize_ge m
  have hcost : M.fin + f.size + s.size ≤ X.cap := by have : M.cost m = M.room + recSize m := by unfold TapeM.cost; omega
                                                     omega
  have HN := Lib.hid (And.intro hlow (And.intro hlt (And.intro hg (And.intro hm (And.intro hl (And.intro hfit (And.intro hcost (And.intro hq (And.intro hroom (And.intro hfn hid))))))))))
  have BS : (s.size : Int) ≤ 321 := by omega
  have BS2 : (7 : Int) ≤ s.size := by omega
  have hd1 : decide ((X.cap - M.fin : Nat) < f.size + s.size) = false := by simp; omega
  have hd2 : decide (((X.cap - M.fin : Nat) : Int) < (f.size : Int) + (s.size : Int)) = false := by simp; omega
  clear hlow hlt hf hk hka hkF hlaid hfe hs hss hT1 h hg hm hl hfit hcap hq hroom hfn hid hsl hsg hcost hff hfs hf0 hrm
  unfold msgV
  go_enter Tryz.func22, Tryz.ntmps22
  go_wp2_with fail
  refine HLAID.out.mono ?_
  rintro e w2 ⟨rfl, hT2⟩
  have hb2 := hT2.heap (heap_alloc_at w _) (by simp)
  have hT2 : Touch [] w w2 := ((Touch.refl [] w).alloc _).trans' hT2
  have hX2 := HH.out.touch hT2 (by simp)
  have c0 := cell_of hX2.cells 0 _ rfl
  have r0 := hX2.row.six.1
  have HB2 := Lib.hid hb2
  have HT2 := Lib.hid hT2
  have HX2 := Lib.hid hX2
  clear hb2 hT2 hX2
  go_wp2_with fail
  refine (downV_ok HX2.out.disk).mono ?_
  rintro e w' ⟨rfl, rfl⟩
  go_wp2_with fail
  refine (roomV_ok HX2.out.disk).mono ?_
  rintro e w3 ⟨rfl, hT3⟩
  have HX3 := Lib.hid (HX2.out.touch hT3 (by simp))
  have HB3 := Lib.hid (hT3.heap HB2.out (by simp))
  have HT3 := Lib.hid (HT2.out.trans' hT3)
  clear hT3 c0 r0
  have c0 := cell_of HX3.out.cells 0 _ rfl
  go_wp2_with fail
  refine (rowOn_ok w3 t X M HX3.out (HN.out.2.2.1.touch HT3.out (by simp)) (by have := HN.out; omega) f (by have h1 := HFS.out; have := HN.out.2.2.2.2.2.2.2.2.1; unfold TapeM.room at h1; omega) (by rw [HFS.out.1]; exact Nat.le_refl _) (by have := HN.out.2.2.2.2.2.2.1; omega)).mono ?_
  rintro e w30 ⟨rfl, X30, hX30, hsame30, hdata30, hq30, hT30, hG30⟩
  have hsub30 : ∀ b ∈ rowFoot X.r X.pv ++ X.Fd, b ∈ footT t X := fun b hm => by
    rcases List.mem_append.1 hm with hm | hm
    · simp [footT, ownT, hm]
    · simp [footT, hm]
  have hb30 := hT30.heap HB3.out (fun hm => by have := HN.out.2.1 _ (hsub30 _ hm); omega)
  have hT30' : Touch (footT t X) w w30 := HT3.out.nil.trans' (hT30.mono hsub30)
  have HB30 := Lib.hid hb30
  have HT30 := Lib.hid hT30'
  have HX30 := Lib.hid hX30
  have HG30 := Lib.hid (show Grew w.heap.size (footT t X) (footT t X30) from fun b hb => by
    rcases hG30 b hb with h1 | h1
    · exact .inl h1
    · right; have := HT3.out.size; omega)
  have HB0 := Lib.hid (show w.heap.size ∉ footT t X30 from fun hm => by
    have h0 := lt_of_heap HB3.out
    rcases hG30 _ hm with h1 | h1
    · have := HN.out.2.1 _ h1; omega
    · omega)
  have HQ30 := Lib.hid (And.intro hq30 (And.intro hsame30.cap (And.intro hsame30.T (And.intro hdata30 hsame30.r))))
  clear hX30 hsame30 hdata30 hq30 hT30 hG30 hsub30 hb30 hT30' c0
  have c0 := cell_of HX30.out.cells 0 _ rfl
  go_wp2_with fail
  refine (rowOn_ok w30 t X30 _ HX30.out (HN.out.2.2.1.touch HT30.out HN.out.1) (by have := HN.out; have := HQ30.out; omega) s (by omega) ?hroom ?hcap).mono ?_
  case hroom =>
    have h1 := HFS.out.1
    show s.size ≤ 1024 - (M.fin + f.size) % 1024
    unfold TapeM.room at h1
    omega
  case hcap =>
    rw [HQ30.out.2.1]
    exact HN.out.2.2.2.2.2.2.1
  rintro e w4 ⟨rfl, X4, hX4, hsame, hdata, hq4, hT4, hG4⟩
  have hsub : ∀ b ∈ rowFoot X30.r X30.pv ++ X30.Fd, b ∈ footT t X30 := fun b hm => by
    rcases List.mem_append.1 hm with hm | hm
    · simp [footT, ownT, hm]
    · simp [footT, hm]
  have hb4 := hT4.heap HB30.out (fun hm => HB0.out (hsub _ hm))
  have c0 := cell_of hb4 0 _ rfl
  have c1 := cell_of hb4 1 _ rfl
  have c2 := cell_of hb4 2 _ rfl
  have c3 := cell_of hb4 3 _ rfl
  have c4 := cell_of hb4 4 _ rfl
  have c5 := cell_of hb4 5 _ rfl
  have c6 := cell_of hb4 6 _ rfl
  have c7 := cell_of hb4 7 _ rfl
  have c8 := cell_of hb4 8 _ rfl
  have c9 := cell_of hb4 9 _ rfl
  have hT4' : Touch (footT t X) w w4 := HT30.out.trans (hT4.mono hsub) HG30.out
  have hk4 : KeysAt w4 (.slice a0 m.keys.length cp0) m.keys := HK.out.1.touch' hT4' HK.out.2
  have hnote := noted_ok w4 t X4 _ hX4 (M.fin + f.size) m _ hk4 HN.out.2.2.2.1 (by have := HN.out.2.2.2.2.1; show M.recs.length ≤ _; omega) (by show M.fin + f.size + recSize m ≤ M.fin + f.size + s.size; have := HS.out.2; omega)
    (by
      have h1 := HS.out.2
      have h2 := HFS.out.1
      unfold TapeM.room at h2
      omega)
    (by
      rw [hdata, hsame.T]
      have h1 := HX30.out.segs.len
      rw [HX30.out.fin] at h1
      have h2 := HS.out
      have h3 : X30.data.size = M.fin + f.size := h1
      rw [← h2.2, HQ30.out.2.2.1, ← h2.1, ← h3]
      exact extract_tail _ _)
    (fun p hp => by have := recs_le HH.out.recs p hp; omega)
  have HT4 := Lib.hid hT4'
  have HG4 := Lib.hid (show Grew w.heap.size (footT t X) (footT t X4) from HG30.out.trans hG4 HT30.out.size)
  have HQ4 := Lib.hid (And.intro hq4 (And.intro hsame.cap hX4))
  rw [← HS.out.2] at hnote
  have HNO := Lib.hid hnote
  clear hnote hT4' hT4 hG4 hq4 hdata hX4 hk4 hsub hb4 hsame
  go_wp2_with fail
  refine HNO.out.mono ?_
  rintro e w5 ⟨rfl, X5, hX5, hcap5, hq5, hT5, hG5⟩
  have hsub5 : ∀ b ∈ t :: X4.mb :: X4.sv.ownBlock.toList, b ∈ footT t X4 := fun b hb => by
    simp only [List.mem_cons, Option.mem_toList] at hb
    rcases hb with rfl | rfl | hb
    · simp [footT, ownT]
    · simp [footT, ownT]
    · simp [footT, ownT, hb]
  have hfin : Appended w t (footT t X) M X.cap m (.returned (.tuple #[.int .i64 ((M.fin + f.size : Nat) : Int), .int .i64 0])) w5 := by
    obtain ⟨hlow, hlt, hg, hm, hl, hfit, hcost, hq, hroom, hfn, hid⟩ := HN.out
    have e1 := HS.out.2
    have e2 := HFS.out.1
    refine ⟨by rw [hid, e2], footT t X5, ⟨X5, ?_, rfl, by rw [hcap5, HQ4.out.2.1, HQ30.out.2.1], ?_, ?_⟩, HT4.out.trans (hT5.mono hsub5) HG4.out, HG4.out.trans hG5 HT4.out.size⟩
    · have : M.push m = ⟨M.recs ++ [(M.fin + f.size, m)], M.fin + f.size + s.size, M.synced⟩ := by unfold TapeM.push; rw [hid, e1, e2]
      rw [this]
      exact hX5
    · have : (M.push m).recs.length = M.recs.length + 1 := by simp [TapeM.push]
      rw [this, hq5, HQ4.out.1, HQ30.out.1]
      omega
    · show 3 ≤ 1024 - (M.idOf m + recSize m) % 1024
      rw [hid]
      have := e1
      have : s.size ≤ 321 := by omega
      unfold TapeM.room
      omega
  have HFIN := Lib.hid hfin
  clear hfin hX5 hcap5 hq5 hT5 hG5 hsub5
  go_wp2_with fail
  go_ret2
  have hfc : ((M.fin + f.size : Nat) : Int) = (M.fin : Int) + (f.size : Int) := by omega
  have := HFIN.out
  first | exact this | (rw [hfc] at this; exact this)
end Go.Proofs.YtljgifbnmgpdbaaGreatDoor
