/- Law 19, EnqOne: for every input its call returns true, and each argument reads behind the call as it read before; no condition of ours. (Here too: The law of layer 6: Great, of one record. The law of layer 6: Great, of a row of records. Arguments as they are read: a row of records; a byte. What comes of a record that is offered to a tape, and noted, in plain words. No walk. The law of layer 19: add of any record; two rigs side by side. The law of layer 19: EnqOne's contract: the first half.) -/
import Derived.Test.YtljgifbnmgpdbaaGreatDoorZe02
set_option linter.unusedSimpArgs false
set_option linter.unusedVariables false
set_option linter.unnecessarySimpa false
namespace Go.Proofs.YtljgifbnmgpdbaaGreatDoor
open Go Go.RowKit

def GreatOut (w : World) (m : MsgM) (e : Ending) (w' : World) : Prop := ∃ g : Bool, e = .returned (.bool g) ∧ (g = false → m.keys.length ≤ 10 ∧ m.body.size ≤ 2000) ∧ Touch [] w w'

set_option maxRecDepth 100000 in
set_option maxHeartbeats 4000000 in
theorem great_ok (w : World) (m : MsgM) (a : Option Addr) (cp : Nat) (hs : StrsAt w a m.keys) (hl : m.keys.length ≤ 9223372036854775807) (b : Nat) (hb : w.heap[b]? = some (msgObj m (.slice a m.keys.length cp))) (hsz : m.body.size ≤ 9223372036854775807 ∧ m.topic.size ≤ 9223372036854775807 ∧ m.tag.size ≤ 9223372036854775807) :
    Calls Tryz.prog 21 #[.slice (some ⟨b, 0, none⟩) 1 1] w (GreatOut w m) := by
  have HX := Lib.hid (And.intro hs (And.intro hl hb))
  have hb' := hb
  unfold msgObj at hb'
  obtain ⟨n, hn⟩ : ∃ n, n = m.keys.length := ⟨_, rfl⟩
  rw [← hn] at hb'
  have HN := Lib.hid hn
  have BN : (n : Int) ≤ 9223372036854775807 := by omega
  have B1 : (m.body.size : Int) ≤ 9223372036854775807 := by omega
  have B2 : (m.topic.size : Int) ≤ 9223372036854775807 := by omega
  have B3 : (m.tag.size : Int) ≤ 9223372036854775807 := by omega
  clear hs hl hsz hn hb
  have HB := Lib.hid hb'
  clear hb'
  go_enter Tryz.func21, Tryz.ntmps21
  go_wp2_with fail
  go_loopg [9] 1 (fun k va wr => ∃ j : Nat, j + k = 1 ∧ va = .int .i64 j ∧ (j = 1 → m.keys.length ≤ 10 ∧ m.body.size ≤ 2000) ∧ Touch [] w wr)
  case atStart => exact ⟨0, rfl, by go_num, (fun h => by cases h), Touch.refl _ _⟩
  case round =>
    obtain ⟨j, hj, rfl, hf, hT⟩ := hrel
    have HJ := Lib.hid (And.intro hj (And.intro hf hT))
    by_cases hj0 : j = 0
    · subst hj0
      have hbw := hT.heap HB.out (by simp)
      have c0 := cell_of hbw 0 _ rfl
      have c1 := cell_of hbw 1 _ rfl
      have c2 := cell_of hbw 2 _ rfl
      have c3 := cell_of hbw 3 _ rfl
      have c4 := cell_of hbw 4 _ rfl
      have c5 := cell_of hbw 5 _ rfl
      have c6 := cell_of hbw 6 _ rfl
      have c7 := cell_of hbw 7 _ rfl
      have c8 := cell_of hbw 8 _ rfl
      have c9 := cell_of hbw 9 _ rfl
      clear hbw hf hT hj
      by_cases g1 : (2000 : Int) < m.body.size
      · have d1 : decide ((2000 : Int) < m.body.size) = true := by simpa using g1
        go_wp2_with fail
        go_ret
        exact ⟨true, rfl, (fun h => by cases h), HJ.out.2.2.alloc _⟩
      · have d1 : decide ((2000 : Int) < m.body.size) = false := by simpa using g1
        by_cases g2 : (100 : Int) < m.topic.size
        · have d2 : decide ((100 : Int) < m.topic.size) = true := by simpa using g2
          go_wp2_with fail
          go_ret
          exact ⟨true, rfl, (fun h => by cases h), HJ.out.2.2.alloc _⟩
        · have d2 : decide ((100 : Int) < m.topic.size) = false := by simpa using g2
          by_cases g3 : (100 : Int) < m.tag.size
          · have d3 : decide ((100 : Int) < m.tag.size) = true := by simpa using g3
            go_wp2_with fail
            go_ret
            exact ⟨true, rfl, (fun h => by cases h), HJ.out.2.2.alloc _⟩
          · have d3 : decide ((100 : Int) < m.tag.size) = false := by simpa using g3
            by_cases g4 : (10 : Int) < n
            · have d4 : decide ((10 : Int) < n) = true := by simpa using g4
              go_wp2_with fail
              go_ret
              exact ⟨true, rfl, (fun h => by cases h), HJ.out.2.2.alloc _⟩
            · have d4 : decide ((10 : Int) < n) = false := by simpa using g4
              go_wp2_with fail
              go_loopg [38] n (fun k va w2 => ∃ i : Nat, i + k = n ∧ va = .int .i64 i ∧ Touch [] w w2)
              case atStart => exact ⟨0, by omega, by go_num, HJ.out.2.2.alloc _⟩
              case round =>
                obtain ⟨i, hi, rfl, hT2⟩ := hrel
                have HI := Lib.hid (And.intro hi hT2)
                by_cases hin : i < n
                · have hik : i < m.keys.length := by rw [← HN.out]; exact hin
                  obtain ⟨b1, o1, e1, x1⟩ := HX.out.1 i _ (List.getElem?_eq_getElem hik)
                  subst e1
                  have x1 := hT2.cell x1 (by simp)
                  obtain ⟨s, hs⟩ : ∃ s, s = m.keys[i] := ⟨_, rfl⟩
                  rw [← hs] at x1
                  clear hs hT2 hi
                  have BI : (i : Int) < n := by omega
                  by_cases g5 : (100 : Int) < s.size
                  · have d5 : decide ((100 : Int) < s.size) = true := by simpa using g5
                    go_wp2_with fail
                    go_ret
                    exact ⟨true, rfl, (fun h => by cases h), HI.out.2⟩
                  · have d5 : decide ((100 : Int) < s.size) = false := by simpa using g5
                    go_wp2_with fail
                    go_roundg (n - (i + 1))
                    case measure => have := HI.out.1; omega
                    case rel => exact ⟨i + 1, by have := HI.out.1; omega, by go_num, HI.out.2⟩
                · have hin' : (i : Int) = n := by omega
                  have hd : decide ((i : Int) < n) = false := by simp; omega
                  clear hi hT2
                  go_wp2_with fail
                  go_roundg 0
                  case measure => have := HJ.out.1; omega
                  case rel => exact ⟨1, rfl, by go_num, (fun _ => ⟨by have := HN.out; omega, by omega⟩), HI.out.2⟩
    · have hj1 : j = 1 := by omega
      subst hj1
      clear hj0 hf hT hj
      go_wp2_with fail
      go_ret
      exact ⟨false, rfl, (fun _ => HJ.out.2.1 trivial), HJ.out.2.2⟩
end Go.Proofs.YtljgifbnmgpdbaaGreatDoor

namespace Go.Proofs.YtljgifbnmgpdbaaGreatDoor
open Go Go.RowKit

/-- A row of records that is read, only: each with its keys. -/
def MsgsAt (w : World) (a : Option Addr) (ms : List (MsgM × Value)) : Prop :=
  ∀ (i : Nat) (x : MsgM × Value), ms[i]? = some x → KeysAt w x.2 x.1.keys ∧ ∃ b o, a = some ⟨b, o, none⟩ ∧ w.cell? ⟨b, o + i * 10, none⟩ = some (.int .i64 x.1.kind) ∧ w.cell? ⟨b, o + i * 10 + 1, none⟩ = some (.int .i64 x.1.queue) ∧ w.cell? ⟨b, o + i * 10 + 2, none⟩ = some (.int .i64 x.1.due) ∧
    w.cell? ⟨b, o + i * 10 + 3, none⟩ = some (.int .i64 x.1.retry) ∧ w.cell? ⟨b, o + i * 10 + 4, none⟩ = some (.int .i64 x.1.ref) ∧ w.cell? ⟨b, o + i * 10 + 5, none⟩ = some (.int .i64 x.1.born) ∧ w.cell? ⟨b, o + i * 10 + 6, none⟩ = some (.string x.1.topic) ∧
    w.cell? ⟨b, o + i * 10 + 7, none⟩ = some (.string x.1.tag) ∧ w.cell? ⟨b, o + i * 10 + 8, none⟩ = some (.string x.1.body) ∧ w.cell? ⟨b, o + i * 10 + 9, none⟩ = some x.2

theorem MsgsAt.quiet {w w' : World} {a : Option Addr} {ms : List (MsgM × Value)} (h : MsgsAt w a ms) (hT : Touch [] w w') : MsgsAt w' a ms := by
  intro i x hi
  obtain ⟨hk, b, o, e, h0, h1, h2, h3, h4, h5, h6, h7, h8, h9⟩ := h i x hi
  exact ⟨hk.quiet hT, b, o, e, hT.cell h0 (by simp), hT.cell h1 (by simp), hT.cell h2 (by simp), hT.cell h3 (by simp), hT.cell h4 (by simp), hT.cell h5 (by simp), hT.cell h6 (by simp), hT.cell h7 (by simp), hT.cell h8 (by simp), hT.cell h9 (by simp)⟩

def Small (m : MsgM) : Prop := m.keys.length ≤ 10 ∧ m.body.size ≤ 2000
def GreatsOut (w : World) (ms : List (MsgM × Value)) (e : Ending) (w' : World) : Prop := ∃ g : Bool, e = .returned (.bool g) ∧ (g = false → ∀ x ∈ ms, Small x.1) ∧ Touch [] w w'

set_option maxRecDepth 100000 in
set_option maxHeartbeats 4000000 in
theorem greats_ok (w : World) (a : Option Addr) (cp : Nat) (ms : List (MsgM × Value)) (h : MsgsAt w a ms) (hl : ms.length ≤ 1000000) (hz : ∀ x ∈ ms, x.1.keys.length ≤ 9223372036854775807 ∧ x.1.body.size ≤ 9223372036854775807 ∧ x.1.topic.size ≤ 9223372036854775807 ∧ x.1.tag.size ≤ 9223372036854775807) :
    Calls Tryz.prog 21 #[.slice a ms.length cp] w (GreatsOut w ms) := by
  obtain ⟨N, hN⟩ : ∃ N, N = ms.length := ⟨_, rfl⟩
  have BNN : (N : Int) ≤ 1000000 := by omega
  have HX := Lib.hid (And.intro h (And.intro hz hN))
  rw [← hN]
  clear h hl hz hN
  go_enter Tryz.func21, Tryz.ntmps21
  go_wp2_with fail
  go_loopg [9] N (fun k va wr => ∃ j : Nat, j + k = N ∧ va = .int .i64 j ∧ (∀ x ∈ ms.take j, Small x.1) ∧ Touch [] w wr)
  case atStart => exact ⟨0, by omega, by go_num, (fun x hx => by simp at hx), Touch.refl _ _⟩
  case round =>
    obtain ⟨j, hj, rfl, hf, hT⟩ := hrel
    have HJ := Lib.hid (And.intro hj (And.intro hf hT))
    by_cases hj0 : j < N
    · have hjl : j < ms.length := by rw [← HX.out.2.2]; exact hj0
      obtain ⟨x, hx⟩ : ∃ x, x = ms[j] := ⟨_, rfl⟩
      have hxm : x ∈ ms := by rw [hx]; exact List.getElem_mem _
      have hxj : ms[j]? = some x := by rw [hx]; exact List.getElem?_eq_getElem hjl
      obtain ⟨m, kv⟩ := x
      obtain ⟨hk, b, o, e, c0, c1, c2, c3, c4, c5, c6, c7, c8, c9⟩ := (HX.out.1.quiet hT) j _ hxj
      obtain ⟨z0, z1, z2, z3⟩ := HX.out.2.1 _ hxm
      simp only at hk c0 c1 c2 c3 c4 c5 c6 c7 c8 c9 z0 z1 z2 z3
      obtain ⟨a', cp', rfl, hs⟩ := hk
      subst e
      obtain ⟨n, hn⟩ : ∃ n, n = m.keys.length := ⟨_, rfl⟩
      rw [← hn] at c9 z0
      have HN := Lib.hid hn
      have HS := Lib.hid hs
      have HXJ := Lib.hid hxj
      have BN : (n : Int) ≤ 9223372036854775807 := by omega
      have B1 : (m.body.size : Int) ≤ 9223372036854775807 := by omega
      have B2 : (m.topic.size : Int) ≤ 9223372036854775807 := by omega
      have B3 : (m.tag.size : Int) ≤ 9223372036854775807 := by omega
      have BJ : (j : Int) < N := by omega
      clear hf hT hj hn hs hx hxm hxj z0 z1 z2 z3
      obtain ⟨w2, hw2⟩ : ∃ w2, w2 = wr.alloc (msgObj m (.slice a' n cp')) := ⟨_, rfl⟩
      have hT2 : Touch [] wr w2 := by rw [hw2]; exact (Touch.refl _ _).alloc _
      have hB2 : w2.heap[wr.heap.size]? = some (msgObj m (.slice a' n cp')) := by rw [hw2]; exact heap_alloc_at _ _
      have HT2 := Lib.hid (HJ.out.2.2.trans' hT2)
      unfold msgObj at hw2 hB2
      have HW2 := Lib.hid hw2
      have HB2 := Lib.hid hB2
      clear hw2 hT2
      go_upto_region 4 with fail
      rw [← HW2.out]
      clear c0 c1 c2 c3 c4 c5 c6 c7 c8 c9
      have c0 := cell_of hB2 0 _ rfl
      have c1 := cell_of hB2 1 _ rfl
      have c2 := cell_of hB2 2 _ rfl
      have c3 := cell_of hB2 3 _ rfl
      have c4 := cell_of hB2 4 _ rfl
      have c5 := cell_of hB2 5 _ rfl
      have c6 := cell_of hB2 6 _ rfl
      have c7 := cell_of hB2 7 _ rfl
      have c8 := cell_of hB2 8 _ rfl
      have c9 := cell_of hB2 9 _ rfl
      clear hB2
      by_cases g1 : (2000 : Int) < m.body.size
      · have d1 : decide ((2000 : Int) < m.body.size) = true := by simpa using g1
        go_wp2_with fail
        go_ret
        exact ⟨true, rfl, (fun h => by cases h), HT2.out⟩
      · have d1 : decide ((2000 : Int) < m.body.size) = false := by simpa using g1
        by_cases g2 : (100 : Int) < m.topic.size
        · have d2 : decide ((100 : Int) < m.topic.size) = true := by simpa using g2
          go_wp2_with fail
          go_ret
          exact ⟨true, rfl, (fun h => by cases h), HT2.out⟩
        · have d2 : decide ((100 : Int) < m.topic.size) = false := by simpa using g2
          by_cases g3 : (100 : Int) < m.tag.size
          · have d3 : decide ((100 : Int) < m.tag.size) = true := by simpa using g3
            go_wp2_with fail
            go_ret
            exact ⟨true, rfl, (fun h => by cases h), HT2.out⟩
          · have d3 : decide ((100 : Int) < m.tag.size) = false := by simpa using g3
            by_cases g4 : (10 : Int) < n
            · have d4 : decide ((10 : Int) < n) = true := by simpa using g4
              go_wp2_with fail
              go_ret
              exact ⟨true, rfl, (fun h => by cases h), HT2.out⟩
            · have d4 : decide ((10 : Int) < n) = false := by simpa using g4
              go_wp2_with fail
              go_loopg [38] n (fun k va w3 => ∃ i : Nat, i + k = n ∧ va = .int .i64 i ∧ Touch [] w w3 ∧ Touch [] wr w3)
              case atStart => exact ⟨0, by omega, by go_num, HT2.out, by rw [HW2.out]; exact (Touch.refl _ _).alloc _⟩
              case round =>
                obtain ⟨i, hi, rfl, hT3, hTr⟩ := hrel
                have HI := Lib.hid (And.intro hi (And.intro hT3 hTr))
                by_cases hin : i < n
                · have hik : i < m.keys.length := by rw [← HN.out]; exact hin
                  obtain ⟨b1, o1, e1, x1⟩ := HS.out i _ (List.getElem?_eq_getElem hik)
                  subst e1
                  have x1 := hTr.cell x1 (by simp)
                  obtain ⟨s, hs⟩ : ∃ s, s = m.keys[i] := ⟨_, rfl⟩
                  rw [← hs] at x1
                  clear hs hT3 hTr hi
                  have BI : (i : Int) < n := by omega
                  by_cases g5 : (100 : Int) < s.size
                  · have d5 : decide ((100 : Int) < s.size) = true := by simpa using g5
                    go_wp2_with fail
                    go_ret
                    exact ⟨true, rfl, (fun h => by cases h), HI.out.2.1⟩
                  · have d5 : decide ((100 : Int) < s.size) = false := by simpa using g5
                    go_wp2_with fail
                    go_roundg (n - (i + 1))
                    case measure => have := HI.out.1; omega
                    case rel => exact ⟨i + 1, by have := HI.out.1; omega, by go_num, HI.out.2.1, HI.out.2.2⟩
                · have hin' : (i : Int) = n := by omega
                  have hd : decide ((i : Int) < n) = false := by simp; omega
                  clear hi hT3 hTr
                  go_wp2_with fail
                  go_roundg (N - (j + 1))
                  case measure => have := HJ.out.1; omega
                  case rel =>
                    refine ⟨j + 1, by have := HJ.out.1; omega, by go_num, fun x hx => ?_, HI.out.2.1⟩
                    have hjl : j < ms.length := by rw [← HX.out.2.2]; exact hj0
                    rw [List.take_succ_eq_append_getElem hjl] at hx
                    rcases List.mem_append.1 hx with hx | hx
                    · exact HJ.out.2.1 x hx
                    · have h1 := HXJ.out
                      rw [List.getElem?_eq_getElem hjl] at h1
                      injection h1 with h1
                      simp at hx
                      rw [hx, h1]
                      exact ⟨by have := HN.out; show m.keys.length ≤ 10; omega, by show m.body.size ≤ 2000; omega⟩
    · have hjn : (j : Int) = N := by have := HJ.out.1; omega
      have hd : decide ((j : Int) < N) = false := by simp; omega
      clear hf hT hj
      go_wp2_with fail
      go_ret
      refine ⟨false, rfl, fun _ x hx => ?_, HJ.out.2.2⟩
      have h1 := HJ.out.2.1
      rw [List.take_of_length_le (by rw [← HX.out.2.2]; omega)] at h1
      exact h1 x hx
end Go.Proofs.YtljgifbnmgpdbaaGreatDoor

namespace Go.Proofs.YtljgifbnmgpdbaaGreatDoor
open Go Go.ChangeShapes Go.WideShapes Go.ChangeAt Go.RowKit

set_option maxRecDepth 100000 in
theorem msg_trod {H : Type} {enc : TypeId × Value → H} {W : World} {cs : Array Value} {d : DataW H} {p : List MemPlace} (hsz : cs.size = 10)
    (h : DataW.Trod enc Tryz.prog W 0 (fun _ => true) true 46 (.agg cs) d p) : ∃ (m : MsgM) (kv : Value), .agg cs = msgV m kv ∧ KeysAt W kv m.keys ∧ m.keys.length ≤ maxLen ∧ m.body.size ≤ maxLen ∧ m.topic.size ≤ maxLen ∧ m.tag.size ≤ maxLen := by
  obtain ⟨fuel, hf⟩ := h
  obtain ⟨xs, n, -, -, -, hxl, hfld⟩ := DataW.trod_struct Tryz.underlying46 hf
  have hxl : xs.length = 10 := hxl
  obtain ⟨c0, c1, c2, c3, c4, c5, c6, c7, c8, c9, rfl⟩ : ∃ c0 c1 c2 c3 c4 c5 c6 c7 c8 c9, cs = #[c0, c1, c2, c3, c4, c5, c6, c7, c8, c9] := by
    obtain ⟨l⟩ := cs
    match l, hsz with
    | [c0, c1, c2, c3, c4, c5, c6, c7, c8, c9], _ => exact ⟨_, _, _, _, _, _, _, _, _, _, rfl⟩
  have k3 : Tryz.prog.cellsOf 3 = 1 := by kernel_rfl
  have k9 : Tryz.prog.cellsOf 9 = 1 := by kernel_rfl
  have k44 : Tryz.prog.cellsOf 44 = 1 := by kernel_rfl
  have f0 : DataW.trod enc Tryz.prog W 0 (fun _ => true) true n 3 (List.take (Tryz.prog.cellsOf 3) [c0, c1, c2, c3, c4, c5, c6, c7, c8, c9]) = xs[0]? := hfld 0 _ rfl
  rw [k3, List.getElem?_eq_getElem (by omega)] at f0
  have f0 : DataW.trod enc Tryz.prog W 0 (fun _ => true) true n 3 [c0] = some xs[0] := f0
  have f1 : DataW.trod enc Tryz.prog W 0 (fun _ => true) true n 3 (List.take (Tryz.prog.cellsOf 3) [c1, c2, c3, c4, c5, c6, c7, c8, c9]) = xs[1]? := hfld 1 _ rfl
  rw [k3, List.getElem?_eq_getElem (by omega)] at f1
  have f1 : DataW.trod enc Tryz.prog W 0 (fun _ => true) true n 3 [c1] = some xs[1] := f1
  have f2 : DataW.trod enc Tryz.prog W 0 (fun _ => true) true n 3 (List.take (Tryz.prog.cellsOf 3) [c2, c3, c4, c5, c6, c7, c8, c9]) = xs[2]? := hfld 2 _ rfl
  rw [k3, List.getElem?_eq_getElem (by omega)] at f2
  have f2 : DataW.trod enc Tryz.prog W 0 (fun _ => true) true n 3 [c2] = some xs[2] := f2
  have f3 : DataW.trod enc Tryz.prog W 0 (fun _ => true) true n 3 (List.take (Tryz.prog.cellsOf 3) [c3, c4, c5, c6, c7, c8, c9]) = xs[3]? := hfld 3 _ rfl
  rw [k3, List.getElem?_eq_getElem (by omega)] at f3
  have f3 : DataW.trod enc Tryz.prog W 0 (fun _ => true) true n 3 [c3] = some xs[3] := f3
  have f4 : DataW.trod enc Tryz.prog W 0 (fun _ => true) true n 3 (List.take (Tryz.prog.cellsOf 3) [c4, c5, c6, c7, c8, c9]) = xs[4]? := hfld 4 _ rfl
  rw [k3, List.getElem?_eq_getElem (by omega)] at f4
  have f4 : DataW.trod enc Tryz.prog W 0 (fun _ => true) true n 3 [c4] = some xs[4] := f4
  have f5 : DataW.trod enc Tryz.prog W 0 (fun _ => true) true n 3 (List.take (Tryz.prog.cellsOf 3) [c5, c6, c7, c8, c9]) = xs[5]? := hfld 5 _ rfl
  rw [k3, List.getElem?_eq_getElem (by omega)] at f5
  have f5 : DataW.trod enc Tryz.prog W 0 (fun _ => true) true n 3 [c5] = some xs[5] := f5
  have f6 : DataW.trod enc Tryz.prog W 0 (fun _ => true) true n 9 (List.take (Tryz.prog.cellsOf 9) [c6, c7, c8, c9]) = xs[6]? := hfld 6 _ rfl
  rw [k9, List.getElem?_eq_getElem (by omega)] at f6
  have f6 : DataW.trod enc Tryz.prog W 0 (fun _ => true) true n 9 [c6] = some xs[6] := f6
  have f7 : DataW.trod enc Tryz.prog W 0 (fun _ => true) true n 9 (List.take (Tryz.prog.cellsOf 9) [c7, c8, c9]) = xs[7]? := hfld 7 _ rfl
  rw [k9, List.getElem?_eq_getElem (by omega)] at f7
  have f7 : DataW.trod enc Tryz.prog W 0 (fun _ => true) true n 9 [c7] = some xs[7] := f7
  have f8 : DataW.trod enc Tryz.prog W 0 (fun _ => true) true n 9 (List.take (Tryz.prog.cellsOf 9) [c8, c9]) = xs[8]? := hfld 8 _ rfl
  rw [k9, List.getElem?_eq_getElem (by omega)] at f8
  have f8 : DataW.trod enc Tryz.prog W 0 (fun _ => true) true n 9 [c8] = some xs[8] := f8
  have f9 : DataW.trod enc Tryz.prog W 0 (fun _ => true) true n 44 (List.take (Tryz.prog.cellsOf 44) [c9]) = xs[9]? := hfld 9 _ rfl
  rw [k44, List.getElem?_eq_getElem (by omega)] at f9
  have f9 : DataW.trod enc Tryz.prog W 0 (fun _ => true) true n 44 [c9] = some xs[9] := f9
  obtain ⟨n0, e0, -, -⟩ := DataW.trod_int Tryz.underlying3 f0
  obtain ⟨n1, e1, -, -⟩ := DataW.trod_int Tryz.underlying3 f1
  obtain ⟨n2, e2, -, -⟩ := DataW.trod_int Tryz.underlying3 f2
  obtain ⟨n3, e3, -, -⟩ := DataW.trod_int Tryz.underlying3 f3
  obtain ⟨n4, e4, -, -⟩ := DataW.trod_int Tryz.underlying3 f4
  obtain ⟨n5, e5, -, -⟩ := DataW.trod_int Tryz.underlying3 f5
  obtain ⟨s6, e6, -, z6⟩ := DataW.trod_string Tryz.underlying9 f6
  obtain ⟨s7, e7, -, z7⟩ := DataW.trod_string Tryz.underlying9 f7
  obtain ⟨s8, e8, -, z8⟩ := DataW.trod_string Tryz.underlying9 f8
  obtain ⟨ks, hks, hkl⟩ := strings_read f9
  simp only [List.cons.injEq, and_true] at e0 e1 e2 e3 e4 e5 e6 e7 e8
  subst e0 e1 e2 e3 e4 e5 e6 e7 e8
  exact ⟨⟨n0, n1, n2, n3, n4, n5, s6, s7, s8, ks⟩, c9, rfl, hks, hkl, z8, z6, z7⟩

set_option maxRecDepth 100000 in
theorem msg_cells {H : Type} {enc : TypeId × Value → H} {W : World} {fuel : Nat} {cs : List Value} {x : DataW H × List MemPlace} (hsz : cs.length = 10) (hf : DataW.trod enc Tryz.prog W 0 (fun _ => true) true fuel 46 cs = some x) :
    ∃ (m : MsgM) (kv : Value), cs = [.int .i64 m.kind, .int .i64 m.queue, .int .i64 m.due, .int .i64 m.retry, .int .i64 m.ref, .int .i64 m.born, .string m.topic, .string m.tag, .string m.body, kv] ∧ KeysAt W kv m.keys ∧ m.keys.length ≤ maxLen ∧ m.body.size ≤ maxLen ∧ m.topic.size ≤ maxLen ∧ m.tag.size ≤ maxLen := by
  obtain ⟨c0, c1, c2, c3, c4, c5, c6, c7, c8, c9, rfl⟩ : ∃ c0 c1 c2 c3 c4 c5 c6 c7 c8 c9, cs = [c0, c1, c2, c3, c4, c5, c6, c7, c8, c9] := by
    match cs, hsz with
    | [c0, c1, c2, c3, c4, c5, c6, c7, c8, c9], _ => exact ⟨_, _, _, _, _, _, _, _, _, _, rfl⟩
  have h : DataW.Trod enc Tryz.prog W 0 (fun _ => true) true 46 (.agg #[c0, c1, c2, c3, c4, c5, c6, c7, c8, c9]) x.1 x.2 := ⟨fuel, hf⟩
  obtain ⟨m, kv, e, h1, h2⟩ := msg_trod rfl h
  refine ⟨m, kv, ?_, h1, h2⟩
  unfold msgV at e
  injection e with e
  have := congrArg Array.toList e
  simpa using this

def RecAt (W : World) (a : Addr) (i : Nat) (y : MsgM × Value) : Prop := (∀ k v, [Value.int .i64 y.1.kind, .int .i64 y.1.queue, .int .i64 y.1.due, .int .i64 y.1.retry, .int .i64 y.1.ref, .int .i64 y.1.born, .string y.1.topic, .string y.1.tag, .string y.1.body, y.2][k]? = some v → W.cell? ((a.add (i * 10)).add k) = some v) ∧ KeysAt W y.2 y.1.keys ∧ y.1.keys.length ≤ maxLen ∧ y.1.body.size ≤ maxLen ∧ y.1.topic.size ≤ maxLen ∧ y.1.tag.size ≤ maxLen

set_option maxRecDepth 100000 in
theorem msgs_read {H : Type} {enc : TypeId × Value → H} {W : World} {fuel : Nat} {c : Value} {x : DataW H × List MemPlace} (h : DataW.trod enc Tryz.prog W 0 (fun _ => true) true fuel 41 [c] = some x) :
    ∃ (a : Option Addr) (cp : Nat) (ms : List (MsgM × Value)), c = .slice a ms.length cp ∧ MsgsAt W a ms ∧ ms.length ≤ maxLen ∧ ∀ y ∈ ms, y.1.keys.length ≤ maxLen ∧ y.1.body.size ≤ maxLen ∧ y.1.topic.size ≤ maxLen ∧ y.1.tag.size ≤ maxLen := by
  have k46 : Tryz.prog.cellsOf 46 = 10 := by kernel_rfl
  rcases DataW.trod_slice Tryz.underlying41 h with ⟨hcs, -⟩ | ⟨a, len, cap, elems, rest, n, -, hcs, -, -, hl, hm, hlen, hel, -⟩
  · simp only [List.cons.injEq, and_true] at hcs
    subst hcs
    exact ⟨none, 0, [], rfl, fun i x hi => by simp at hi, Nat.zero_le _, fun y hy => by cases hy⟩
  · simp only [List.cons.injEq, and_true] at hcs
    subst hcs
    rw [k46] at hel
    have each : ∀ i, i < len → ∃ (y : MsgM × Value), RecAt W a i y := by
      intro i hi
      have h1 := hel i hi
      rw [List.getElem?_eq_getElem (by omega), Option.bind_eq_some_iff] at h1
      obtain ⟨cs, hc, ht⟩ := h1
      obtain ⟨hb, hn, hcell⟩ := World.cells?_some hc
      obtain ⟨m, kv, rfl, hk, rest⟩ := msg_cells hn ht
      refine ⟨(m, kv), fun k v hv => ?_, hk, rest⟩
      have hk10 : k < 10 := by have := (List.getElem?_eq_some_iff.1 hv).1; simpa using this
      rw [hcell k hk10]; exact hv
    have each' : ∀ i, ∃ (y : MsgM × Value), i < len → RecAt W a i y := fun i => by
      by_cases hi : i < len
      · obtain ⟨y, hy⟩ := each i hi
        exact ⟨y, fun _ => hy⟩
      · exact ⟨(noMsg, .slice none 0 0), fun h => absurd h hi⟩
    obtain ⟨f, hf⟩ := Classical.axiomOfChoice each'
    have hml : ((List.range len).map f).length = len := by simp
    refine ⟨some a, cap, (List.range len).map f, by rw [hml], fun i y hi => ?_, by rw [hml]; omega, fun y hy => ?_⟩
    · have hil : i < len := by have := (List.getElem?_eq_some_iff.1 hi).1; rwa [hml] at this
      have hy : y = f i := by
        rw [List.getElem?_map, List.getElem?_range hil] at hi
        simpa using hi.symm
      subst hy
      obtain ⟨hc, hk, -⟩ := hf i hil
      obtain ⟨b, o, st⟩ := a
      have hst : st = none := by simpa [Addr.add] using World.cell?_spot ((hf 0 (by omega)).1 0 _ rfl)
      subst hst
      refine ⟨hk, b, o, rfl, ?_, ?_, ?_, ?_, ?_, ?_, ?_, ?_, ?_, ?_⟩
      all_goals
        first
          | (have := hc 0 _ rfl; rw [addr_add, addr_add] at this; exact this)
          | (have := hc 1 _ rfl; rw [addr_add, addr_add] at this; exact this)
          | (have := hc 2 _ rfl; rw [addr_add, addr_add] at this; exact this)
          | (have := hc 3 _ rfl; rw [addr_add, addr_add] at this; exact this)
          | (have := hc 4 _ rfl; rw [addr_add, addr_add] at this; exact this)
          | (have := hc 5 _ rfl; rw [addr_add, addr_add] at this; exact this)
          | (have := hc 6 _ rfl; rw [addr_add, addr_add] at this; exact this)
          | (have := hc 7 _ rfl; rw [addr_add, addr_add] at this; exact this)
          | (have := hc 8 _ rfl; rw [addr_add, addr_add] at this; exact this)
          | (have := hc 9 _ rfl; rw [addr_add, addr_add] at this; exact this)
    · obtain ⟨i, hi, rfl⟩ := List.mem_map.1 hy
      exact (hf i (List.mem_range.1 hi)).2.2
end Go.Proofs.YtljgifbnmgpdbaaGreatDoor

namespace Go.Proofs.YtljgifbnmgpdbaaGreatDoor
open Go Go.RowKit

def addM (st : TapeM × PendM) (m : MsgM) : TapeM × PendM := if rightM m = true then (st.1.push m, (pendNote st.2 (st.1.idOf m : Nat) m).2) else st

theorem cost_le {M : TapeM} {m : MsgM} (h : rightM m = true) : M.cost m ≤ 1400 := by
  have h1 := recSize_le (right_facts h)
  have h2 : M.fillN (recSize m) ≤ 1024 := by
    unfold TapeM.fillN TapeM.room
    split <;> omega
  unfold TapeM.cost
  omega
theorem push_fin (M : TapeM) (m : MsgM) : (M.push m).fin = M.fin + M.cost m := by
  unfold TapeM.push TapeM.idOf TapeM.cost
  simp only
  omega
theorem add_fin (st : TapeM × PendM) (m : MsgM) : (addM st m).1.fin ≤ st.1.fin + 1400 ∧ (addM st m).1.recs.length ≤ st.1.recs.length + 1 := by
  unfold addM
  split
  · rename_i h
    rw [push_fin]
    have := cost_le (M := st.1) h
    refine ⟨by omega, ?_⟩
    simp [TapeM.push]
  · exact ⟨by omega, by omega⟩
def addsM (ms : List MsgM) : TapeM × PendM := ms.foldl addM (⟨[], 0, 0⟩, [])
theorem adds_snoc (ms : List MsgM) (m : MsgM) : addsM (ms ++ [m]) = addM (addsM ms) m := by unfold addsM; rw [List.foldl_append]; rfl
theorem adds_fin : ∀ ms : List MsgM, (addsM ms).1.fin ≤ 1400 * ms.length ∧ (addsM ms).1.recs.length ≤ ms.length := by
  intro ms
  have key : ∀ (ms : List MsgM) (st : TapeM × PendM), (ms.foldl addM st).1.fin ≤ st.1.fin + 1400 * ms.length ∧ (ms.foldl addM st).1.recs.length ≤ st.1.recs.length + ms.length := by
    intro ms
    induction ms with
    | nil => intro st; simp
    | cons m ms ih =>
      intro st
      obtain ⟨h1, h2⟩ := ih (addM st m)
      obtain ⟨h3, h4⟩ := add_fin st m
      rw [List.foldl_cons]
      simp only [List.length_cons]
      omega
  have := key ms (⟨[], 0, 0⟩, [])
  simpa [addsM] using this
end Go.Proofs.YtljgifbnmgpdbaaGreatDoor

namespace Go.Proofs.YtljgifbnmgpdbaaGreatDoor
open Go Go.RowKit

set_option maxRecDepth 100000 in
set_option maxHeartbeats 2000000 in
theorem add19_wrong (w : World) (q : Nat) (X : DeqX) (M : TapeM) (P : PendM) (L : LogM) (cur : Int) (late : List Int) (h : EnqAt w q X M P L cur late) (m : MsgM) (kv : Value) (hk : KeysAt w kv m.keys) (hs : Small m) (hm : rightM m = false) :
    Calls Tryz.prog 30 #[rigV q X, msgV m kv] w fun e w' => e = .returned (.tuple #[.int .i64 0, .bool false]) ∧ Touch [] w w' := by
  obtain ⟨a', cp', rfl, hstr⟩ := hk
  have hk : KeysAt w (.slice a' m.keys.length cp') m.keys := ⟨a', cp', rfl, hstr⟩
  obtain ⟨w0, hw0⟩ : ∃ w0, w0 = (w.alloc (.cells #[.pointer (some ⟨X.t, 0, none⟩), .pointer (some ⟨X.s, 0, none⟩), .pointer (some ⟨X.l, 0, none⟩), .pointer (some ⟨q, 0, none⟩)] 59)).alloc (msgObj m (.slice a' m.keys.length cp')) := ⟨_, rfl⟩
  have hT0 : Touch [] w w0 := by rw [hw0]; exact ((Touch.refl _ _).alloc _).alloc _
  have hR0 : w0.heap[w.heap.size]? = some (.cells #[.pointer (some ⟨X.t, 0, none⟩), .pointer (some ⟨X.s, 0, none⟩), .pointer (some ⟨X.l, 0, none⟩), .pointer (some ⟨q, 0, none⟩)] 59 (0, 0)) := by rw [hw0]; exact heap_alloc_lt (heap_alloc_at _ _) _
  have hM0 : w0.heap[w.heap.size + 1]? = some (msgObj m (.slice a' m.keys.length cp')) := by rw [hw0]; exact heap_at _ _ _ (by simp)
  have hap := tappend_wrong w0 _ _ _ _ (h.quiet hT0).tape m _ (hk.quiet hT0) (by have := hs.1; omega) (by have := hs.2; omega) hm
  have HA := Lib.hid hap
  have HT := Lib.hid hT0
  unfold msgObj at hw0 hM0
  have c0 := cell_of hM0 0 _ rfl
  have c1 := cell_of hM0 1 _ rfl
  have c2 := cell_of hM0 2 _ rfl
  have c3 := cell_of hM0 3 _ rfl
  have c4 := cell_of hM0 4 _ rfl
  have c5 := cell_of hM0 5 _ rfl
  have c6 := cell_of hM0 6 _ rfl
  have c7 := cell_of hM0 7 _ rfl
  have c8 := cell_of hM0 8 _ rfl
  have c9 := cell_of hM0 9 _ rfl
  have r0 := cell_of hR0 0 _ rfl
  have HW := Lib.hid hw0
  rw [hw0] at c0 c1 c2 c3 c4 c5 c6 c7 c8 c9 r0
  clear hap hk hstr hT0 hR0 hM0 hm h hw0 hs
  unfold rigV msgV
  go_enter Tryz.func30, Tryz.ntmps30
  go_wp2_with fail
  rw [← HW.out]
  clear c0 c1 c2 c3 c4 c5 c6 c7 c8 c9 r0
  refine HA.out.mono ?_
  rintro e w1 ⟨rfl, hT1⟩
  have HT1 := Lib.hid (HT.out.trans' hT1)
  clear hT1
  go_wp2_with fail
  go_ret2
  exact ⟨rfl, HT1.out⟩

/-- Whatever it answers: the tape and the set are as the plain words say. -/
theorem add19_any (w : World) (q : Nat) (X : DeqX) (M : TapeM) (P : PendM) (L : LogM) (cur : Int) (late : List Int) (h : EnqAt w q X M P L cur late) (hg : Glob w) (m : MsgM) (kv : Value) (hk : KeysAt w kv m.keys) (hkF : m.keys ≠ [] → ∀ b, kv.ownBlock = some b → b ∉ X.Ft)
    (hs : Small m) (hl : M.recs.length ≤ 200000) (hcap : M.fin + 1400 ≤ X.cap) :
    Calls Tryz.prog 30 #[rigV q X, msgV m kv] w fun e w' => (∃ v, e = .returned v) ∧ EnqTo w q X (addM (M, P) m).1 (addM (M, P) m).2 L cur late w' := by
  cases hm : rightM m with
  | true =>
    have e : addM (M, P) m = (M.push m, (pendNote P (M.idOf m : Nat) m).2) := by unfold addM; rw [if_pos hm]
    rw [e]
    refine (add19_ok w q X M P L cur late h hg m kv hk hkF hm hl (by have := cost_le (M := M) hm; omega)).mono ?_
    rintro e w' ⟨rfl, h1⟩
    exact ⟨⟨_, rfl⟩, h1⟩
  | false =>
    have e : addM (M, P) m = (M, P) := by unfold addM; rw [if_neg (by rw [hm]; decide)]
    rw [e]
    refine (add19_wrong w q X M P L cur late h m kv hk hs hm).mono ?_
    rintro e w' ⟨rfl, h1⟩
    exact ⟨⟨_, rfl⟩, EnqTo.same h h1⟩

/-- Two rigs that share nothing. -/
structure Two (w w' : World) (q1 B1 t1 s1 l1 q2 B2 t2 s2 l2 cap : Nat) (X1 X2 : DeqX) (M1 : TapeM) (P1 : PendM) (L1 : LogM) (c1 : Int) (r1 : List Int) (M2 : TapeM) (P2 : PendM) (L2 : LogM) (c2 : Int) (r2 : List Int) : Prop where
  one : RigE w w' q1 B1 t1 s1 l1 cap X1 M1 P1 L1 c1 r1
  two : RigE w w' q2 B2 t2 s2 l2 cap X2 M2 P2 L2 c2 r2
  dis : ∀ b ∈ (deqParts q1 X1).flatten, b ∉ (deqParts q2 X2).flatten
  off1 : ∀ b ∈ (deqParts q1 X1).flatten, b ≠ B2
  off2 : ∀ b ∈ (deqParts q2 X2).flatten, b ≠ B1

section
variable {w w1 w2 : World} {q1 B1 t1 s1 l1 q2 B2 t2 s2 l2 cap : Nat} {X1 X2 : DeqX} {M1 M : TapeM} {P1 P : PendM} {L1 L : LogM} {c1 c : Int} {r1 r : List Int} {M2 : TapeM} {P2 : PendM} {L2 : LogM} {c2 : Int} {r2 : List Int}
theorem Two.swap (h : Two w w1 q1 B1 t1 s1 l1 q2 B2 t2 s2 l2 cap X1 X2 M1 P1 L1 c1 r1 M2 P2 L2 c2 r2) : Two w w1 q2 B2 t2 s2 l2 q1 B1 t1 s1 l1 cap X2 X1 M2 P2 L2 c2 r2 M1 P1 L1 c1 r1 :=
  ⟨h.two, h.one, fun b hb hm => h.dis b hm hb, h.off2, h.off1⟩
theorem Two.quiet (h : Two w w1 q1 B1 t1 s1 l1 q2 B2 t2 s2 l2 cap X1 X2 M1 P1 L1 c1 r1 M2 P2 L2 c2 r2) (hT : Touch [] w1 w2) : Two w w2 q1 B1 t1 s1 l1 q2 B2 t2 s2 l2 cap X1 X2 M1 P1 L1 c1 r1 M2 P2 L2 c2 r2 :=
  ⟨h.one.quiet hT, h.two.quiet hT, h.dis, h.off1, h.off2⟩
theorem Two.to (h : Two w w1 q1 B1 t1 s1 l1 q2 B2 t2 s2 l2 cap X1 X2 M1 P1 L1 c1 r1 M2 P2 L2 c2 r2) (hto : EnqTo w1 q1 X1 M P L c r w2) : ∃ X', Two w w2 q1 B1 t1 s1 l1 q2 B2 t2 s2 l2 cap X' X2 M P L c r M2 P2 L2 c2 r2 := by
  obtain ⟨X', h2, e1, e2, e3, e4, e5, hT, hg⟩ := hto
  have hlt2 : ∀ b ∈ (deqParts q2 X2).flatten, b < w1.heap.size := fun b hb => by
    obtain ⟨a, ha, hx⟩ := List.mem_flatten.1 hb
    exact h.two.at_.lt a ha b hx
  have hB2 := lt_of_heap h.two.rig
  have hB1 := lt_of_heap h.one.rig
  have hnew : ∀ b ∈ (deqParts q1 X').flatten, b ∈ (deqParts q1 X1).flatten ∨ w1.heap.size ≤ b := fun b hb => by
    obtain ⟨a, ha, hx⟩ := List.mem_flatten.1 hb
    exact hg a ha b hx
  have ho1 : ∀ b ∈ (deqParts q1 X1).flatten, w.heap.size ≤ b ∧ b ≠ B1 := fun b hb => by
    obtain ⟨a, ha, hx⟩ := List.mem_flatten.1 hb
    exact ⟨h.one.ge a ha b hx, h.one.off a ha b hx⟩
  refine ⟨X', ⟨h2, hT.heap h.one.rig (fun hm => (ho1 _ hm).2 rfl), fun a ha b hb e => ?_, h.one.touch.trans hT (fun x hx => .inr (ho1 x hx).1), fun a ha b hb => ?_, h.one.bge, e1.trans h.one.ids.1, e2.trans h.one.ids.2.1, e3.trans h.one.ids.2.2.1, e4.trans h.one.ids.2.2.2⟩,
    ⟨h.two.at_.touch hT (fun a ha b hb hm => h.dis b hm (mem_flat ha hb)), hT.heap h.two.rig (fun hm => h.off1 _ hm rfl), h.two.off, h.two.touch.trans hT (fun x hx => .inr (ho1 x hx).1), h.two.ge, h.two.bge, h.two.ids⟩, fun b hb hm => ?_, fun b hb e => ?_, h.off2⟩
  · rcases hg a ha b hb with h3 | h3
    · exact (ho1 b h3).2 e
    · omega
  · rcases hg a ha b hb with h3 | h3
    · exact (ho1 b h3).1
    · have := h.one.touch.size; omega
  · rcases hnew b hb with h3 | h3
    · exact h.dis b h3 hm
    · have := hlt2 b hm; omega
  · rcases hnew b hb with h3 | h3
    · exact h.off1 b h3 e
    · omega
theorem Two.to2 (h : Two w w1 q1 B1 t1 s1 l1 q2 B2 t2 s2 l2 cap X1 X2 M1 P1 L1 c1 r1 M2 P2 L2 c2 r2) (hto : EnqTo w1 q2 X2 M P L c r w2) : ∃ X', Two w w2 q1 B1 t1 s1 l1 q2 B2 t2 s2 l2 cap X1 X' M1 P1 L1 c1 r1 M P L c r := by
  obtain ⟨X', h'⟩ := h.swap.to hto
  exact ⟨X', h'.swap⟩
end
end Go.Proofs.YtljgifbnmgpdbaaGreatDoor

namespace Go.Proofs.YtljgifbnmgpdbaaGreatDoor
open Go Go.RowKit

theorem keys_low {w : World} {kv : Value} {ks : List ByteArray} (h : KeysAt w kv ks) (hne : ks ≠ []) : ∀ b, kv.ownBlock = some b → b < w.heap.size := by
  intro b hb
  obtain ⟨a, cp, rfl, hs⟩ := h
  match ks, hne with
  | k :: ks, _ =>
    obtain ⟨b', o, e, hc⟩ := hs 0 k rfl
    subst e
    simp [Value.ownBlock] at hb
    subst hb
    exact World.block_lt_of_cell? w _ hc

theorem RigE.based {w w0 w1 : World} {q B t s l cap : Nat} {X : DeqX} {M : TapeM} {P : PendM} {L : LogM} {cur : Int} {late : List Int} (h : RigE w0 w1 q B t s l cap X M P L cur late) (hT : Touch [] w w0) : RigE w w1 q B t s l cap X M P L cur late :=
  ⟨h.at_, h.rig, h.off, hT.trans' h.touch, fun a ha b hb => Nat.le_trans hT.size (h.ge a ha b hb), Nat.le_trans hT.size h.bge, h.ids⟩

theorem Two.made {w w1 w2 : World} {q1 B1 t1 s1 l1 q2 B2 t2 s2 l2 cap : Nat} {X1 X2 : DeqX} {M1 : TapeM} {P1 : PendM} {L1 : LogM} {c1 : Int} {r1 : List Int} {M2 : TapeM} {P2 : PendM} {L2 : LogM} {c2 : Int} {r2 : List Int}
    (h1 : RigE w w1 q1 B1 t1 s1 l1 cap X1 M1 P1 L1 c1 r1) (h2 : RigE w1 w2 q2 B2 t2 s2 l2 cap X2 M2 P2 L2 c2 r2) : Two w w2 q1 B1 t1 s1 l1 q2 B2 t2 s2 l2 cap X1 X2 M1 P1 L1 c1 r1 M2 P2 L2 c2 r2 := by
  have hlt1 : ∀ b ∈ (deqParts q1 X1).flatten, b < w1.heap.size := fun b hb => by
    obtain ⟨a, ha, hx⟩ := List.mem_flatten.1 hb
    exact h1.at_.lt a ha b hx
  have hge2 : ∀ b ∈ (deqParts q2 X2).flatten, w1.heap.size ≤ b := fun b hb => by
    obtain ⟨a, ha, hx⟩ := List.mem_flatten.1 hb
    exact h2.ge a ha b hx
  have hB1 := lt_of_heap h1.rig
  have hB2 := h2.bge
  exact ⟨h1.quiet h2.touch, h2.based h1.touch, fun b hb hm => by have := hlt1 b hb; have := hge2 b hm; omega, fun b hb e => by have := hlt1 b hb; omega, fun b hb e => by have := hge2 b hb; omega⟩

/-- What the records of a row come to. -/
def tapeOf (ms : List (MsgM × Value)) : TapeM := (addsM (ms.map (·.1))).1
def pendOf (ms : List (MsgM × Value)) : PendM := (addsM (ms.map (·.1))).2
theorem tape_snoc (ms : List (MsgM × Value)) (x : MsgM × Value) : addM (tapeOf ms, pendOf ms) x.1 = (tapeOf (ms ++ [x]), pendOf (ms ++ [x])) := by
  unfold tapeOf pendOf
  rw [List.map_append, List.map_cons, List.map_nil, adds_snoc]
theorem tape_fin (ms : List (MsgM × Value)) : (tapeOf ms).fin ≤ 1400 * ms.length ∧ (tapeOf ms).recs.length ≤ ms.length := by
  have := adds_fin (ms.map (·.1))
  simpa [tapeOf] using this

/-- One late list is handed over; both are. -/
def LateA (w w' : World) (q1 B1 t1 s1 l1 q2 B2 t2 s2 l2 cap : Nat) (X2 : DeqX) (M : TapeM) (P : PendM) (L : LogM) (c : Int) (r : List Int) (v1 : Value) : Prop :=
  ∃ X1, Two w w' q1 B1 t1 s1 l1 q2 B2 t2 s2 l2 cap X1 X2 M P L c [] M P L c r ∧ IntsAt w' v1 r ∧ ∀ b, v1.ownBlock = some b → b ∉ (deqParts q2 X2).flatten
def LateB (w w' : World) (q1 B1 t1 s1 l1 q2 B2 t2 s2 l2 cap : Nat) (M : TapeM) (P : PendM) (L : LogM) (c : Int) (r : List Int) (v1 v2 : Value) : Prop :=
  ∃ X1 X2, Two w w' q1 B1 t1 s1 l1 q2 B2 t2 s2 l2 cap X1 X2 M P L c [] M P L c [] ∧ IntsAt w' v1 r ∧ IntsAt w' v2 r
theorem two_cells {w w1 : World} {q1 B1 t1 s1 l1 q2 B2 t2 s2 l2 cap : Nat} {X1 X2 : DeqX} {M1 : TapeM} {P1 : PendM} {L1 : LogM} {c1 : Int} {r1 : List Int} {M2 : TapeM} {P2 : PendM} {L2 : LogM} {c2 : Int} {r2 : List Int}
    (h : Two w w1 q1 B1 t1 s1 l1 q2 B2 t2 s2 l2 cap X1 X2 M1 P1 L1 c1 r1 M2 P2 L2 c2 r2) : w1.cell? ⟨B1, 3, none⟩ = some (.pointer (some ⟨q1, 0, none⟩)) ∧ w1.cell? ⟨B2, 3, none⟩ = some (.pointer (some ⟨q2, 0, none⟩)) :=
  ⟨cell_of h.one.rig 3 _ rfl, cell_of h.two.rig 3 _ rfl⟩
theorem lateA_cells {w w1 : World} {q1 B1 t1 s1 l1 q2 B2 t2 s2 l2 cap : Nat} {X2 : DeqX} {M : TapeM} {P : PendM} {L : LogM} {c : Int} {r : List Int} {v1 : Value} (h : LateA w w1 q1 B1 t1 s1 l1 q2 B2 t2 s2 l2 cap X2 M P L c r v1) :
    w1.cell? ⟨B1, 3, none⟩ = some (.pointer (some ⟨q1, 0, none⟩)) ∧ w1.cell? ⟨B2, 3, none⟩ = some (.pointer (some ⟨q2, 0, none⟩)) := by
  obtain ⟨X1, h, -⟩ := h; exact two_cells h
theorem lateB_cells {w w1 : World} {q1 B1 t1 s1 l1 q2 B2 t2 s2 l2 cap : Nat} {M : TapeM} {P : PendM} {L : LogM} {c : Int} {r : List Int} {v1 v2 : Value} (h : LateB w w1 q1 B1 t1 s1 l1 q2 B2 t2 s2 l2 cap M P L c r v1 v2) :
    w1.cell? ⟨B1, 3, none⟩ = some (.pointer (some ⟨q1, 0, none⟩)) ∧ w1.cell? ⟨B2, 3, none⟩ = some (.pointer (some ⟨q2, 0, none⟩)) := by
  obtain ⟨X1, X2, h, -⟩ := h; exact two_cells h
theorem lateB_touch {w w1 : World} {q1 B1 t1 s1 l1 q2 B2 t2 s2 l2 cap : Nat} {M : TapeM} {P : PendM} {L : LogM} {c : Int} {r : List Int} {v1 v2 : Value} (h : LateB w w1 q1 B1 t1 s1 l1 q2 B2 t2 s2 l2 cap M P L c r v1 v2) : Touch [] w w1 := by
  obtain ⟨X1, X2, h, -⟩ := h; exact h.one.touch

set_option maxRecDepth 100000 in
set_option maxHeartbeats 8000000 in
theorem enqOne_ok (w : World) (hg : Glob w) (hand : Int) (h0 : 0 ≤ hand) (h1 : hand ≤ 255) (a : Option Addr) (cp : Nat) (ms : List (MsgM × Value)) (hm : MsgsAt w a ms) (hl : ms.length ≤ 9223372036854775807)
    (hz : ∀ x ∈ ms, x.1.keys.length ≤ 9223372036854775807 ∧ x.1.body.size ≤ 9223372036854775807 ∧ x.1.topic.size ≤ 9223372036854775807 ∧ x.1.tag.size ≤ 9223372036854775807) :
    Calls Tryz.prog 5 #[.int .u8 hand, .slice a ms.length cp] w fun e w' => e = .returned (.bool true) ∧ Touch [] w w' := by
  obtain ⟨N, hN⟩ : ∃ N, N = ms.length := ⟨_, rfl⟩
  have BN : (N : Int) ≤ 9223372036854775807 := by omega
  have HX := Lib.hid (And.intro hg (And.intro hm (And.intro hz hN)))
  have HH := Lib.hid (And.intro h0 h1)
  have W1 : IntKind.i64.wrap hand = hand := IntWalk.i64_in _ (by omega)
  rw [← hN]
  clear hg hm hl hz hN h0 h1
  go_enter Tryz.func5, Tryz.ntmps5
  go_wp2_with fail
  refine (awake19_ok w HX.out.1).mono ?_
  rintro e w1 ⟨rfl, hT1⟩
  have HT1 := Lib.hid hT1
  clear hT1
  by_cases g1 : (60 : Int) < N
  · have d1 : decide ((60 : Int) < N) = true := by simpa using g1
    go_wp2_with fail
    go_ret
    exact ⟨rfl, HT1.out⟩
  · have d1 : decide ((60 : Int) < N) = false := by simpa using g1
    have hgr := greats_ok w1 a cp ms (HX.out.2.1.quiet HT1.out) (by have := HX.out.2.2.2; omega) HX.out.2.2.1
    rw [← HX.out.2.2.2] at hgr
    have HGR := Lib.hid hgr
    clear hgr
    go_wp2_with fail
    refine HGR.out.mono ?_
    rintro e w2 ⟨g, rfl, hgf, hT2⟩
    have HT2 := Lib.hid (HT1.out.trans' hT2)
    cases g with
    | true =>
      clear hgf hT2
      go_wp2_with fail
      go_ret
      exact ⟨rfl, HT2.out⟩
    | false =>
      have HS := Lib.hid (hgf rfl)
      clear hgf hT2
      go_wp2_with fail
      refine (made19_ok w2 (HX.out.1.touch HT2.out (by simp)) hand HH.out.1 (by have := HH.out.2; omega)).mono ?_
      rintro e w3 ⟨q1, X1, rfl, hd, hcap, hT3, hge⟩
      have h4 := (RigE.made hd hcap hT3 hge).based HT2.out
      obtain ⟨B1, hB1⟩ : ∃ B1, B1 = w3.heap.size := ⟨_, rfl⟩
      obtain ⟨w4, hw4⟩ : ∃ w4, w4 = w3.alloc (rigObjE X1.t X1.s X1.l q1) := ⟨_, rfl⟩
      rw [← hw4, ← hB1] at h4
      unfold rigObjE at hw4
      have HW4 := Lib.hid hw4
      have HB1 := Lib.hid hB1
      have H4 := Lib.hid h4
      clear hd hcap hT3 hge hw4 hB1 h4
      unfold rigV
      go_upto_region 6 with fail
      rw [← HW4.out]
      rw [← HB1.out]
      go_wp2_with fail
      refine (made19_ok w4 (HX.out.1.touch H4.out.touch (by simp)) hand HH.out.1 (by have := HH.out.2; omega)).mono ?_
      rintro e w5 ⟨q2, X2, rfl, hd, hcap, hT5, hge⟩
      have h6 := RigE.made hd hcap hT5 hge
      obtain ⟨B2, hB2⟩ : ∃ B2, B2 = w5.heap.size := ⟨_, rfl⟩
      obtain ⟨w6, hw6⟩ : ∃ w6, w6 = w5.alloc (rigObjE X2.t X2.s X2.l q2) := ⟨_, rfl⟩
      rw [← hw6, ← hB2] at h6
      unfold rigObjE at hw6
      have HW6 := Lib.hid hw6
      have HB2 := Lib.hid hB2
      have H6 := Lib.hid (Two.made H4.out h6)
      clear hd hcap hT5 hge hw6 hB2 h6
      unfold rigV
      go_upto_region 7 with fail
      rw [← HW6.out]
      rw [← HB2.out]
      go_wp2_with fail
      go_loopg [49] N (fun k va wr => ∃ (j : Nat) (Y1 Y2 : DeqX), j + k = N ∧ va = .int .i64 j ∧ Two w wr q1 B1 X1.t X1.s X1.l q2 B2 X2.t X2.s X2.l 1048576 Y1 Y2 (tapeOf (ms.take j)) (pendOf (ms.take j)) ⟨hand, List.replicate 16 0, []⟩ 0 [] (tapeOf (ms.take j)) (pendOf (ms.take j)) ⟨hand, List.replicate 16 0, []⟩ 0 [])
      case atStart => exact ⟨0, X1, X2, by omega, by go_num, H6.out⟩
      case round =>
        obtain ⟨j, Y1, Y2, hj, rfl, h7⟩ := hrel
        by_cases hjn : j < N
        · have hjl : j < ms.length := by rw [← HX.out.2.2.2]; exact hjn
          obtain ⟨x, hx⟩ : ∃ x, x = ms[j] := ⟨_, rfl⟩
          have hxj : ms[j]? = some x := by rw [hx]; exact List.getElem?_eq_getElem hjl
          have htk : ms.take (j + 1) = ms.take j ++ [x] := by rw [List.take_succ_eq_append_getElem hjl, hx]
          have hxm : x ∈ ms := List.mem_of_getElem? hxj
          have hsn := tape_snoc (ms.take j) x
          rw [← htk] at hsn
          have hfin := tape_fin (ms.take j)
          have hlen : (ms.take j).length = j := by rw [List.length_take]; omega
          rw [hlen] at hfin
          obtain ⟨m, kv⟩ := x
          have hsm : Small m := HS.out _ hxm
          obtain ⟨hk0, -⟩ := HX.out.2.1 j _ hxj
          obtain ⟨hk, b, o, e, c0, c1, c2, c3, c4, c5, c6, c7, c8, c9⟩ := (HX.out.2.1.quiet h7.one.touch) j _ hxj
          simp only at hk hk0 c0 c1 c2 c3 c4 c5 c6 c7 c8 c9 hsn
          have hlow : m.keys ≠ [] → ∀ b, kv.ownBlock = some b → b < w.heap.size := fun hne => keys_low hk0 hne
          obtain ⟨a', cp', rfl, hs⟩ := hk
          subst e
          have hj60 : j < 60 := by omega
          obtain ⟨w8, hw8⟩ : ∃ w8, w8 = wr.alloc (msgObj m (.slice a' m.keys.length cp')) := ⟨_, rfl⟩
          have hT8 : Touch [] wr w8 := by rw [hw8]; exact (Touch.refl _ _).alloc _
          have hB8 : w8.heap[wr.heap.size]? = some (msgObj m (.slice a' m.keys.length cp')) := by rw [hw8]; exact heap_alloc_at _ _
          obtain ⟨Bm, hBm⟩ : ∃ Bm, Bm = wr.heap.size := ⟨_, rfl⟩
          rw [← hBm] at hB8
          have hltp : ∀ b ∈ (deqParts q1 Y1).flatten, b < wr.heap.size := fun b hb => by
            obtain ⟨a, ha, hx⟩ := List.mem_flatten.1 hb
            exact h7.one.at_.lt a ha b hx
          have HLT := Lib.hid hltp
          have h8 := h7.quiet hT8
          have hadd := add19_any w8 q1 Y1 _ _ _ 0 [] h8.one.at_ (HX.out.1.touch h8.one.touch (by simp)) m (.slice a' m.keys.length cp') (hk0.quiet h8.one.touch) (fun hne b hb hm => by
            have := hlow hne b hb
            have := h8.one.ge Y1.Ft (by simp [deqParts]) b hm
            omega) hsm (by omega) (by rw [h8.one.ids.2.2.2]; omega)
          rw [hsn] at hadd
          unfold rigV msgV at hadd
          rw [h8.one.ids.1, h8.one.ids.2.1, h8.one.ids.2.2.1] at hadd
          have hR1 := h8.one.rig
          unfold rigObjE at hR1
          unfold msgObj at hw8 hB8
          have HW8 := Lib.hid hw8
          have HBm := Lib.hid hBm
          have H8 := Lib.hid (And.intro h8 (And.intro hB8 (And.intro hk0 (And.intro hlow (And.intro hsm (And.intro hfin (And.intro hsn hj)))))))
          have HAD := Lib.hid hadd
          have BJ : (j : Int) < N := by omega
          clear hltp hw8 hT8 hBm h8 hadd hs hk0 hlow hsm hfin hsn hlen htk hxm hxj hx h7 hj
          go_upto_region 12 with fail
          rw [← HW8.out]
          rw [← HBm.out]
          clear c0 c1 c2 c3 c4 c5 c6 c7 c8 c9
          have x0 := cell_of hB8 0 _ rfl
          have x1 := cell_of hB8 1 _ rfl
          have x2 := cell_of hB8 2 _ rfl
          have x3 := cell_of hB8 3 _ rfl
          have x4 := cell_of hB8 4 _ rfl
          have x5 := cell_of hB8 5 _ rfl
          have x6 := cell_of hB8 6 _ rfl
          have x7 := cell_of hB8 7 _ rfl
          have x8 := cell_of hB8 8 _ rfl
          have x9 := cell_of hB8 9 _ rfl
          clear hB8
          have r0 := cell_of hR1 0 _ rfl
          have r1 := cell_of hR1 1 _ rfl
          have r2 := cell_of hR1 2 _ rfl
          have r3 := cell_of hR1 3 _ rfl
          clear hR1
          go_wp2_with fail
          refine HAD.out.mono ?_
          rintro e w9 ⟨⟨v9, rfl⟩, hto⟩
          have hTo := hto
          obtain ⟨-, -, -, -, -, -, -, hT9, -⟩ := hTo
          obtain ⟨Z1, h9⟩ := H8.out.1.to hto
          have hBmn : Bm ∉ (deqParts q1 Y1).flatten := fun hm => by
            have h1 := HLT.out Bm hm
            have h2 := HBm.out
            omega
          have hB9 := hT9.heap H8.out.2.1 hBmn
          have hadd := add19_any w9 q2 Y2 _ _ _ 0 [] h9.two.at_ (HX.out.1.touch h9.two.touch (by simp)) m (.slice a' m.keys.length cp') (H8.out.2.2.1.quiet h9.two.touch) (fun hne b hb hm => by
            have := H8.out.2.2.2.1 hne b hb
            have := h9.two.ge Y2.Ft (by simp [deqParts]) b hm
            omega) H8.out.2.2.2.2.1 (by have := H8.out.2.2.2.2.2.1; omega) (by have := H8.out.2.2.2.2.2.1; rw [h9.two.ids.2.2.2]; omega)
          rw [H8.out.2.2.2.2.2.2.1] at hadd
          unfold rigV msgV at hadd
          rw [h9.two.ids.1, h9.two.ids.2.1, h9.two.ids.2.2.1] at hadd
          have hR2 := h9.two.rig
          unfold rigObjE at hR2
          have HAD2 := Lib.hid hadd
          have H9 := Lib.hid h9
          clear hBmn hto hT9 hadd h9 x0 x1 x2 x3 x4 x5 x6 x7 x8 x9 r0 r1 r2 r3
          have x0 := cell_of hB9 0 _ rfl
          have x1 := cell_of hB9 1 _ rfl
          have x2 := cell_of hB9 2 _ rfl
          have x3 := cell_of hB9 3 _ rfl
          have x4 := cell_of hB9 4 _ rfl
          have x5 := cell_of hB9 5 _ rfl
          have x6 := cell_of hB9 6 _ rfl
          have x7 := cell_of hB9 7 _ rfl
          have x8 := cell_of hB9 8 _ rfl
          have x9 := cell_of hB9 9 _ rfl
          clear hB9
          have r0 := cell_of hR2 0 _ rfl
          have r1 := cell_of hR2 1 _ rfl
          have r2 := cell_of hR2 2 _ rfl
          have r3 := cell_of hR2 3 _ rfl
          clear hR2
          go_wp2_with fail
          refine HAD2.out.mono ?_
          rintro e w10 ⟨⟨v10, rfl⟩, hto⟩
          obtain ⟨Z2, h10⟩ := H9.out.to2 hto
          have H10 := Lib.hid h10
          clear hto h10 x0 x1 x2 x3 x4 x5 x6 x7 x8 x9 r0 r1 r2 r3
          go_wp2_with fail
          go_roundg (N - (j + 1))
          case measure => have := H8.out.2.2.2.2.2.2.2; omega
          case rel => exact ⟨j + 1, Z1, Z2, by have := H8.out.2.2.2.2.2.2.2; omega, by go_num, H10.out⟩
        · have hjN : j = N := by omega
          have hd : decide ((j : Int) < N) = false := by simp; omega
          have htk : ms.take j = ms := List.take_of_length_le (by rw [← HX.out.2.2.2]; omega)
          rw [htk] at h7
          have hrec : (tapeOf ms).recs.length ≤ 60 := by
            have h1 := (tape_fin ms).2
            have h2 := HX.out.2.2.2
            omega
          obtain ⟨M, hM⟩ : ∃ M, M = tapeOf ms := ⟨_, rfl⟩
          obtain ⟨P, hP⟩ : ∃ P, P = pendOf ms := ⟨_, rfl⟩
          rw [← hM, ← hP] at h7
          rw [← hM] at hrec
          have hsy := enqsync_ok wr q1 Y1 M P _ 0 [] h7.one.at_ (HX.out.1.touch h7.one.touch (by simp)) (by omega)
          rw [h7.one.ids.1] at hsy
          have hR1 := h7.one.rig
          unfold rigObjE at hR1
          have HSY := Lib.hid hsy
          have H7 := Lib.hid (And.intro h7 hrec)
          clear hM hP htk hj hsy h7 hrec
          have r0 := cell_of hR1 0 _ rfl
          clear hR1
          go_wp2_with fail
          refine HSY.out.mono ?_
          rintro e w8 ⟨rfl, hto⟩
          obtain ⟨Z1, h8⟩ := H7.out.1.to hto
          have hsy := enqsync_ok w8 q2 Y2 M P _ 0 [] h8.two.at_ (HX.out.1.touch h8.two.touch (by simp)) (by have := H7.out.2; omega)
          rw [h8.two.ids.1] at hsy
          have hR2 := h8.two.rig
          unfold rigObjE at hR2
          have HSY := Lib.hid hsy
          have H8 := Lib.hid h8
          clear hto hsy h8 r0
          have r0 := cell_of hR2 0 _ rfl
          clear hR2
          go_wp2_with fail
          refine HSY.out.mono ?_
          rintro e w9 ⟨rfl, hto⟩
          obtain ⟨Z2, h9⟩ := H8.out.to2 hto
          obtain ⟨S, hS⟩ : ∃ S, S = M.syncd.sched (M.syncd.place 0) := ⟨_, rfl⟩
          have hSl : S.length ≤ 60 := by
            rw [hS]; unfold TapeM.sched
            have h1 := List.length_filter_le (fun p : Nat × MsgM => decide (p.1 < M.syncd.synced) && decide (p.2.kind = 2)) (M.syncd.recs.drop (M.syncd.place 0))
            have h2 : (M.syncd.recs.drop (M.syncd.place 0)).length ≤ M.syncd.recs.length := by rw [List.length_drop]; omega
            have h3 : M.syncd.recs.length ≤ 60 := H7.out.2
            omega
          obtain ⟨L0, hL0⟩ : ∃ L0 : LogM, L0 = ⟨hand, List.replicate 16 0, []⟩ := ⟨_, rfl⟩
          have hL0m : L0.marks.length = 0 := by rw [hL0]; rfl
          rw [← hL0] at h9
          have hall := enqall_ok w9 q1 Z1 M.syncd P L0 0 [] h9.one.at_ (HX.out.1.touch h9.one.touch (by simp)) (by have := H7.out.2; show M.recs.length ≤ _; omega) S hS.symm (by simp; omega) (by omega)
          have hR1 := h9.one.rig
          unfold rigObjE at hR1
          have HAL := Lib.hid hall
          have H9 := Lib.hid (And.intro h9 (And.intro hS (And.intro hSl hL0m)))
          obtain ⟨K, hK⟩ : ∃ K, K = S.length := ⟨_, rfl⟩
          have BK : (K : Int) ≤ 60 := by omega
          rw [← hK] at HAL
          have HK := Lib.hid hK
          clear hto hall h9 hS hSl hL0m hL0 r0 hK
          have r3 := cell_of hR1 3 _ rfl
          clear hR1
          go_wp2_with fail
          refine HAL.out.mono ?_
          rintro e w10 ⟨rfl, hto⟩
          obtain ⟨U1, h10⟩ := H9.out.1.to hto
          obtain ⟨F, hF⟩ : ∃ F, F = runM P S (L0, []) := ⟨_, rfl⟩
          obtain ⟨cF, hcF⟩ : ∃ c, c = curM S 0 := ⟨_, rfl⟩
          rw [← hF, ← hcF] at h10
          have H10 := Lib.hid (And.intro h10 (And.intro hF hcF))
          clear hto h10 hF hcF r3
          go_wp2_with fail
          go_loopg [13] (K + 1) (fun k s13 wr => ∃ (j : Nat) (S' : List (Nat × MsgM)) (L' : LogM) (late' : List Int) (cur' : Int) (U2 : DeqX), s13 = .int .i64 j ∧ j + S'.length = K ∧ S'.length + 1 ≤ k ∧
            Two w wr q1 B1 X1.t X1.s X1.l q2 B2 X2.t X2.s X2.l 1048576 U1 U2 M.syncd P F.1 cF F.2 M.syncd P L' cur' late' ∧ M.syncd.sched (M.syncd.place cur') = S' ∧ runM P S' (L', late') = F ∧ curM S' cur' = cF ∧ late'.length + S'.length ≤ 1000000 ∧ L'.marks.length + S'.length ≤ 100000)
          case atStart => exact ⟨0, S, L0, [], 0, Z2, by go_num, by rw [HK.out]; omega, by rw [HK.out]; omega, H10.out.1, H9.out.2.1.symm, H10.out.2.1.symm, H10.out.2.2.symm, by have := H9.out.2.2.1; simp; omega, by have := H9.out.2.2.1; have := H9.out.2.2.2; omega⟩
          case round =>
            obtain ⟨j, S', L', late', cur', U2, rfl, hj, hk, h11, hS', hrun, hcur, hll, hmm⟩ := hrel
            have hgr := HX.out.1.touch h11.two.touch (by simp)
            have hR2 := h11.two.rig
            unfold rigObjE at hR2
            have r3 := cell_of hR2 3 _ rfl
            clear hR2
            cases S' with
            | nil =>
              have hst := enqstep_end wr q2 U2 M.syncd P L' cur' late' h11.two.at_ hgr (by have := H7.out.2; show M.recs.length ≤ _; omega) hS'
              have hF1 : F = (L', late') := hrun.symm
              have hc1 : cF = cur' := hcur.symm
              have hjK : j = K := by simpa using hj
              have HST := Lib.hid hst
              rw [hF1, hc1] at h11
              have hln : late'.length ≤ 1000000 := by simpa using hll
              have H11 := Lib.hid (And.intro h11 (And.intro hjK hmm))
              clear hst hF1 hc1 h11 hS' hrun hcur hll hmm hj hk hgr
              go_wp2_with fail
              refine HST.out.mono ?_
              rintro e w12 ⟨rfl, hT12⟩
              have h12 := H11.out.1.quiet hT12
              have hwb : ∀ {U : DeqX}, U.ql + L'.waits ≤ 3 + 3 * L'.marks.length → L'.waits ≤ 100000000 := fun h => by
                have := H11.out.2.2
                simp at this
                omega
              have hmk : L'.marks.length ≤ 1000000 := by
                have := H11.out.2.2
                simp at this
                omega
              have hwa := waits_ok w12 _ _ _ _ _ h12.one.at_.log hmk (hwb (U := U1) h12.one.at_.pot)
              rw [h12.one.ids.2.2.1] at hwa
              have hR1 := h12.one.rig
              unfold rigObjE at hR1
              have HWA := Lib.hid hwa
              have H12 := Lib.hid (And.intro h12 (And.intro hmk (hwb (U := U1) h12.one.at_.pot)))
              clear r3 hT12 h12 hwb hmk hwa
              have r2 := cell_of hR1 2 _ rfl
              clear hR1
              obtain ⟨nw, hnw⟩ : ∃ nw, nw = L'.waits := ⟨_, rfl⟩
              rw [← hnw] at HWA
              have HNW := Lib.hid hnw
              clear hnw
              go_wp2_with fail
              refine HWA.out.mono ?_
              rintro e w13 ⟨rfl, hT13⟩
              have h13 := H12.out.1.quiet hT13
              have hwa := waits_ok w13 _ _ _ _ _ h13.two.at_.log H12.out.2.1 H12.out.2.2
              rw [h13.two.ids.2.2.1, ← HNW.out] at hwa
              have hR2 := h13.two.rig
              unfold rigObjE at hR2
              have HWA := Lib.hid hwa
              have H13 := Lib.hid h13
              clear r2 hT13 h13 hwa
              have r2 := cell_of hR2 2 _ rfl
              clear hR2
              go_wp2_with fail
              refine HWA.out.mono ?_
              rintro e w14 ⟨rfl, hT14⟩
              have h14 := H13.out.quiet hT14
              have H14 := Lib.hid h14
              clear r2 hT14 h14
              go_upto_region 26 with fail
              obtain ⟨a1, cp1, hsv1⟩ := H14.out.one.at_.row.form
              obtain ⟨a2, cp2, hsv2⟩ := H14.out.two.at_.row.form
              obtain ⟨n1, hn1⟩ : ∃ n, n = late'.length := ⟨_, rfl⟩
              rw [← hn1] at hsv1 hsv2
              have hb1 : ∀ b, U1.sv.ownBlock = some b → b ∈ (deqParts q1 U1).flatten := fun b hb => mem_flat (a := U1.sv.ownBlock.toList) (by simp [deqParts]) (by simpa using hb)
              obtain ⟨v1, hv1⟩ : ∃ v, v = Value.slice a1 n1 cp1 := ⟨_, rfl⟩
              obtain ⟨v2, hv2⟩ : ∃ v, v = Value.slice a2 n1 cp2 := ⟨_, rfl⟩
              have hA : ∀ W, Touch [] w14 W → Calls Tryz.prog 35 #[.pointer (some ⟨q1, 0, none⟩)] W fun e w' => e = .returned (.slice a1 n1 cp1) ∧ LateA w w' q1 B1 X1.t X1.s X1.l q2 B2 X2.t X2.s X2.l 1048576 U2 M.syncd P L' cur' late' (.slice a1 n1 cp1) := by
                intro W hT
                have h14 := H14.out.quiet hT
                refine (enqlate_ok W q1 U1 _ _ _ _ _ h14.one.at_).mono ?_
                rintro e w' ⟨rfl, hv, hto, -⟩
                obtain ⟨V1, h15⟩ := h14.to hto
                exact ⟨by rw [hsv1], V1, h15, by rw [← hsv1]; exact hv, fun b hb hm => h14.dis b (hb1 b (by rw [hsv1]; exact hb)) hm⟩
              have hB : ∀ W, LateA w W q1 B1 X1.t X1.s X1.l q2 B2 X2.t X2.s X2.l 1048576 U2 M.syncd P L' cur' late' (.slice a1 n1 cp1) → Calls Tryz.prog 35 #[.pointer (some ⟨q2, 0, none⟩)] W fun e w' => e = .returned (.slice a2 n1 cp2) ∧ LateB w w' q1 B1 X1.t X1.s X1.l q2 B2 X2.t X2.s X2.l 1048576 M.syncd P L' cur' late' (.slice a1 n1 cp1) (.slice a2 n1 cp2) := by
                rintro W ⟨V1, h15, hv1, hd⟩
                refine (enqlate_ok W q2 U2 _ _ _ _ _ h15.two.at_).mono ?_
                rintro e w' ⟨rfl, hv, hto, -⟩
                have hTo := hto
                obtain ⟨-, -, -, -, -, -, -, hT, -⟩ := hTo
                obtain ⟨V2, h16⟩ := h15.to2 hto
                exact ⟨by rw [hsv2], V1, V2, h16, hv1.touch hT hd, by rw [← hsv2]; exact hv⟩
              have hC : ∀ W, LateB w W q1 B1 X1.t X1.s X1.l q2 B2 X2.t X2.s X2.l 1048576 M.syncd P L' cur' late' (.slice a1 n1 cp1) (.slice a2 n1 cp2) → Calls Tryz.prog 34 #[.slice a1 n1 cp1, .slice a2 n1 cp2] W fun e w' => e = .returned (.bool true) ∧ LateB w w' q1 B1 X1.t X1.s X1.l q2 B2 X2.t X2.s X2.l 1048576 M.syncd P L' cur' late' (.slice a1 n1 cp1) (.slice a2 n1 cp2) := by
                rintro W ⟨V1, V2, h16, h1, h2⟩
                refine (refints_ok W _ _ late' h1 h2 (by have := H14.out.one.at_.row; have := hln; omega)).mono ?_
                rintro e w' ⟨rfl, hT⟩
                exact ⟨rfl, V1, V2, h16.quiet hT, h1.touch hT (by simp), h2.touch hT (by simp)⟩
              have hD : ∀ W, LateB w W q1 B1 X1.t X1.s X1.l q2 B2 X2.t X2.s X2.l 1048576 M.syncd P L' cur' late' (.slice a1 n1 cp1) (.slice a2 n1 cp2) → Calls Tryz.prog 36 #[.pointer (some ⟨q1, 0, none⟩)] W fun e w' => e = .returned (.int .i64 cur') ∧ LateB w w' q1 B1 X1.t X1.s X1.l q2 B2 X2.t X2.s X2.l 1048576 M.syncd P L' cur' late' (.slice a1 n1 cp1) (.slice a2 n1 cp2) := by
                rintro W ⟨V1, V2, h16, h1, h2⟩
                refine (enqcur_ok W q1 V1 _ _ _ _ _ h16.one.at_).mono ?_
                rintro e w' ⟨rfl, rfl⟩
                exact ⟨rfl, V1, V2, h16, h1, h2⟩
              have hE : ∀ W, LateB w W q1 B1 X1.t X1.s X1.l q2 B2 X2.t X2.s X2.l 1048576 M.syncd P L' cur' late' (.slice a1 n1 cp1) (.slice a2 n1 cp2) → Calls Tryz.prog 36 #[.pointer (some ⟨q2, 0, none⟩)] W fun e w' => e = .returned (.int .i64 cur') ∧ LateB w w' q1 B1 X1.t X1.s X1.l q2 B2 X2.t X2.s X2.l 1048576 M.syncd P L' cur' late' (.slice a1 n1 cp1) (.slice a2 n1 cp2) := by
                rintro W ⟨V1, V2, h16, h1, h2⟩
                refine (enqcur_ok W q2 V2 _ _ _ _ _ h16.two.at_).mono ?_
                rintro e w' ⟨rfl, rfl⟩
                exact ⟨rfl, V1, V2, h16, h1, h2⟩
              have T14 : Touch [] w14 w14.drew := (Touch.refl _ _).drew
              have K14 := two_cells (H14.out.quiet T14)
              have HA := Lib.hid hA
              have HBB := Lib.hid hB
              have HC := Lib.hid hC
              have HD := Lib.hid hD
              have HE := Lib.hid hE
              have e1 : ((K : Int) == (j : Int)) = true := by have := H11.out.2.1; simp; omega
              have e2 : decide ((K : Int) = (j : Int)) = true := by have := H11.out.2.1; simp; omega
              clear hA hB hC hD hE hsv1 hsv2 hb1 hn1 hv1 hv2
              go_region_held3 (fun w' => w'.cell? ⟨B1, 3, none⟩ = some (.pointer (some ⟨q1, 0, none⟩)) ∧ w'.cell? ⟨B2, 3, none⟩ = some (.pointer (some ⟨q2, 0, none⟩)))
                (first | with_reducible exact K14 | with_reducible exact K15 | with_reducible exact K16 | with_reducible exact K17 | with_reducible exact K18 | with_reducible exact K19)
                (first
                  | (go_at_call_of 35 q1; refine (HA.out _ T14).mono ?_; rintro e w15 ⟨rfl, SA⟩; have K15 := lateA_cells SA)
                  | (go_at_call_of 35 q2; refine (HBB.out _ SA).mono ?_; rintro e w16 ⟨rfl, SB⟩; have K16 := lateB_cells SB)
                  | (go_at_call 34; refine (HC.out _ SB).mono ?_; rintro e w17 ⟨rfl, SC⟩; have K17 := lateB_cells SC)
                  | (go_at_call_of 36 q1; refine (HD.out _ SC).mono ?_; rintro e w18 ⟨rfl, SD⟩; have K18 := lateB_cells SD)
                  | (go_at_call_of 36 q2; refine (HE.out _ SD).mono ?_; rintro e w19 ⟨rfl, SE⟩; have K19 := lateB_cells SE))
              have HF := Lib.hid (lateB_touch SE)
              clear SA SB SC SD SE K14 K15 K16 K17 K18 K19
              go_wp2_with fail
              go_ret
              exact ⟨rfl, HF.out⟩
            | cons p S' =>
              obtain ⟨id, m⟩ := p
              have hst := enqstep_go wr q2 U2 M.syncd P L' cur' late' h11.two.at_ hgr (by have := H7.out.2; show M.recs.length ≤ _; omega) id m S' hS' (by simp at hll; omega) (by simp at hmm; omega)
              have hS2 := sched_next h11.two.at_.tape.stand hS'
              have hlen := look_len P L' late' (id, m)
              have HST := Lib.hid hst
              have H11 := Lib.hid (And.intro h11 (And.intro hrun (And.intro hcur (And.intro hj (And.intro hS2 (And.intro hlen (And.intro hll (And.intro hmm hk))))))))
              have Bj : (j : Int) + 1 ≤ 60 := by simp at hj; omega
              clear hst h11 hrun hcur hj hS2 hlen hll hmm hk hS' hgr
              go_wp2_with fail
              refine HST.out.mono ?_
              rintro e w12 ⟨rfl, hto⟩
              obtain ⟨U3, h12⟩ := H11.out.1.to2 hto
              have H12 := Lib.hid h12
              clear hto h12 r3
              go_wp2_with fail
              go_roundg (S'.length + 1)
              case measure => have := H11.out.2.2.2.2.2.2.2.2; simp at this; omega
              case rel =>
                obtain ⟨-, hrun, hcur, hj, hS2, hlen, hll, hmm, hk⟩ := H11.out
                simp only [List.length_cons] at hj hll hmm
                exact ⟨j + 1, S', (lookM P (L', late') (id, m)).1, (lookM P (L', late') (id, m)).2, _, U3, by go_num, by omega, Nat.le_refl _, H12.out, hS2, hrun, hcur, by have := hlen.1; omega, by have := hlen.2; omega⟩
end Go.Proofs.YtljgifbnmgpdbaaGreatDoor

namespace Go.Proofs.YtljgifbnmgpdbaaGreatDoor.enqOne
open Go.ChangeShapes Go.WideShapes Go.ChangeAt Go.RowKit

set_option maxRecDepth 100000 in
set_option maxHeartbeats 1000000 in
theorem contract (H : Type) (enc : TypeId × Value → H) (W : World) (base : Nat) (args : Array Value) (ds gs : List (DataW H)) (before : List MemPlace)
    (hval : ∀ (j : Nat) t v, Tryz.f5.params[j]? = some t → args[j]? = some v → Value.okWide Tryz.prog W .any base t v)
    (hW : DataW.Whole enc Tryz.prog Tryz.f5.params.toList Rows.enqOneSpec.vars false W args.toList ds gs before) (hL : laidMetH Tryz.prog Rows.enqOneRow.laid W) (hsh : W.ShapedOpen Tryz.prog) :
    Calls Tryz.prog 5 args W fun e W' => ∃ v, e = .returned v ∧ Rows.enqOneSpec.post enc Tryz.prog Tryz.f5 false true false false W args v W' := by
  have hW' := hW
  obtain ⟨p, q, hA0, hV, rfl, hfz, hnd⟩ := hW
  have hA : DataW.TrodAll enc Tryz.prog W 0 (fun _ => true) true Tryz.f5.params.toList args.toList ds p := hA0
  rw [Tryz.params5] at hA hval
  obtain ⟨v0, vs0, d0, ds0, p0, q0, hargs, rfl, rfl, h0, r0⟩ := trodAll_cons hA
  obtain ⟨v1, vs1, d1, ds1, p1, q1, hargs1, rfl, rfl, h1, r1⟩ := trodAll_cons r0
  obtain ⟨rfl, rfl, rfl⟩ := trodAll_nil r1
  obtain rfl : vs0 = [v1] := by rw [hargs1]
  obtain rfl : args = #[v0, v1] := by cases args; simp_all
  have hlt : ∀ x ∈ p0 ++ (p1 ++ []), x.block < W.heap.size := fun x hx => by simpa using hW'.lt x (List.mem_append_left _ hx)
  obtain ⟨rfl, rfl⟩ := trodVars_none hV
  have walk : Calls Tryz.prog 5 #[v0, v1] W fun e w' => e = .returned (.bool true) ∧ Touch [] W w' := by
    obtain ⟨hand, rfl, -, -, wh⟩ := open_int Tryz.underlying5 (hval 0 5 v0 rfl rfl) h0
    have hb : 0 ≤ hand ∧ hand ≤ 255 := by simpa [Lit.wf, IntKind.min, IntKind.max, IntKind.signed, IntKind.bits] using wh
    obtain ⟨a1, n1, c1, rfl⟩ := okWide_slice Tryz.underlying41 (hval 1 41 v1 rfl rfl)
    obtain ⟨fuel1, hf1⟩ := h1
    obtain ⟨a, cp, ms, e, hm, hl, hz⟩ := msgs_read (c := .slice a1 n1 c1) hf1
    rw [e]
    exact enqOne_ok W (glob_of hsh hL) hand hb.1 hb.2 a cp ms hm hl hz
  refine walk.mono fun e W' ⟨he, hT⟩ => ?_
  subst he
  have hB := hT.below
  refine ⟨_, rfl, _, _, _, [], p0 ++ (p1 ++ []), [], hW', ?_, ?_, ?_, hB.frame _, fun h => by cases h⟩
  · exact trodAll_cons_mk (shut_bool Tryz.underlying4 _) trodAll_mk0
  · exact trodAll_cons_mk (Below.trod laidOut (by kernel_rfl) (of_decide_eq_true (by kernel_rfl)) h0 hB (fun x hx => hlt x (by simp [hx]))) (trodAll_cons_mk (Below.trod laidOut (by kernel_rfl) (of_decide_eq_true (by kernel_rfl)) h1 hB (fun x hx => hlt x (by simp [hx]))) trodAll_mk0)
  · rfl
theorem reads (os : Os) {H : Type} (enc : TypeId × Value → H) : ∃ places, DataW.whole enc Tryz.prog ((laidWorld os).forCall (fun _ _ => 0) ⟨#[], #[.int .u8 0, .slice none 0 0], []⟩).memory Tryz.f5.params.toList Rows.enqOneSpec.vars false (#[.int .u8 0, .slice none 0 0] : Array Value).toList 16 = some ([.lit (.int .u8 0), .nil], [], places) :=
    ⟨[], by kernel_rfl⟩
  theorem shaped (os : Os) : ((laidWorld os).forCall (fun _ _ => 0) ⟨#[], #[.int .u8 0, .slice none 0 0], []⟩).Shaped Tryz.checked.prog := World.shaped_of_ZipB (by kernel_rfl) (by kernel_rfl)
  
  set_option maxRecDepth 100000 in
  theorem lifted (os : Os) (started : os.Started) (H : Type) (enc : TypeId × Value → H) (F : Stop.Interp) :
      ReturnsInHanded {} Tryz.checked os 5 .any ((OpenSpec.ofChange Rows.enqOneSpec).preRow enc Tryz.prog Tryz.f5 Rows.enqOneRow.domain false Rows.enqOneRow.laid) (((OpenSpec.ofChange Rows.enqOneSpec).at F).post enc Tryz.prog Tryz.f5 false true false false) := by
    obtain ⟨places, hx⟩ := reads os enc
    refine returnsInHanded_of_row (C := Tryz.checked) (s := OpenSpec.ofChange Rows.enqOneSpec) own started (by kernel_rfl) Tryz.func5
      (witness_laid (enc := enc) (C := Tryz.checked) (laidWorld os) #[.int .u8 0, .slice none 0 0] (World.laidAll_os _ _ _) (shaped os) (by kernel_rfl)
        (OpenSpec.preRow_of_cond 16 hx rfl (fun k hk => by cases hk) (by kernel_rfl) (laid_met os _))) ?_
    intro W base args ds gs before hval hW _ _ _ hL hsh _
    exact contract H enc W base args ds gs before hval hW hL hsh
  
  theorem hunf : Tryz.prog.unfollowed 5 = true := by kernel_rfl
  theorem hplace : (Rows.enqOneRow.inPlace == Tryz.prog.inPlace 5) = true := by kernel_rfl
  theorem hnamed : (Rows.enqOneRow.named == Tryz.prog.varsNamed 5) = true := by kernel_rfl
  theorem hrec : Tryz.prog.recurses 5 = true := by unfold Program.recurses; rw [hunf]; rfl
  theorem closed : joinedFacts Tryz.prog 5 Tryz.f5 Rows.enqOneSpec Rows.enqOneRow = true := by
    unfold joinedFacts
    rw [hplace, hnamed, hunf, hrec]
    kernel_rfl
  
  set_option maxRecDepth 100000 in
  theorem said : Rows.EnqOneSaid :=
    OpenClaim.holds_of_cond 5 Tryz.f5 rfl rfl rfl rfl rfl rfl rfl ⟨rfl, rfl, rfl, rfl, rfl⟩ rfl rfl rfl rfl rfl (by kernel_rfl) Tryz.func5 closed
      (of_decide_eq_true (by kernel_rfl)) (by unfold Func.isWrapper; first | (rw [if_pos (by decide +kernel)]; kernel_rfl) | (rw [if_neg (by decide +kernel)]; exact ⟨rfl, rfl⟩))
      (fun os started H enc _ F => by rw [OpenClaim.pre_eq_preRow]; exact lifted os started H enc F)
  
  theorem plain (f : FuncId) (fn : Func) (hf : Tryz.pinned.checked.prog.funcNamed "reveille/reveillelaw19.EnqOne" = some f) (hfn : Tryz.pinned.checked.prog.funcs[f]? = some fn) :
      true = Tryz.pinned.checked.prog.looks [] ∧ ∀ (j : Nat) t, fn.params[j]? = some t → Tryz.pinned.checked.prog.wantsStandIn t = false := by
    obtain rfl : f = 5 := Option.some.inj ((show Tryz.prog.funcNamed "reveille/reveillelaw19.EnqOne" = some 5 by kernel_rfl).symm.trans hf) |>.symm
    obtain rfl : fn = Tryz.f5 := (Option.some.inj (Tryz.func5.symm.trans hfn)).symm
    refine ⟨by kernel_rfl, fun j t ht => ?_⟩
    rw [Tryz.params5] at ht
    have hm : t ∈ [5, 41] := by simpa using Array.mem_of_getElem? ht
    have hall : ([5, 41].all fun u => !Tryz.prog.wantsStandIn u) = true := by kernel_rfl
    exact (show Tryz.prog.wantsStandIn t = false by simpa using List.all_eq_true.1 hall t hm)
  
  set_option maxRecDepth 100000 in
  theorem card : Rows.EnqOneCardSaid :=
    Claim7.holds_tied_plain_at .later [] _ _ _ _ said (fun _ h => by cases h) (by kernel_rfl) (fun _ h => by cases h) enqOne_row_tie rfl ⟨rfl, rfl⟩ (by kernel_rfl) rfl plain (goes_of _ rfl)
  #print axioms card
end Go.Proofs.YtljgifbnmgpdbaaGreatDoor.enqOne
