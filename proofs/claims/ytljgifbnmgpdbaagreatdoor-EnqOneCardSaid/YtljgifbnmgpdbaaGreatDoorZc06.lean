/- Layer 6 (rec): numbers that may be; texts that are unlike. (Here too: Layer 2 (crc): first, New: some table of words. Layer 2 (crc): one, four, Sum. Layer 2 (crc): Seal, Open. Layer 3 (name): signs, plain names, groups. Layer 3 (name): groups of topics, topics, tags. Layer 3 (name): keys, all of them, texts' numbers. Layer 6 (rec): records as the laws speak of them; when a record may be; its bytes. Plain; no walk. A loop over slices.Values, collected and sorted: an iterator that reads cells which its caller's rounds leave alone. Turned from the shelf's own proofs on slices.Sorted.) -/
import Derived.Test.YtljgifbnmgpdbaaGreatDoorZc05
import Derived.OwnWalkIn
import Derived.TacticsInMore
import Derived.LoopNIn
import Derived.LoopIn
import Derived.Shelf.Abstract
import Derived.Shelf.RegionOpen
import Derived.Maps.AppendAt
import Derived.Maps.OwnIn
set_option linter.unusedSimpArgs false
set_option linter.unusedVariables false
set_option linter.unnecessarySimpa false
namespace Go.Proofs.YtljgifbnmgpdbaaGreatDoor
open Go Go.RowKit

/-- A word. -/
def Word (v : Int) : Prop := 0 ≤ v ∧ v < 4294967296
theorem word_bits (op : BinOp) (a b : Int) : Word (bits op .u32 a b) := by
  have key : ∀ n : Int, Word (IntKind.u32.wrap n) := fun n => by
    rw [IntKind.wrap_u32]; exact ⟨by omega, by omega⟩
  unfold bits
  cases op <;> simp only <;> first | exact key _ | exact ⟨by decide, by decide⟩
theorem word_div {v : Int} (h : Word v) {k : Int} (hk : 0 < k) : Word (v / k) := ⟨Int.ediv_nonneg h.1 (by omega), by
  have := Int.ediv_le_self k h.1
  have := h.2
  omega⟩

set_option maxRecDepth 100000 in
set_option maxHeartbeats 1000000 in
theorem first_ok (w : World) (b : Int) (hb : Word b) : Calls Tryz.prog 168 #[.int .u32 b] w fun e w' => (∃ v, Word v ∧ e = .returned (.int .u32 v)) ∧ w = w' := by
  have HB := Lib.hid hb
  clear hb
  go_enter Tryz.func168, Tryz.ntmps168
  go_wp2_with fail
  go_loopg [0, 4] 8 (fun k vx vi wr => ∃ (j : Nat) (v : Int), j + k = 8 ∧ vi = .int .i64 j ∧ vx = .int .u32 v ∧ Word v ∧ w = wr)
  case atStart => exact ⟨0, b, by omega, by go_num, rfl, HB.out, rfl⟩
  case round =>
    obtain ⟨j, v, hj, rfl, rfl, hv, rfl⟩ := hrel
    have HJ := Lib.hid (And.intro hj hv)
    have BJ : (j : Int) ≤ 8 := by omega
    have V0 : 0 ≤ v := hv.1
    have V1 : v < 4294967296 := hv.2
    by_cases hlt : j < 8
    · have HV := Lib.hid (word_div hv (k := 2) (by omega))
      clear hj hv
      by_cases ho : bits .and .u32 v 1 = 1
      · have hd : (bits .and .u32 v 1 == 1) = true := by simpa using ho
        have HO := Lib.hid ho
        clear ho
        go_wp2_with fail
        go_roundg (8 - (j + 1))
        case measure => have := HJ.out.1; omega
        case rel => exact ⟨j + 1, _, by have := HJ.out.1; omega, by go_num, rfl, word_bits _ _ _, rfl⟩
      · have hd : (bits .and .u32 v 1 == 1) = false := by simpa using ho
        have HO := Lib.hid ho
        clear ho
        go_wp2_with fail
        go_roundg (8 - (j + 1))
        case measure => have := HJ.out.1; omega
        case rel => exact ⟨j + 1, _, by have := HJ.out.1; omega, by go_num, rfl, HV.out, rfl⟩
    · have hd : decide ((j : Int) < 8) = false := by simp; omega
      clear hj hv
      go_wp2_with fail
      go_ret
      exact ⟨⟨v, HJ.out.2, rfl⟩, rfl⟩

/-- A block holds a table of words: T is what they are. -/
def TabAt (w : World) (t : Nat) (T : Nat → Int) : Prop := ∃ c, w.heap[t]? = some (.cells c 256 (0, 0)) ∧ c.size = 1024 ∧ ∀ i < 1024, c[i]? = some (.int .u32 (T i)) ∧ Word (T i)

theorem TabAt.touch {w w' : World} {t : Nat} {T : Nat → Int} {F : List Nat} (h : TabAt w t T) (hT : Touch F w w') (hF : t ∉ F) : TabAt w' t T := by
  obtain ⟨c, h1, h2⟩ := h; exact ⟨c, hT.heap h1 hF, h2⟩
theorem TabAt.lt {w : World} {t : Nat} {T : Nat → Int} (h : TabAt w t T) : t < w.heap.size := by
  obtain ⟨c, h1, h2⟩ := h; exact lt_of_heap h1
theorem TabAt.cell {w : World} {t : Nat} {T : Nat → Int} (h : TabAt w t T) (i : Nat) (hi : i < 1024) : w.cell? ⟨t, i, none⟩ = some (.int .u32 (T i)) := by
  obtain ⟨c, h1, h2, h3⟩ := h; exact cell_of h1 i _ (h3 i hi).1
theorem TabAt.free {w : World} {t : Nat} {T : Nat → Int} (h : TabAt w t T) (i : Nat) : w.frozen? ⟨t, i, none⟩ = false := by
  obtain ⟨c, h1, h2, h3⟩ := h; exact free_of h1 i
theorem TabAt.word {w : World} {t : Nat} {T : Nat → Int} (h : TabAt w t T) (i : Nat) (hi : i < 1024) : Word (T i) := by
  obtain ⟨c, h1, h2, h3⟩ := h; exact (h3 i hi).2
theorem TabAt.set {w : World} {t : Nat} {T : Nat → Int} (h : TabAt w t T) (i : Nat) (v : Int) (hv : Word v) : TabAt (w.setCell ⟨t, i, none⟩ (.int .u32 v)) t (fun j => if j = i then v else T j) := by
  obtain ⟨c, h1, h2, h3⟩ := h
  refine ⟨_, heap_setCell_at h1 i _, by simpa using h2, fun j hj => ?_⟩
  by_cases e : j = i
  · subst e
    simp only [if_true]
    refine ⟨?_, hv⟩
    rw [Array.getElem?_setIfInBounds_self_of_lt (by omega)]
  · simp only [e, if_false]
    refine ⟨?_, (h3 j hj).2⟩
    rw [Array.getElem?_setIfInBounds_ne (fun e2 => e e2.symm)]
    exact (h3 j hj).1

set_option maxRecDepth 100000 in
set_option maxHeartbeats 1000000 in
theorem crcnew_ok (w : World) : Calls Tryz.prog 118 #[] w fun e w' => ∃ t T, e = .returned (.pointer (some ⟨t, 0, none⟩)) ∧ w.heap.size ≤ t ∧ TabAt w' t T ∧ Touch [] w w' := by
  go_enter Tryz.func118, Tryz.ntmps118
  go_wp2_with fail
  obtain ⟨t, ht⟩ : ∃ t, t = w.heap.size := ⟨_, rfl⟩
  have hz : Tryz.zeroCells256.toList = List.replicate 1024 (Value.int .u32 0) := by kernel_rfl
  have h0 : TabAt (w.alloc (.cells Tryz.zeroCells256 256)) t (fun _ => 0) := by
    refine ⟨_, by rw [ht]; exact heap_alloc_at w _, ?_, fun i hi => ⟨?_, ⟨Int.le_refl 0, by show (0 : Int) < 4294967296; omega⟩⟩⟩
    · have := congrArg List.length hz
      rw [List.length_replicate] at this
      exact this
    · rw [← Array.getElem?_toList, hz, List.getElem?_replicate, if_pos hi]
  have hT0 : Touch [] w (w.alloc (.cells Tryz.zeroCells256 256)) := (Touch.refl _ _).alloc _
  generalize w.alloc (.cells Tryz.zeroCells256 256) = w0 at *
  rw [← ht]
  have H0 := Lib.hid (And.intro h0 (And.intro hT0 ht))
  clear h0 hT0 ht hz
  go_loopg [8] 256 (fun k vi wr => ∃ (j : Nat) (T : Nat → Int), j + k = 256 ∧ vi = .int .i64 j ∧ TabAt wr t T ∧ Touch [] w wr)
  case atStart => exact ⟨0, _, by omega, by go_num, H0.out.1, H0.out.2.1⟩
  case round =>
    obtain ⟨j, T, hj, rfl, htab, hT⟩ := hrel
    have HJ := Lib.hid (And.intro hj (And.intro htab hT))
    have BJ : (j : Int) ≤ 256 := by omega
    by_cases hlt : j < 256
    · have hd : decide ((j : Int) < 256) = true := by simp; omega
      have hwr : IntKind.u32.wrap (j : Int) = j := by rw [IntKind.wrap_u32]; omega
      have hc := htab.cell j (by omega)
      have hf := htab.free j
      have BJ2 : (j : Int) < 256 := by omega
      have BJ3 : (0 : Int) ≤ (j : Int) := by omega
      clear hj htab hT
      go_wp2_with fail
      go_region_held3 (fun w' => True)
        (first | trivial)
        (first
          | (go_at_call 168; refine (first_ok _ _ ?hwd).mono ?_; (case hwd => exact ⟨by omega, by omega⟩); rintro e w4 ⟨⟨v, hv, rfl⟩, rfl⟩))
      have hs := (HJ.out.2.1.set j v hv).touch ((Touch.refl [] _).drew) (by simp)
      have hTs : Touch [] w ((wr.setCell ⟨t, j, none⟩ (.int .u32 v)).drew) := (HJ.out.2.2.setCell t j none (.int .u32 v) (.inr (by have := H0.out.2.2; omega))).drew
      generalize (wr.setCell ⟨t, j, none⟩ (.int .u32 v)).drew = w5 at *
      have H5 := Lib.hid (And.intro hs hTs)
      clear hs hTs hc hf
      go_wp2_with fail
      go_roundg (256 - (j + 1))
      case measure => have := HJ.out.1; omega
      case rel => exact ⟨j + 1, _, by have := HJ.out.1; omega, by go_num, H5.out.1, H5.out.2⟩
    · have hjn : j = 256 := by omega
      subst hjn
      clear hj htab hT
      go_wp2_with fail
      go_loopg [3] 3 (fun k vi wq => ∃ (j : Nat) (T : Nat → Int), j + k = 4 ∧ 1 ≤ j ∧ vi = .int .i64 j ∧ TabAt wq t T ∧ Touch [] w wq)
      case atStart => exact ⟨1, T, by omega, by omega, by go_num, HJ.out.2.1, HJ.out.2.2⟩
      case round =>
        obtain ⟨j, T2, hj, hj1, rfl, htab, hT⟩ := hrel
        have HQ := Lib.hid (And.intro hj (And.intro htab hT))
        have BJ2 : (j : Int) ≤ 4 := by omega
        have BJ1 : (1 : Int) ≤ j := by omega
        by_cases hlt2 : j < 4
        · have hd2 : decide ((j : Int) < 4) = true := by simp; omega
          clear hj htab hT
          go_wp2_with fail
          go_loopg [25] 256 (fun k vi wi => ∃ (i : Nat) (T : Nat → Int), i + k = 256 ∧ vi = .int .i64 i ∧ TabAt wi t T ∧ Touch [] w wi)
          case atStart => exact ⟨0, T2, by omega, by go_num, HQ.out.2.1, HQ.out.2.2⟩
          case round =>
            obtain ⟨i, T3, hi, rfl, htab, hT⟩ := hrel
            have HI := Lib.hid (And.intro hi (And.intro htab hT))
            have BI : (i : Int) ≤ 256 := by omega
            by_cases hlt3 : i < 256
            · have hd3 : decide ((i : Int) < 256) = true := by simp; omega
              have hb1 : (j - 1) * 256 + i < 1024 := by omega
              have hb2 : j * 256 + i < 1024 := by omega
              have hc1 := htab.cell _ hb1
              have hv1 := htab.word _ hb1
              have hc2 := htab.cell _ hb2
              have hf2 := htab.free (j * 256 + i)
              generalize T3 ((j - 1) * 256 + i) = v at hc1 hv1
              obtain ⟨y, hy, hyl⟩ : ∃ y : Nat, bits .and .u32 v 255 = (y : Int) ∧ y < 256 := by
                refine ⟨(bits .and .u32 v 255).toNat, ?_, ?_⟩
                · have := (word_bits .and v 255).1; omega
                · have h1 := u32_and v 255 hv1.1 hv1.2 (by omega) (by omega)
                  rw [h1]
                  have h2 : v.toNat &&& (255 : Int).toNat = v.toNat % 256 := nat_mask8 _
                  rw [h2]; omega
              have hc3 := htab.cell y (by omega)
              have HW := Lib.hid (And.intro hv1 (And.intro hb1 hb2))
              clear hi htab hT
              go_wp2_with fail
              go_region
              all_goals
                have hs := (HI.out.2.1.set (j * 256 + i) (bits .xor .u32 (T3 y) (v / 256)) (word_bits _ _ _)).touch ((Touch.refl [] _).drew) (by simp)
                have hTs : Touch [] w ((wr.setCell ⟨t, j * 256 + i, none⟩ (.int .u32 (bits .xor .u32 (T3 y) (v / 256)))).drew) := (HI.out.2.2.setCell t (j * 256 + i) none _ (.inr (by have := H0.out.2.2; omega))).drew
                generalize (wr.setCell ⟨t, j * 256 + i, none⟩ (.int .u32 (bits .xor .u32 (T3 y) (v / 256)))).drew = w5 at *
                have H5 := Lib.hid (And.intro hs hTs)
                clear hs hTs hc1 hc2 hf2 hc3
                go_wp2_with fail
                go_roundg (256 - (i + 1))
                case measure => have := HI.out.1; omega
                case rel => exact ⟨i + 1, _, by have := HI.out.1; omega, by go_num, H5.out.1, H5.out.2⟩
            · have hin : i = 256 := by omega
              subst hin
              clear hi htab hT
              go_wp2_with fail
              go_roundg (4 - (j + 1))
              case measure => have := HQ.out.1; omega
              case rel => exact ⟨j + 1, T3, by have := HQ.out.1; omega, by omega, by go_num, HI.out.2.1, HI.out.2.2⟩
        · have hjn : j = 4 := by omega
          subst hjn
          clear hj htab hT
          go_wp2_with fail
          go_ret
          exact ⟨t, T2, rfl, by have := H0.out.2.2; omega, HQ.out.2.1, HQ.out.2.2⟩
end Go.Proofs.YtljgifbnmgpdbaaGreatDoor

namespace Go.Proofs.YtljgifbnmgpdbaaGreatDoor
open Go Go.RowKit

def oneI (T : Nat → Int) (x : Int) (b : UInt8) : Int := bits .xor .u32 (T (bits .xor .u8 (x % 256) b.toNat).toNat) (x / 256)

theorem byte_bits (op : BinOp) (a b : Int) : ∃ y : Nat, bits op .u8 a b = (y : Int) ∧ y < 256 := by
  have key : ∀ n : Int, ∃ y : Nat, IntKind.u8.wrap n = (y : Int) ∧ y < 256 := fun n => by
    rw [IntKind.wrap_u8]; exact ⟨(n % 256).toNat, by omega, by omega⟩
  unfold bits
  cases op <;> simp only <;> first | exact key _ | exact ⟨0, rfl, by omega⟩

theorem mask_bits {v : Int} (h : Word v) : ∃ y : Nat, bits .and .u32 v 255 = (y : Int) ∧ y < 256 := by
  refine ⟨(bits .and .u32 v 255).toNat, ?_, ?_⟩
  · have := (word_bits .and v 255).1; omega
  · have h1 := u32_and v 255 h.1 h.2 (by omega) (by omega)
    rw [h1]
    have h2 : v.toNat &&& (255 : Int).toNat = v.toNat % 256 := nat_mask8 _
    rw [h2]; omega

set_option maxRecDepth 100000 in
set_option maxHeartbeats 1000000 in
theorem one_ok (w : World) (t : Nat) (T : Nat → Int) (h : TabAt w t T) (x : Int) (hx : Word x) (b : UInt8) :
    Calls Tryz.prog 251 #[.pointer (some ⟨t, 0, none⟩), .int .u32 x, .int .u8 b.toNat] w fun e w' => e = .returned (.int .u32 (oneI T x b)) ∧ w = w' := by
  obtain ⟨y, hy, hyl⟩ := byte_bits .xor (x % 256) b.toNat
  have hc := h.cell y (by omega)
  have ho : oneI T x b = bits .xor .u32 (T y) (x / 256) := by unfold oneI; rw [hy]; rfl
  have X0 : 0 ≤ x := hx.1
  have X1 : x < 4294967296 := hx.2
  have HO := Lib.hid ho
  clear h ho hx
  go_enter Tryz.func251, Tryz.ntmps251
  go_wp2_with fail
  go_ret
  rw [HO.out]
  exact ⟨rfl, rfl⟩

def mixI (x : Int) (b0 b1 b2 b3 : UInt8) : Int := bits .xor .u32 x (bits .or .u32 (bits .or .u32 (bits .or .u32 ((b0.toNat : Int) % 4294967296) ((b1.toNat : Int) % 4294967296 * 256 % 4294967296)) ((b2.toNat : Int) % 4294967296 * 65536 % 4294967296)) ((b3.toNat : Int) % 4294967296 * 16777216 % 4294967296))
def fourZ (T : Nat → Int) (z : Int) : Int := bits .xor .u32 (bits .xor .u32 (bits .xor .u32 (T (768 + (bits .and .u32 z 255).toNat)) (T (512 + (bits .and .u32 (z / 256) 255).toNat))) (T (256 + (bits .and .u32 (z / 65536) 255).toNat))) (T (z / 16777216).toNat)
def fourI (T : Nat → Int) (x : Int) (b0 b1 b2 b3 : UInt8) : Int := fourZ T (mixI x b0 b1 b2 b3)

set_option maxRecDepth 100000 in
set_option maxHeartbeats 1000000 in
theorem four_ok (w : World) (t : Nat) (T : Nat → Int) (h : TabAt w t T) (x : Int) (hx : Word x) (s : ByteArray) (h0 : 0 < s.size) (h1 : 1 < s.size) (h2 : 2 < s.size) (h3 : 3 < s.size) :
    Calls Tryz.prog 250 #[.pointer (some ⟨t, 0, none⟩), .int .u32 x, .string s] w fun e w' => e = .returned (.int .u32 (fourI T x s[0] s[1] s[2] s[3])) ∧ Touch [] w w' := by
  have X0 : 0 ≤ x := hx.1
  have X1 : x < 4294967296 := hx.2
  have i1 : (1 : Int) < s.size := by omega
  have i2 : (2 : Int) < s.size := by omega
  have i3 : (3 : Int) < s.size := by omega
  have HH := Lib.hid h
  unfold fourI
  have hm : Word (mixI x s[0] s[1] s[2] s[3]) := word_bits _ _ _
  have hmi : bits .xor .u32 x (bits .or .u32 (bits .or .u32 (bits .or .u32 ((s[0].toNat : Int) % 4294967296) ((s[1].toNat : Int) % 4294967296 * 256 % 4294967296)) ((s[2].toNat : Int) % 4294967296 * 65536 % 4294967296)) ((s[3].toNat : Int) % 4294967296 * 16777216 % 4294967296)) = mixI x s[0] s[1] s[2] s[3] := rfl
  generalize mixI x s[0] s[1] s[2] s[3] = z at *
  have HM := Lib.hid hm
  have Z0 : 0 ≤ z := hm.1
  have Z1 : z < 4294967296 := hm.2
  obtain ⟨y3, e3, l3⟩ := mask_bits hm
  obtain ⟨y2, e2, l2⟩ := mask_bits (word_div hm (k := 256) (by omega))
  obtain ⟨y1, e1, l1⟩ := mask_bits (word_div hm (k := 65536) (by omega))
  obtain ⟨y0, e0, l0⟩ : ∃ y : Nat, z / 16777216 = (y : Int) ∧ y < 256 := ⟨(z / 16777216).toNat, by omega, by omega⟩
  have c3 := h.cell (768 + y3) (by omega)
  have c2 := h.cell (512 + y2) (by omega)
  have c1 := h.cell (256 + y1) (by omega)
  have c0 := h.cell y0 (by omega)
  have hv : fourZ T z = bits .xor .u32 (bits .xor .u32 (bits .xor .u32 (T (768 + y3)) (T (512 + y2))) (T (256 + y1))) (T y0) := by
    unfold fourZ; rw [e3, e2, e1, e0]; simp only [Int.toNat_natCast]
  have HV := Lib.hid hv
  clear h hx hm hv
  go_enter Tryz.func250, Tryz.ntmps250
  go_wp2_with fail
  go_quiet (fail)
  go_wp2_with fail
  go_quiet (fail)
  go_wp2_with fail
  go_ret
  rw [HV.out]
  exact ⟨rfl, ((Touch.refl _ _).drewN _).drewN _⟩

def sumL (T : Nat → Int) : Int → List UInt8 → Int
  | x, b0 :: b1 :: b2 :: b3 :: l => sumL T (fourI T x b0 b1 b2 b3) l
  | x, l => l.foldl (oneI T) x

theorem sumL_short (T : Nat → Int) (x : Int) (l : List UInt8) (h : l.length < 4) : sumL T x l = l.foldl (oneI T) x := by
  match l, h with
  | [], _ => rfl
  | [_], _ => rfl
  | [_, _], _ => rfl
  | [_, _, _], _ => rfl
  | _ :: _ :: _ :: _ :: _, h => simp at h; omega

theorem sumL_four (T : Nat → Int) (x : Int) (s : ByteArray) (h0 : 0 < s.size) (h1 : 1 < s.size) (h2 : 2 < s.size) (h3 : 3 < s.size) : sumL T x s.data.toList = sumL T (fourI T x s[0] s[1] s[2] s[3]) (s.extract 4 s.size).data.toList := by
  have e : (s.extract 4 s.size).data.toList = s.data.toList.drop 4 := by
    rw [ByteArray.data_extract]
    simp only [Array.toList_extract, List.extract_eq_take_drop]
    rw [List.take_of_length_le]
    rw [List.length_drop]; exact Nat.le_refl _
  rw [e]
  have hl : s.data.toList = s[0] :: s[1] :: s[2] :: s[3] :: s.data.toList.drop 4 := by
    have d0 := List.drop_eq_getElem_cons (l := s.data.toList) (i := 0) h0
    have d1 := List.drop_eq_getElem_cons (l := s.data.toList) (i := 1) h1
    have d2 := List.drop_eq_getElem_cons (l := s.data.toList) (i := 2) h2
    have d3 := List.drop_eq_getElem_cons (l := s.data.toList) (i := 3) h3
    rw [List.drop_zero, d1, d2, d3] at d0
    exact d0
  conv => lhs; rw [hl]
  rfl

theorem word_one (T : Nat → Int) (x : Int) (b : UInt8) : Word (oneI T x b) := word_bits _ _ _
theorem word_four (T : Nat → Int) (x : Int) (b0 b1 b2 b3 : UInt8) : Word (fourI T x b0 b1 b2 b3) := by unfold fourI fourZ; exact word_bits _ _ _

/-- A text's sum, by a table. -/
def crcSum (T : Nat → Int) (l : List UInt8) : Nat := (bits .xor .u32 IntKind.u32.max (sumL T 4294967295 l)).toNat
theorem crcSum_lt (T : Nat → Int) (l : List UInt8) : crcSum T l < 4294967296 := by
  have := word_bits .xor IntKind.u32.max (sumL T 4294967295 l)
  unfold crcSum
  have h1 := this.1
  have h2 := this.2
  omega
theorem crcSum_wrap (T : Nat → Int) (l : List UInt8) : wrap64 (bits .xor .u32 IntKind.u32.max (sumL T 4294967295 l)) = (crcSum T l : Nat) := by
  have := word_bits .xor IntKind.u32.max (sumL T 4294967295 l)
  unfold crcSum
  have h1 := this.1
  have h2 := this.2
  rw [wrap64_small (by omega) (by omega)]
  omega

set_option maxRecDepth 100000 in
set_option maxHeartbeats 1000000 in
theorem sum_ok (w : World) (t : Nat) (T : Nat → Int) (h : TabAt w t T) (b off cap : Nat) (s : ByteArray) (hc : w.cell? ⟨b, off, none⟩ = some (.string s)) (hs : s.size ≤ 1000000) :
    Calls Tryz.prog 197 #[.pointer (some ⟨t, 0, none⟩), .slice (some ⟨b, off, none⟩) 1 cap] w fun e w' => e = .returned (.int .i64 (crcSum T s.data.toList : Nat)) ∧ Touch [] w w' := by
  have HH := Lib.hid (And.intro h (And.intro hc hs))
  clear h hc hs
  go_enter Tryz.func197, Tryz.ntmps197
  go_wp2_with fail
  go_loopg [5, 13] 1 (fun k vx vi wr => ∃ (j : Nat) (x : Int), j + k = 1 ∧ vi = .int .i64 j ∧ vx = .int .u32 x ∧ Word x ∧ Touch [] w wr ∧ (j = 0 → x = 4294967295) ∧ (j = 1 → x = sumL T 4294967295 s.data.toList))
  case atStart => exact ⟨0, _, by omega, by go_num, rfl, ⟨by omega, by omega⟩, Touch.refl _ _, fun _ => rfl, fun h => by omega⟩
  case round =>
    obtain ⟨j, x, hj, rfl, rfl, hx, hT, hx0, hx1⟩ := hrel
    have HJ := Lib.hid (And.intro hj (And.intro hx (And.intro hT (And.intro hx0 hx1))))
    by_cases hlt : j = 0
    · subst hlt
      have hx := hx0 rfl
      subst hx
      have hcr := hT.cell HH.out.2.1 (by simp)
      clear hj hx hT hx0 hx1
      go_wp2_with fail
      go_loopg [5, 7] (s.size / 4) (fun k vx vs wq => ∃ (x : Int) (q : ByteArray), k = q.size / 4 ∧ q.size ≤ 1000000 ∧ vx = .int .u32 x ∧ vs = .string q ∧ Word x ∧ Touch [] w wq ∧ sumL T x q.data.toList = sumL T 4294967295 s.data.toList)
      case atStart => exact ⟨_, s, rfl, HH.out.2.2, rfl, rfl, HJ.out.2.1, HJ.out.2.2.1, rfl⟩
      case round =>
        obtain ⟨x, q, hq, hqs, rfl, rfl, hx, hT, hsum⟩ := hrel
        have HQ := Lib.hid (And.intro hq (And.intro hqs (And.intro hx (And.intro hT hsum))))
        clear hq hx hT hsum
        have BQ : (q.size : Int) ≤ 1000000 := by omega
        clear hqs
        by_cases h4 : 4 ≤ q.size
        · have hd : decide ((4 : Int) ≤ q.size) = true := by simp; omega
          go_wp2_with fail
          refine (four_ok _ t T (HH.out.1.touch HQ.out.2.2.2.1 (by simp)) x HQ.out.2.2.1 q (by omega) (by omega) (by omega) (by omega)).mono ?_
          rintro e w2 ⟨rfl, hT2⟩
          have HT2 := Lib.hid (HQ.out.2.2.2.1.trans' hT2)
          clear hT2
          have hsl : 4 ≤ q.size := h4
          go_wp2_with fail
          go_roundg ((q.size - 4) / 4)
          case measure => have := HQ.out.1; omega
          case rel =>
            have hes : (q.extract 4 q.size).size = q.size - 4 := by rw [ByteArray.size_extract]; omega
            refine ⟨_, q.extract 4 q.size, by rw [hes], by rw [hes]; have := HQ.out.2.1; omega, rfl, rfl, word_four _ _ _ _ _ _, HT2.out, ?_⟩
            rw [← HQ.out.2.2.2.2]
            exact (sumL_four T x q _ _ _ _).symm
        · have hd : decide ((4 : Int) ≤ q.size) = false := by simp; omega
          have HS := Lib.hid (sumL_short T x q.data.toList (by rw [bytes_len]; omega))
          go_wp2_with fail
          go_loopg [5, 30] q.size (fun k vx vi wi => ∃ (i : Nat) (y : Int), i + k = q.size ∧ vi = .int .i64 i ∧ vx = .int .u32 y ∧ Word y ∧ Touch [] w wi ∧ (q.data.toList.take i).foldl (oneI T) x = y)
          case atStart => exact ⟨0, x, by omega, by go_num, rfl, HQ.out.2.2.1, HQ.out.2.2.2.1, rfl⟩
          case round =>
            obtain ⟨i, y, hi, rfl, rfl, hy, hT, hsum⟩ := hrel
            have HI := Lib.hid (And.intro hi (And.intro hy (And.intro hT hsum)))
            have Y0 : 0 ≤ y := hy.1
            have Y1 : y < 4294967296 := hy.2
            clear hi hy hT hsum
            have BI : (i : Int) ≤ 1000000 := by have := HI.out.1; have := HQ.out.2.1; omega
            by_cases hil : i < q.size
            · go_wp2_with fail
              refine region_class (fun w' => Touch [] w w') (by kernel_rfl) (by kernel_rfl) HI.out.2.2.1.drew ?_
              repeat (first | go_big_quiet_skip | (go_big_quiet_want; go_big_quiet_op; first | go_big_quiet_on | (refine Exists.intro _ ⟨fun _ _ => rfl, ?_⟩; go_big_quiet_on) | (refine Exists.intro _ ⟨fun w' hC => by (first | rw [hC.out.1] | rw [hC.out.2.1] | rw [hC.out.2.2.1] | rw [hC.out.2.2.2.1]); exact ⟨rfl, rfl⟩, ?_⟩; go_big_quiet_on) | (refine Exists.intro _ ⟨fun w' hC => (one_ok w' t T (HH.out.1.touch hC.out (by simp)) y HI.out.2.1 q[i]).mono fun e w2 hh => ⟨hh.1, hh.2 ▸ hC.out⟩, ?_⟩; go_big_quiet_on)))
              refine wpQuiet_nil ?_
              intro w4 hT4
              have HT4 := Lib.hid hT4
              clear hT4
              go_wp2_with fail
              go_roundg (q.size - (i + 1))
              case measure => have := HI.out.1; omega
              case rel =>
                refine ⟨i + 1, _, by have := HI.out.1; omega, by go_num, rfl, word_one _ _ _, HT4.out, ?_⟩
                rw [List.take_succ_eq_append_getElem (by exact hil), List.foldl_append, HI.out.2.2.2]
                rfl
            · have hin : i = q.size := by have := HI.out.1; omega
              subst hin
              go_wp2_with fail
              go_roundg 0
              case measure => have := HJ.out.1; omega
              case rel =>
                refine ⟨1, y, by omega, by go_num, rfl, HI.out.2.1, HI.out.2.2.1, fun h => by omega, fun _ => ?_⟩
                rw [← HQ.out.2.2.2.2, HS.out, ← HI.out.2.2.2, List.take_of_length_le (by rw [bytes_len]; exact Nat.le_refl _)]
    · have hj1 : j = 1 := by omega
      subst hj1
      have X0 : 0 ≤ x := hx.1
      have X1 : x < 4294967296 := hx.2
      clear hj hx hT hx0 hx1
      go_wp2_with fail
      go_ret
      have hx := HJ.out.2.2.2.2 trivial
      refine ⟨ret_int ?_, HJ.out.2.2.1⟩
      rw [hx]
      exact crcSum_wrap T _

set_option maxRecDepth 100000 in
set_option maxHeartbeats 1000000 in
theorem word_ok (w : World) (n : Nat) (hn : n < 4294967296) :
    Calls Tryz.prog 196 #[.int .i64 n] w fun e w' => e = .returned (.agg (bcells (be 4 n)).toArray) ∧ Touch [] w w' := by
  have BN : (n : Int) < 4294967296 := by omega
  go_enter Tryz.func196, Tryz.ntmps196
  go_wp2_with fail
  refine bodyPost_ret (v := .agg #[.int .u8 ((n : Int) / 16777216), .int .u8 ((n : Int) / 65536 % 256), .int .u8 ((n : Int) / 256 % 256), .int .u8 ((n : Int) % 256)]) (by simp [results, Tryz.results196, go_sem]) rfl ⟨?_, (Touch.refl _ _).alloc _⟩
  have e : (bcells (be 4 n)).toArray = #[.int .u8 ((n : Int) / 16777216), .int .u8 ((n : Int) / 65536 % 256), .int .u8 ((n : Int) / 256 % 256), .int .u8 ((n : Int) % 256)] := by
    have h : ∀ y : Nat, ((UInt8.ofNat y).toNat : Int) = (y : Int) % 256 := fun y => by rw [UInt8.toNat_ofNat']; omega
    simp only [bcells, be, List.map_cons, List.map_nil, h]
    have e1 : ((n / 256 ^ 3 : Nat) : Int) % 256 = (n : Int) / 16777216 := by omega
    have e2 : ((n / 256 ^ 2 : Nat) : Int) % 256 = (n : Int) / 65536 % 256 := by omega
    have e3 : ((n / 256 ^ 1 : Nat) : Int) % 256 = (n : Int) / 256 % 256 := by omega
    have e4 : ((n / 256 ^ 0 : Nat) : Int) % 256 = (n : Int) % 256 := by omega
    rw [e1, e2, e3, e4]
  rw [e]
end Go.Proofs.YtljgifbnmgpdbaaGreatDoor

namespace Go.Proofs.YtljgifbnmgpdbaaGreatDoor
open Go Go.RowKit

/-- What is sealed. -/
def sealed (T : Nat → Int) (s : ByteArray) : ByteArray := bytesOf (be 4 (crcSum T s.data.toList)) ++ s

set_option maxRecDepth 100000 in
set_option maxHeartbeats 1000000 in
theorem seal_ok (w : World) (t : Nat) (T : Nat → Int) (h : TabAt w t T) (s : ByteArray) (hs : s.size ≤ 1000000) :
    Calls Tryz.prog 189 #[.pointer (some ⟨t, 0, none⟩), .string s] w fun e w' => e = .returned (.string (sealed T s)) ∧ Touch [] w w' := by
  have HH := Lib.hid (And.intro h hs)
  have BS : (s.size : Int) ≤ 1000000 := by omega
  clear h hs
  go_enter Tryz.func189, Tryz.ntmps189
  go_wp2_with fail
  have h1 := heap_alloc_at w (.cells #[.string s] 9)
  have hT1 : Touch [] w (w.alloc (.cells #[.string s] 9)) := (Touch.refl _ _).alloc _
  refine (sum_ok _ t T (HH.out.1.touch hT1 (by simp)) w.heap.size 0 1 s (cell_of h1 0 _ rfl) HH.out.2).mono ?_
  rintro e w2 ⟨rfl, hT2⟩
  have HT2 := Lib.hid (hT1.trans' hT2)
  clear h1 hT1 hT2
  go_wp2_with fail
  refine (word_ok w2 (crcSum T s.data.toList) (crcSum_lt _ _)).mono ?_
  rintro e w3 ⟨rfl, hT3⟩
  have HT3 := Lib.hid (HT2.out.trans' hT3)
  clear hT3
  obtain ⟨c, hc⟩ : ∃ c, c = crcSum T s.data.toList := ⟨_, rfl⟩
  rw [← hc]
  have HC := Lib.hid hc
  clear hc
  have h4 : (be 4 c).length = 4 := be_len 4 c
  obtain ⟨b0, b1, b2, b3, hb⟩ : ∃ b0 b1 b2 b3, be 4 c = [b0, b1, b2, b3] := ⟨_, _, _, _, rfl⟩
  rw [hb]
  simp only [bcells, List.map_cons, List.map_nil]
  have HB := Lib.hid hb
  clear hb h4
  have hat := heap_alloc_at w3 (.cells #[.int .u8 b0.toNat, .int .u8 b1.toNat, .int .u8 b2.toNat, .int .u8 b3.toNat] 284)
  have hT4 : Touch [] w3 (w3.alloc (.cells #[.int .u8 b0.toNat, .int .u8 b1.toNat, .int .u8 b2.toNat, .int .u8 b3.toNat] 284)) := (Touch.refl _ _).alloc _
  have hback := run_convert_bytes_back (P := Tryz.prog) (w3.alloc (.cells #[.int .u8 b0.toNat, .int .u8 b1.toNat, .int .u8 b2.toNat, .int .u8 b3.toNat] 284)) 94 9 5 ⟨w3.heap.size, 0, none⟩ 4 [b0, b1, b2, b3] Tryz.underlying94 Tryz.underlying5 Tryz.underlying9 (fun j hj => by
    rw [addr_add, Nat.zero_add]
    refine cell_of hat j _ ?_
    match j, hj with
    | 0, _ => rfl
    | 1, _ => rfl
    | 2, _ => rfl
    | 3, _ => rfl
    | n + 4, hj => simp at hj; omega)
  obtain ⟨p, hp⟩ : ∃ p : ByteArray, p = ⟨[b0, b1, b2, b3].toArray⟩ := ⟨_, rfl⟩
  rw [← hp] at hback
  have hps : p.size = 4 := by rw [hp]; rfl
  have BP : (p.size : Int) ≤ 4 := by omega
  have HP := Lib.hid (And.intro hp hT4)
  have hlen4 : ([b0, b1, b2, b3] : List UInt8).length = 4 := rfl
  rw [hlen4] at hback
  clear hp hT4 hat hlen4 hps
  go_wp2_with fail
  go_ret
  have e1 : sealed T s = p ++ s := by
    unfold sealed
    rw [← HC.out, HB.out, HP.out.1]; rfl
  rw [e1]
  exact ⟨rfl, HT3.out.trans' HP.out.2⟩
end Go.Proofs.YtljgifbnmgpdbaaGreatDoor

namespace Go.Proofs.YtljgifbnmgpdbaaGreatDoor
open Go Go.RowKit

/-- A sign of a plain name. -/
def signB (c : Nat) : Bool := (decide (97 ≤ c) && decide (c ≤ 122)) || (decide (48 ≤ c) && decide (c ≤ 57)) || decide (c = 45)

theorem six_ways (c : Nat) : c < 45 ∨ c = 45 ∨ (45 < c ∧ c < 48) ∨ (48 ≤ c ∧ c ≤ 57) ∨ (57 < c ∧ c < 97) ∨ (97 ≤ c ∧ c ≤ 122) ∨ 122 < c := by omega

set_option maxRecDepth 100000 in
set_option maxHeartbeats 1000000 in
theorem sign_ok (w : World) (c : Nat) : Calls Tryz.prog 272 #[.int .i32 c] w fun e w' => e = .returned (.bool (signB c)) ∧ w = w' := by
  by_cases h0 : c = 45
  · subst h0
    have HS := Lib.hid (show signB 45 = true by decide)
    go_enter Tryz.func272, Tryz.ntmps272
    go_wp2
    go_ret
    rw [HS.out]
    exact ⟨rfl, rfl⟩
  · have hne : ((c : Int) == 45) = false := by simpa using fun e : (c : Int) = 45 => h0 (by omega)
    have HN := Lib.hid h0
    rcases (show c < 48 ∨ (48 ≤ c ∧ c ≤ 57) ∨ (57 < c ∧ c < 97) ∨ (97 ≤ c ∧ c ≤ 122) ∨ 122 < c by omega) with h | ⟨h1, h2⟩ | ⟨h1, h2⟩ | ⟨h1, h2⟩ | h
    · have HS := Lib.hid (show signB c = false by simp [signB]; omega)
      have k1 : (c : Int) < 48 := by omega
      have k2 : (c : Int) < 97 := by omega
      clear h0
      go_enter Tryz.func272, Tryz.ntmps272
      go_wp2
      go_ret
      rw [HS.out]
      exact ⟨rfl, rfl⟩
    · have HS := Lib.hid (show signB c = true by simp [signB]; omega)
      have k1 : (48 : Int) ≤ c := by omega
      have k2 : (c : Int) < 97 := by omega
      have k3 : (c : Int) ≤ 57 := by omega
      clear h0
      go_enter Tryz.func272, Tryz.ntmps272
      go_wp2
      go_ret
      rw [HS.out]
      refine ⟨congrArg (fun b => Ending.returned (Value.bool b)) ?_, rfl⟩
      simp; try omega
    · have HS := Lib.hid (show signB c = false by simp [signB]; omega)
      have k1 : (57 : Int) < c := by omega
      have k2 : (c : Int) < 97 := by omega
      have k3 : (48 : Int) ≤ c := by omega
      clear h0
      go_enter Tryz.func272, Tryz.ntmps272
      go_wp2
      go_ret
      rw [HS.out]
      refine ⟨congrArg (fun b => Ending.returned (Value.bool b)) ?_, rfl⟩
      simp; try omega
    · have HS := Lib.hid (show signB c = true by simp [signB]; omega)
      have k1 : (97 : Int) ≤ c := by omega
      have k2 : (c : Int) ≤ 122 := by omega
      clear h0
      go_enter Tryz.func272, Tryz.ntmps272
      go_wp2
      go_ret
      rw [HS.out]
      refine ⟨congrArg (fun b => Ending.returned (Value.bool b)) ?_, rfl⟩
      simp; try omega
    · have HS := Lib.hid (show signB c = false by simp [signB]; omega)
      have k1 : (122 : Int) < c := by omega
      have k2 : (97 : Int) ≤ c := by omega
      have k3 : (57 : Int) < c := by omega
      have k4 : (48 : Int) ≤ c := by omega
      clear h0
      go_enter Tryz.func272, Tryz.ntmps272
      go_wp2
      go_ret
      rw [HS.out]
      refine ⟨congrArg (fun b => Ending.returned (Value.bool b)) ?_, rfl⟩
      simp; try omega

/-- Do a text's runes, all, stand in plain names? -/
def signsB (s : ByteArray) : Bool := decide (Lib.idxFunc (fun c => !signB c) true s < 0)
def plainB (s : ByteArray) : Bool := decide (0 < s.size) && decide (s.size ≤ 16) && signsB s

theorem plain_pred (w : World) : PredAt Tryz.prog 271 #[] encR (fun c => !signB c) w := fun W r _ => by
  unfold FnGives
  show Calls Tryz.prog 271 #[.int .i32 r] W fun e w' => e = .returned (.bool (!signB r)) ∧ ∃ q, w' = W.drewN q
  have hcon := sign_ok W r
  generalize signB r = b at *
  go_enter Tryz.func271, Tryz.ntmps271
  go_wp2_with fail
  refine hcon.mono ?_
  rintro e w' ⟨rfl, rfl⟩
  go_wp2_with fail
  go_ret
  exact ⟨rfl, 0, rfl⟩

set_option maxRecDepth 100000 in
set_option maxHeartbeats 1000000 in
theorem plain_ok (w : World) (s : ByteArray) : Calls Tryz.prog 237 #[.string s] w fun e w' => e = .returned (.bool (plainB s)) ∧ Touch [] w w' := by
  by_cases h0 : s.size = 0
  · have e1 := bytes_nil h0
    have HP := Lib.hid (show plainB s = false by simp [plainB, h0])
    clear h0
    go_enter Tryz.func237, Tryz.ntmps237
    go_wp2
    go_ret
    rw [HP.out]
    exact ⟨rfl, Touch.refl _ _⟩
  · have e1 := bytes_not_nil h0
    have e2 : (!s.toList.isEmpty) = true := by simpa using e1
    by_cases h1 : s.size ≤ 16
    · obtain ⟨I, hI⟩ : ∃ I, I = Lib.idxFunc (fun c => !signB c) true s := ⟨_, rfl⟩
      have hcon := Tryz.strings_IndexFunc 271 #[] (enters_of Tryz.func271 (by kernel_rfl) rfl) (fun c => !signB c) s w (plain_pred w)
      rw [← hI] at hcon
      have B1 : (s.size : Int) ≤ 16 := by omega
      by_cases h2 : I < 0
      · have hd : decide (I < 0) = true := by simpa using h2
        have HP := Lib.hid (show plainB s = true by simp only [plainB, signsB, ← hI, hd]; simp; omega)
        clear hI h0 h1 h2
        go_enter Tryz.func237, Tryz.ntmps237
        go_wp2_with fail
        refine hcon.mono ?_
        rintro e w' ⟨rfl, hb⟩
        go_wp2_with fail
        go_ret
        rw [HP.out]
        exact ⟨rfl, Touch.of_below hb⟩
      · have hd : decide (I < 0) = false := by simpa using h2
        have HP := Lib.hid (show plainB s = false by simp [plainB, signsB, ← hI, hd])
        clear hI h0 h1 h2
        go_enter Tryz.func237, Tryz.ntmps237
        go_wp2_with fail
        refine hcon.mono ?_
        rintro e w' ⟨rfl, hb⟩
        go_wp2_with fail
        go_ret
        rw [HP.out]
        exact ⟨rfl, Touch.of_below hb⟩
    · have B1 : 16 < (s.size : Int) := by omega
      have HP := Lib.hid (show plainB s = false by simp [plainB, h1])
      clear h0 h1
      go_enter Tryz.func237, Tryz.ntmps237
      go_wp2
      go_ret
      rw [HP.out]
      exact ⟨rfl, Touch.refl _ _⟩

def groupB (s : ByteArray) : Bool := plainB s && decide (s.size ≤ 8)

set_option maxRecDepth 100000 in
set_option maxHeartbeats 1000000 in
theorem group_ok (w : World) (s : ByteArray) : Calls Tryz.prog 269 #[.string s] w fun e w' => e = .returned (.bool (groupB s)) ∧ Touch [] w w' := by
  have hcon := plain_ok w s
  obtain ⟨b, hb⟩ : ∃ b, b = plainB s := ⟨_, rfl⟩
  rw [← hb] at hcon
  cases b with
  | false =>
    have HP := Lib.hid (show groupB s = false by simp [groupB, ← hb])
    clear hb
    go_enter Tryz.func269, Tryz.ntmps269
    go_wp2_with fail
    refine hcon.mono ?_
    rintro e w' ⟨rfl, hT⟩
    go_wp2_with fail
    go_ret
    rw [HP.out]
    exact ⟨rfl, hT⟩
  | true =>
    by_cases h1 : s.size ≤ 8
    · have B1 : (s.size : Int) ≤ 8 := by omega
      have HP := Lib.hid (show groupB s = true by simp [groupB, ← hb, h1])
      clear hb h1
      go_enter Tryz.func269, Tryz.ntmps269
      go_wp2_with fail
      refine hcon.mono ?_
      rintro e w' ⟨rfl, hT⟩
      go_wp2_with fail
      go_ret
      rw [HP.out]
      refine ⟨congrArg (fun b => Ending.returned (Value.bool b)) ?_, hT⟩
      simp; try omega
    · have B1 : 8 < (s.size : Int) := by omega
      have HP := Lib.hid (show groupB s = false by simp [groupB, h1])
      clear hb h1
      go_enter Tryz.func269, Tryz.ntmps269
      go_wp2_with fail
      refine hcon.mono ?_
      rintro e w' ⟨rfl, hT⟩
      go_wp2_with fail
      go_ret
      rw [HP.out]
      refine ⟨congrArg (fun b => Ending.returned (Value.bool b)) ?_, hT⟩
      simp; try omega
end Go.Proofs.YtljgifbnmgpdbaaGreatDoor

namespace Go.Proofs.YtljgifbnmgpdbaaGreatDoor
open Go Go.RowKit

def headR : ByteArray := ⟨#[37, 114, 101, 116, 114, 121, 37]⟩
def headD : ByteArray := ⟨#[37, 100, 101, 97, 100, 37]⟩
def cutB (p s : ByteArray) : ByteArray := ⟨(Lib.trimPrefix s.data.toList p.data.toList).toArray⟩
def ownB (p s : ByteArray) : Bool := Lib.hasPrefix s.data.toList p.data.toList && groupB (cutB p s)
/-- The group of a topic of the broker's own. -/
def ofM (s : ByteArray) : Option ByteArray := if ownB headR s then some (cutB headR s) else if ownB headD s then some (cutB headD s) else none

set_option maxRecDepth 100000 in
set_option maxHeartbeats 1000000 in
theorem nameof_ok (w : World) (s : ByteArray) : Calls Tryz.prog 236 #[.string s] w fun e w' => e = .returned (.tuple #[.string ((ofM s).getD ⟨#[]⟩), .bool (ofM s).isSome]) ∧ Touch [] w w' := by
  have hRR : (⟨#[37, 114, 101, 116, 114, 121, 37]⟩ : ByteArray) = headR := rfl
  have hDD : (⟨#[37, 100, 101, 97, 100, 37]⟩ : ByteArray) = headD := rfl
  go_enter Tryz.func236, Tryz.ntmps236
  rw [hRR, hDD]
  go_wp2_with fail
  have hb0 : (w.alloc (.cells #[.string headR, .string headD] 9)).cell? ⟨w.heap.size, 0, none⟩ = some (.string headR) := cell_of (heap_alloc_at w _) 0 _ rfl
  have hb1 : (w.alloc (.cells #[.string headR, .string headD] 9)).cell? ⟨w.heap.size, 1, none⟩ = some (.string headD) := cell_of (heap_alloc_at w _) 1 _ rfl
  have hT0 : Touch [] w (w.alloc (.cells #[.string headR, .string headD] 9)) := (Touch.refl _ _).alloc _
  generalize w.alloc (.cells #[.string headR, .string headD] 9) = w0 at *
  generalize w.heap.size = b at *
  have H0 := Lib.hid (And.intro hb0 (And.intro hb1 hT0))
  clear hb0 hb1 hT0
  go_loopg [10] 2 (fun k vi wr => ∃ j : Nat, j + k = 2 ∧ vi = .int .i64 j ∧ (1 ≤ j → ownB headR s = false) ∧ (2 ≤ j → ownB headD s = false) ∧ Touch [] w0 wr)
  case atStart => exact ⟨0, by omega, by go_num, by omega, by omega, Touch.refl _ _⟩
  case round =>
    obtain ⟨j, hj, rfl, h1, h2, hT⟩ := hrel
    have HJ := Lib.hid (And.intro hj (And.intro h1 (And.intro h2 hT)))
    have BJ : (j : Int) ≤ 2 := by omega
    clear h1 h2
    by_cases hlt : j < 2
    · have hd : decide ((j : Int) < 2) = true := by simp; omega
      obtain ⟨p, hp, hc⟩ : ∃ p, (p = headR ∧ j = 0 ∨ p = headD ∧ j = 1) ∧ w0.cell? ⟨b, j, none⟩ = some (.string p) := by
        rcases (show j = 0 ∨ j = 1 by omega) with e | e
        · exact ⟨headR, .inl ⟨rfl, e⟩, by rw [e]; exact H0.out.1⟩
        · exact ⟨headD, .inr ⟨rfl, e⟩, by rw [e]; exact H0.out.2.1⟩
      have hc1 := hT.cell hc (by simp)
      have hcut := fun (W : World) => Tryz.strings_CutPrefix s p W
      obtain ⟨g, hg⟩ : ∃ g, g = cutB p s := ⟨_, rfl⟩
      obtain ⟨x, hx⟩ : ∃ x, x = Lib.hasPrefix s.data.toList p.data.toList := ⟨_, rfl⟩
      have hg' : (⟨(Lib.trimPrefix s.data.toList p.data.toList).toArray⟩ : ByteArray) = g := hg.symm
      rw [hg', ← hx] at hcut
      have HP := Lib.hid (And.intro hp (And.intro hg hx))
      clear hp hc hg hx hg' hj hT
      cases x with
      | false =>
        go_wp2_with fail
        refine (hcut wr).mono ?_
        rintro e w' ⟨rfl, rfl⟩
        go_wp2_with fail
        go_roundg (2 - (j + 1))
        case measure => have := HJ.out.1; omega
        case rel =>
          obtain ⟨hj, h1, h2, hT⟩ := HJ.out
          obtain ⟨hp, hg, hx⟩ := HP.out
          have ho : ownB p s = false := by unfold ownB; rw [← hx]; rfl
          refine ⟨j + 1, by omega, by go_num, fun _ => ?_, fun h => ?_, hT⟩
          · rcases hp with ⟨rfl, rfl⟩ | ⟨rfl, rfl⟩
            · exact ho
            · exact h1 (by omega)
          · rcases hp with ⟨rfl, rfl⟩ | ⟨rfl, rfl⟩
            · omega
            · exact ho
      | true =>
        have hgr := fun (W : World) => group_ok W g
        obtain ⟨y, hy⟩ : ∃ y, y = groupB g := ⟨_, rfl⟩
        rw [← hy] at hgr
        have HY := Lib.hid hy
        clear hy
        cases y with
        | false =>
          go_wp2_with fail
          refine (hcut wr).mono ?_
          rintro e w' ⟨rfl, rfl⟩
          go_wp2_with fail
          refine (hgr _).mono ?_
          rintro e w' ⟨rfl, hT2⟩
          have HT2 := Lib.hid hT2
          clear hT2
          go_wp2_with fail
          go_roundg (2 - (j + 1))
          case measure => have := HJ.out.1; omega
          case rel =>
            obtain ⟨hj, h1, h2, hT⟩ := HJ.out
            obtain ⟨hp, hg, hx⟩ := HP.out
            have ho : ownB p s = false := by unfold ownB; rw [← hx, ← hg, ← HY.out]; rfl
            refine ⟨j + 1, by omega, by go_num, fun _ => ?_, fun h => ?_, hT.trans' HT2.out⟩
            · rcases hp with ⟨rfl, rfl⟩ | ⟨rfl, rfl⟩
              · exact ho
              · exact h1 (by omega)
            · rcases hp with ⟨rfl, rfl⟩ | ⟨rfl, rfl⟩
              · omega
              · exact ho
        | true =>
          go_wp2_with fail
          refine (hcut wr).mono ?_
          rintro e w' ⟨rfl, rfl⟩
          go_wp2_with fail
          refine (hgr _).mono ?_
          rintro e w' ⟨rfl, hT2⟩
          have HT2 := Lib.hid hT2
          clear hT2
          go_wp2_with fail
          go_ret2
          obtain ⟨hj, h1, h2, hT⟩ := HJ.out
          obtain ⟨hp, hg, hx⟩ := HP.out
          have ho : ownB p s = true := by unfold ownB; rw [← hx, ← hg, ← HY.out]; rfl
          have hof : ofM s = some g := by
            unfold ofM
            rcases hp with ⟨rfl, rfl⟩ | ⟨rfl, rfl⟩
            · rw [ho, hg]; rfl
            · rw [h1 (by omega), ho, hg]; rfl
          rw [hof]
          exact ⟨rfl, H0.out.2.2.trans' (hT.trans' HT2.out)⟩
    · have hd : decide ((j : Int) < 2) = false := by simp; omega
      clear hj hT
      go_wp2_with fail
      go_ret2
      obtain ⟨hj, h1, h2, hT⟩ := HJ.out
      have hof : ofM s = none := by unfold ofM; rw [h1 (by omega), h2 (by omega)]; rfl
      rw [hof]
      exact ⟨rfl, H0.out.2.2.trans' hT⟩

def topicB (s : ByteArray) : Bool := (ofM s).isSome || plainB s

set_option maxRecDepth 100000 in
set_option maxHeartbeats 1000000 in
theorem topic_ok (w : World) (s : ByteArray) : Calls Tryz.prog 184 #[.string s] w fun e w' => e = .returned (.bool (topicB s)) ∧ Touch [] w w' := by
  have hof := nameof_ok w s
  obtain ⟨o, ho⟩ : ∃ o, o = ofM s := ⟨_, rfl⟩
  rw [← ho] at hof
  have htb : topicB s = (o.isSome || plainB s) := by rw [ho]; rfl
  have HB := Lib.hid htb
  clear ho htb
  cases o with
  | some g =>
    have hb : (some g).isSome = true := rfl
    go_enter Tryz.func184, Tryz.ntmps184
    go_wp2_with fail
    refine hof.mono ?_
    rintro e w' ⟨rfl, hT⟩
    go_wp2_with fail
    go_ret
    rw [HB.out]
    exact ⟨rfl, hT⟩
  | none =>
    have hpl := fun (W : World) => plain_ok W s
    obtain ⟨b, hb⟩ : ∃ b, b = plainB s := ⟨_, rfl⟩
    rw [← hb] at hpl
    have HP := Lib.hid hb
    clear hb
    go_enter Tryz.func184, Tryz.ntmps184
    go_wp2_with fail
    refine hof.mono ?_
    rintro e w' ⟨rfl, hT⟩
    have HT := Lib.hid hT
    clear hT
    go_wp2_with fail
    refine (hpl w').mono ?_
    rintro e w' ⟨rfl, hT2⟩
    have HT2 := Lib.hid hT2
    clear hT2
    go_wp2_with fail
    go_ret
    rw [HB.out, ← HP.out]
    exact ⟨rfl, HT.out.trans' HT2.out⟩

def tagB (s : ByteArray) : Bool := decide (s.size = 0) || plainB s

set_option maxRecDepth 100000 in
set_option maxHeartbeats 1000000 in
theorem tag_ok (w : World) (s : ByteArray) : Calls Tryz.prog 276 #[.string s] w fun e w' => e = .returned (.bool (tagB s)) ∧ Touch [] w w' := by
  by_cases h0 : s.size = 0
  · have e1 := bytes_nil h0
    have HP := Lib.hid (show tagB s = true by simp [tagB, h0])
    clear h0
    go_enter Tryz.func276, Tryz.ntmps276
    go_wp2_with fail
    go_ret
    rw [HP.out]
    exact ⟨rfl, Touch.refl _ _⟩
  · have e1 := bytes_not_nil h0
    have e2 : s.toList.isEmpty = false := by simpa using e1
    have hpl := fun (W : World) => plain_ok W s
    obtain ⟨b, hb⟩ : ∃ b, b = plainB s := ⟨_, rfl⟩
    rw [← hb] at hpl
    have HP := Lib.hid (show tagB s = b by rw [hb]; simp [tagB, h0])
    clear hb h0
    go_enter Tryz.func276, Tryz.ntmps276
    go_wp2_with fail
    refine (hpl w).mono ?_
    rintro e w' ⟨rfl, hT⟩
    go_wp2_with fail
    go_ret
    rw [HP.out]
    exact ⟨rfl, hT⟩
end Go.Proofs.YtljgifbnmgpdbaaGreatDoor

namespace Go.Proofs.YtljgifbnmgpdbaaGreatDoor
open Go Go.RowKit

def seenB (b : UInt8) : Bool := decide (33 ≤ b.toNat) && decide (b.toNat ≤ 126)
def keyB (s : ByteArray) : Bool := decide (0 < s.size) && decide (s.size ≤ 16) && s.data.toList.all seenB

set_option maxRecDepth 100000 in
set_option maxHeartbeats 1000000 in
theorem key_ok (w : World) (s : ByteArray) : Calls Tryz.prog 185 #[.string s] w fun e w' => e = .returned (.bool (keyB s)) ∧ w = w' := by
  by_cases h0 : s.size = 0
  · have e1 := bytes_nil h0
    have HP := Lib.hid (show keyB s = false by simp [keyB, h0])
    clear h0
    go_enter Tryz.func185, Tryz.ntmps185
    go_wp2_with fail
    go_ret
    rw [HP.out]
    exact ⟨rfl, rfl⟩
  · have e1 := bytes_not_nil h0
    have e2 : s.toList.isEmpty = false := by simpa using e1
    by_cases h1 : s.size ≤ 16
    · have B1 : (s.size : Int) ≤ 16 := by omega
      have HS := Lib.hid (And.intro h0 h1)
      clear h0 h1
      go_enter Tryz.func185, Tryz.ntmps185
      go_wp2_with fail
      go_loopg [13] s.size (fun k vi wr => ∃ j : Nat, j + k = s.size ∧ vi = .int .i64 j ∧ (s.data.toList.take j).all seenB = true ∧ w = wr)
      case atStart => exact ⟨0, by omega, by go_num, by simp, rfl⟩
      case round =>
        obtain ⟨j, hj, rfl, ha, rfl⟩ := hrel
        have HJ := Lib.hid (And.intro hj ha)
        clear hj ha
        by_cases hlt : j < s.size
        · have BJ : (j : Int) ≤ 16 := by omega
          obtain ⟨c, hc⟩ : ∃ c : Nat, c = s[j].toNat := ⟨_, rfl⟩
          have hall : (s.data.toList.take (j + 1)).all seenB = seenB s[j] := by
            have e1 : s.data.toList.take (j + 1) = s.data.toList.take j ++ [s[j]] := by
              rw [List.take_succ_eq_append_getElem (by exact hlt)]
              rfl
            rw [e1, List.all_append, HJ.out.2]
            simp
          have hsn : seenB s[j] = (decide (33 ≤ c) && decide (c ≤ 126)) := by rw [hc]; rfl
          have HC := Lib.hid (And.intro hc (And.intro hall hsn))
          clear hc hall hsn
          by_cases hs : 33 ≤ c ∧ c ≤ 126
          · have hd1 : decide ((s[j].toNat : Int) < 33) = false := by simp; have := HC.out.1; omega
            have hd2 : decide ((126 : Int) < s[j].toNat) = false := by simp; have := HC.out.1; omega
            have hd3 : decide (s[j].toNat < 33) = false := by simp; have := HC.out.1; omega
            have hd4 : decide (126 < s[j].toNat) = false := by simp; have := HC.out.1; omega
            have HSS := Lib.hid hs
            clear hs
            go_wp2_with fail
            go_roundg (s.size - (j + 1))
            case measure => have := HJ.out.1; omega
            case rel => exact ⟨j + 1, by have := HJ.out.1; omega, by go_num, by rw [HC.out.2.1, HC.out.2.2]; simp [HSS.out], rfl⟩
          · have HF := Lib.hid (show keyB s = false by
              have h1 : seenB s[j] = false := by rw [HC.out.2.2]; simpa using hs
              have h2 : s.data.toList.all seenB = false := by
                rw [List.all_eq_false]
                exact ⟨s[j], by rw [show s[j] = s.data.toList[j]'(by exact hlt) from rfl]; exact List.getElem_mem _, by rw [h1]; simp⟩
              simp [keyB, h2])
            by_cases hlo : c < 33
            · have hd1 : decide ((s[j].toNat : Int) < 33) = true := by simp; have := HC.out.1; omega
              have hd3 : decide (s[j].toNat < 33) = true := by simp; have := HC.out.1; omega
              clear hs hlo
              go_wp2_with fail
              go_ret
              rw [HF.out]
              exact ⟨rfl, rfl⟩
            · have hd1 : decide ((s[j].toNat : Int) < 33) = false := by simp; have := HC.out.1; omega
              have hd2 : decide ((126 : Int) < s[j].toNat) = true := by simp; have := HC.out.1; omega
              have hd3 : decide (s[j].toNat < 33) = false := by simp; have := HC.out.1; omega
              have hd4 : decide (126 < s[j].toNat) = true := by simp; have := HC.out.1; omega
              clear hs hlo
              go_wp2_with fail
              go_ret
              rw [HF.out]
              exact ⟨rfl, rfl⟩
        · have hjn : j = s.size := by have := HJ.out.1; omega
          have HE := Lib.hid hjn
          have hd : decide ((j : Int) < s.size) = false := by simp; omega
          clear hjn
          go_wp2_with fail
          go_ret
          have h3 := HJ.out.2
          rw [HE.out, List.take_of_length_le (by exact Nat.le_refl _)] at h3
          have : keyB s = true := by simp only [keyB, h3]; have := HS.out; simp; omega
          rw [this]
          exact ⟨rfl, rfl⟩
    · have B1 : 16 < (s.size : Int) := by omega
      have HP := Lib.hid (show keyB s = false by simp [keyB, h1])
      clear h0 h1
      go_enter Tryz.func185, Tryz.ntmps185
      go_wp2_with fail
      go_ret
      rw [HP.out]
      exact ⟨rfl, rfl⟩

theorem func_not_nil (W : World) (f : Nat) : (binOp .eql 244 (.func (.func f) #[] #[]) .nilFunc).run Tryz.prog W = .ok (.bool false) W := by
  have h1 : ∀ d, (Op.equalIn (d + 1) 244 (.func (.func f) #[] #[]) .nilFunc).run Tryz.prog W = .ok false W := fun d => by
    rw [Op.equalIn]
    simp only [Sem.run_bind, run_underlying Tryz.underlying244, Result.andThen_ok]
    rfl
  simp only [binOp]
  simp [Op.equal, Op.maxDepth, h1 9999]

set_option maxRecDepth 100000 in
set_option maxHeartbeats 1000000 in
theorem nall_ok (w : World) (ss : List ByteArray) (a : Option Addr) (cap : Nat) (hc : StrsAt w a ss) (hl : ss.length ≤ 1000) :
    Calls Tryz.prog 277 #[.func (.func 185) #[] #[], .slice a ss.length cap] w fun e w' => e = .returned (.bool (ss.all keyB)) ∧ w = w' := by
  have HX := Lib.hid (And.intro hc hl)
  have eg : ∀ args w, (callFunc 185 args).run Tryz.prog w = .ok (.enter 185 args) w := enters_of Tryz.func185 (by kernel_rfl) rfl
  have hfn := fun W => func_not_nil W 185
  clear hc hl
  go_enter Tryz.func277, Tryz.ntmps277
  go_wp2_with fail
  go_loopg [9] ss.length (fun k vi wr => ∃ j : Nat, j + k = ss.length ∧ vi = .int .i64 j ∧ (ss.take j).all keyB = true ∧ w = wr)
  case atStart => exact ⟨0, by omega, by go_num, by simp, rfl⟩
  case round =>
    obtain ⟨j, hj, rfl, ha, rfl⟩ := hrel
    have HJ := Lib.hid (And.intro hj ha)
    clear hj ha
    by_cases hlt : j < ss.length
    · have BJ : (j : Int) ≤ 1000 := by have := HX.out.2; omega
      obtain ⟨b, off, rfl, hcx⟩ := HX.out.1 j _ (List.getElem?_eq_getElem hlt)
      obtain ⟨x, hx⟩ : ∃ x, x = ss[j] := ⟨_, rfl⟩
      rw [← hx] at hcx
      have hall : (ss.take (j + 1)).all keyB = keyB x := by
        rw [List.take_succ_eq_append_getElem hlt, List.all_append, HJ.out.2, ← hx]; simp
      have hk := fun (W : World) => key_ok W x
      obtain ⟨y, hy⟩ : ∃ y, y = keyB x := ⟨_, rfl⟩
      rw [← hy] at hk hall
      have HXX := Lib.hid (And.intro hx (And.intro hy hall))
      clear hx hy hall
      cases y with
      | true =>
        go_wp2_with fail
        refine (hk w).mono ?_
        rintro e w' ⟨rfl, rfl⟩
        go_wp2_with fail
        go_roundg (ss.length - (j + 1))
        case measure => have := HJ.out.1; omega
        case rel => exact ⟨j + 1, by have := HJ.out.1; omega, by go_num, HXX.out.2.2, rfl⟩
      | false =>
        go_wp2_with fail
        refine (hk w).mono ?_
        rintro e w' ⟨rfl, rfl⟩
        go_wp2_with fail
        go_ret
        have : ss.all keyB = false := by
          rw [List.all_eq_false]
          exact ⟨x, by rw [HXX.out.1]; exact List.getElem_mem hlt, by rw [← HXX.out.2.1]; simp⟩
        rw [this]
        exact ⟨rfl, rfl⟩
    · have hjn : j = ss.length := by have := HJ.out.1; omega
      subst hjn
      go_wp2_with fail
      go_ret
      have := HJ.out.2
      rw [List.take_length] at this
      rw [this]
      exact ⟨rfl, rfl⟩

/-- Texts' number. -/
def hashStep (h : Int) (b : UInt8) : Int := (31 * h + b.toNat) % 4294967296
def hashL (ss : List ByteArray) : Int := (ss.flatMap fun s => s.data.toList).foldl hashStep 0
theorem hash_word (l : List UInt8) (h : Int) (hw : Word h) : Word (l.foldl hashStep h) := by
  induction l generalizing h with
  | nil => exact hw
  | cons b l ih => exact ih _ ⟨by unfold hashStep; omega, by unfold hashStep; omega⟩
theorem hashL_word (ss : List ByteArray) : Word (hashL ss) := hash_word _ _ ⟨by omega, by omega⟩

set_option maxRecDepth 100000 in
set_option maxHeartbeats 1000000 in
theorem hash_ok (w : World) (ss : List ByteArray) (a : Option Addr) (cap : Nat) (hc : StrsAt w a ss) (hl : ss.length ≤ 1000) (hz : ∀ s ∈ ss, s.size ≤ 100000000) :
    Calls Tryz.prog 126 #[.slice a ss.length cap] w fun e w' => e = .returned (.int .i64 (hashL ss)) ∧ w = w' := by
  have HX := Lib.hid (And.intro hc (And.intro hl hz))
  clear hc hl hz
  go_enter Tryz.func126, Tryz.ntmps126
  go_wp2_with fail
  go_loopg [3, 9] ss.length (fun k vh vi wr => ∃ (j : Nat) (h : Int), j + k = ss.length ∧ vi = .int .i64 j ∧ vh = .int .u32 h ∧ h = hashL (ss.take j) ∧ w = wr)
  case atStart => exact ⟨0, 0, by omega, by go_num, rfl, rfl, rfl⟩
  case round =>
    obtain ⟨j, h, hj, rfl, rfl, hh, rfl⟩ := hrel
    have hw : Word h := hh ▸ hashL_word _
    have HJ := Lib.hid (And.intro hj (And.intro hh hw))
    clear hj hh
    by_cases hlt : j < ss.length
    · have BJ : (j : Int) ≤ 1000 := by have := HX.out.2.1; omega
      obtain ⟨b, off, rfl, hcx⟩ := HX.out.1 j _ (List.getElem?_eq_getElem hlt)
      obtain ⟨x, hx⟩ : ∃ x, x = ss[j] := ⟨_, rfl⟩
      rw [← hx] at hcx
      have BX : (x.size : Int) ≤ 100000000 := by have := HX.out.2.2 ss[j] (List.getElem_mem hlt); rw [← hx] at this; omega
      have HXX := Lib.hid hx
      clear hx hw
      go_wp2_with fail
      go_loopg [3, 15] x.size (fun k vh vi wr => ∃ (i : Nat) (h2 : Int), i + k = x.size ∧ vi = .int .i64 i ∧ vh = .int .u32 h2 ∧ h2 = (x.data.toList.take i).foldl hashStep h ∧ Word h2 ∧ w = wr)
      case atStart => exact ⟨0, h, by omega, by go_num, rfl, rfl, HJ.out.2.2, rfl⟩
      case round =>
        obtain ⟨i, h2, hi, rfl, rfl, hh2, hw2, rfl⟩ := hrel
        have HI := Lib.hid (And.intro hi (And.intro hh2 hw2))
        have B0 : 0 ≤ h2 := hw2.1
        have B1 : h2 < 4294967296 := hw2.2
        clear hi hh2 hw2
        by_cases hlt2 : i < x.size
        · have BI : (i : Int) ≤ 100000000 := by omega
          obtain ⟨c, hc⟩ : ∃ c : Nat, c = x[i].toNat := ⟨_, rfl⟩
          have HC := Lib.hid hc
          clear hc
          go_wp2_with fail
          go_roundg (x.size - (i + 1))
          case measure => have := HI.out.1; omega
          case rel =>
            obtain ⟨hi, hh2, hw2⟩ := HI.out
            have e1 : x.data.toList.take (i + 1) = x.data.toList.take i ++ [x[i]] := by
              rw [List.take_succ_eq_append_getElem (by exact hlt2)]
              rfl
            refine ⟨i + 1, hashStep h2 x[i], by omega, by go_num, ?_, ?_, ⟨by unfold hashStep; omega, by unfold hashStep; omega⟩, rfl⟩
            · unfold hashStep
              have := x[i].toNat_lt
              congr 1
              omega
            · rw [e1, List.foldl_append, ← hh2]; rfl
        · have hin : i = x.size := by have := HI.out.1; omega
          subst hin
          go_wp2_with fail
          go_roundg (ss.length - (j + 1))
          case measure => have := HJ.out.1; omega
          case rel =>
            obtain ⟨hj, hh, hw⟩ := HJ.out
            obtain ⟨hi, hh2, hw2⟩ := HI.out
            refine ⟨j + 1, h2, by omega, by go_num, rfl, ?_, rfl⟩
            rw [hh2, List.take_of_length_le (by exact Nat.le_refl _), hh]
            unfold hashL
            rw [List.take_succ_eq_append_getElem hlt, List.flatMap_append, List.foldl_append, ← HXX.out]
            simp
    · have hjn : j = ss.length := by have := HJ.out.1; omega
      subst hjn
      have hwr : wrap64 h = h := wrap64_small (by have := hw.1; omega) (by have := hw.2; omega)
      have HW := Lib.hid hwr
      have B0 : 0 ≤ h := hw.1
      have B1 : h < 4294967296 := hw.2
      clear hwr hw
      go_wp2_with fail
      go_ret
      have := HJ.out.2.1
      rw [List.take_length] at this
      rw [this]
      exact ⟨rfl, rfl⟩
end Go.Proofs.YtljgifbnmgpdbaaGreatDoor

namespace Go.Proofs.YtljgifbnmgpdbaaGreatDoor
open Go Go.RowKit

structure MsgM where
  kind : Int
  queue : Int
  due : Int
  retry : Int
  ref : Int
  born : Int
  topic : ByteArray
  tag : ByteArray
  body : ByteArray
  keys : List ByteArray

/-- A record by value; its keys are a slice. -/
def msgV (m : MsgM) (kv : Value) : Value := .agg #[.int .i64 m.kind, .int .i64 m.queue, .int .i64 m.due, .int .i64 m.retry, .int .i64 m.ref, .int .i64 m.born, .string m.topic, .string m.tag, .string m.body, kv]
def KeysAt (w : World) (kv : Value) (ks : List ByteArray) : Prop := ∃ a cp, kv = .slice a ks.length cp ∧ StrsAt w a ks

theorem KeysAt.touch {w w' : World} {kv : Value} {ks : List ByteArray} {F : List Nat} (h : KeysAt w kv ks) (hT : Touch F w w') (hF : ∀ b, kv.ownBlock = some b → b ∉ F) : KeysAt w' kv ks := by
  obtain ⟨a, cp, rfl, h⟩ := h
  refine ⟨a, cp, rfl, h.touch hT fun b off e => hF b ?_⟩
  subst e; rfl
theorem KeysAt.quiet {w w' : World} {kv : Value} {ks : List ByteArray} (h : KeysAt w kv ks) (hT : Touch [] w w') : KeysAt w' kv ks := h.touch hT (by simp)

def numBad (n : Int) : Bool := decide (n < 0) || decide (1099511627776 < n)

def carriesB (m : MsgM) : Bool :=
  topicB m.topic && decide (0 ≤ m.queue) && decide (m.queue < 3) && decide (0 ≤ m.retry) && decide (m.retry ≤ 4) && tagB m.tag && decide (m.keys.length ≤ 3) && m.keys.all keyB && decide m.keys.Nodup && decide (m.body.size ≤ 200)
def cancelB (m : MsgM) : Bool := decide (m.queue = 0) && decide (m.due = 0) && decide (m.retry = 0) && decide (m.topic.size = 0) && decide (m.tag.size = 0) && decide (m.body.size = 0) && decide (m.keys.length = 0)
/-- May a record that is no filler be? -/
def rightM (m : MsgM) : Bool :=
  !(numBad m.due || numBad m.ref || numBad m.born) &&
    (if m.kind = 1 then carriesB m && decide (m.due = 0) && decide (m.ref = 0) else if m.kind = 2 ∨ m.kind = 3 then carriesB m else if m.kind = 4 then cancelB m else false)

/-- What is sealed. -/
def insideB (m : MsgM) : List UInt8 :=
  be 1 m.kind.toNat ++ be 1 m.queue.toNat ++ be 1 m.retry.toNat ++ (be 6 m.born.toNat ++ be 6 m.due.toNat ++ be 6 m.ref.toNat) ++ textB [m.topic, m.tag, m.body] ++ listB m.keys
/-- A record's bytes. -/
def putB (T : Nat → Int) (m : MsgM) : List UInt8 := 165 :: (be 2 (3 + (sealed T (bytesOf (insideB m))).size) ++ (sealed T (bytesOf (insideB m))).data.toList)

structure Carries (m : MsgM) : Prop where
  topic : topicB m.topic = true
  queue0 : 0 ≤ m.queue
  queue : m.queue < 3
  retry0 : 0 ≤ m.retry
  retry : m.retry ≤ 4
  tag : tagB m.tag = true
  keys : m.keys.length ≤ 3
  key : ∀ k ∈ m.keys, keyB k = true
  nodup : m.keys.Nodup
  body : m.body.size ≤ 200

theorem carries_iff (m : MsgM) : carriesB m = true ↔ Carries m := by
  unfold carriesB
  simp only [Bool.and_eq_true, decide_eq_true_eq, List.all_eq_true]
  constructor
  · rintro ⟨⟨⟨⟨⟨⟨⟨⟨⟨h1, h2⟩, h3⟩, h4⟩, h5⟩, h6⟩, h7⟩, h8⟩, h9⟩, h10⟩
    exact ⟨h1, h2, h3, h4, h5, h6, h7, h8, h9, h10⟩
  · rintro ⟨h1, h2, h3, h4, h5, h6, h7, h8, h9, h10⟩
    exact ⟨⟨⟨⟨⟨⟨⟨⟨⟨h1, h2⟩, h3⟩, h4⟩, h5⟩, h6⟩, h7⟩, h8⟩, h9⟩, h10⟩

theorem trimPrefix_len (s p : List UInt8) : (Lib.trimPrefix s p).length ≤ s.length := by
  unfold Lib.trimPrefix
  split
  · simp
  · exact Nat.le_refl _

theorem plain_size {s : ByteArray} (h : plainB s = true) : 0 < s.size ∧ s.size ≤ 16 := by
  unfold plainB at h
  simp only [Bool.and_eq_true, decide_eq_true_eq] at h
  exact h.1
theorem group_size {s : ByteArray} (h : groupB s = true) : 0 < s.size ∧ s.size ≤ 8 := by
  unfold groupB at h
  simp only [Bool.and_eq_true, decide_eq_true_eq] at h
  exact ⟨(plain_size h.1).1, h.2⟩
theorem hasPrefix_cut {s p : List UInt8} (h : Lib.hasPrefix s p = true) : s = p ++ Lib.trimPrefix s p := by
  unfold Lib.trimPrefix
  rw [if_pos h]
  unfold Lib.hasPrefix at h
  rw [List.isPrefixOf_iff_prefix] at h
  obtain ⟨t, rfl⟩ := h
  simp
theorem own_size {p s : ByteArray} (hp : p.size ≤ 7) (h : ownB p s = true) : 0 < s.size ∧ s.size ≤ 15 := by
  unfold ownB at h
  simp only [Bool.and_eq_true] at h
  have h1 := hasPrefix_cut h.1
  have h2 := group_size h.2
  have h3 : (cutB p s).size = (Lib.trimPrefix s.data.toList p.data.toList).length := by unfold cutB; show (List.toArray _).size = _; simp
  have h4 := congrArg List.length h1
  rw [List.length_append, bytes_len, bytes_len] at h4
  omega
theorem topic_size {s : ByteArray} (h : topicB s = true) : 0 < s.size ∧ s.size ≤ 16 := by
  unfold topicB ofM at h
  by_cases h1 : ownB headR s = true
  · have := own_size (p := headR) (by decide) h1; omega
  · by_cases h2 : ownB headD s = true
    · have := own_size (p := headD) (by decide) h2; omega
    · simp [h1, h2] at h
      exact plain_size h
theorem tag_size {s : ByteArray} (h : tagB s = true) : s.size ≤ 16 := by
  unfold tagB at h
  simp only [Bool.or_eq_true, decide_eq_true_eq] at h
  rcases h with h | h
  · omega
  · exact (plain_size h).2
theorem key_size {s : ByteArray} (h : keyB s = true) : 0 < s.size ∧ s.size ≤ 16 := by
  unfold keyB at h
  simp only [Bool.and_eq_true, decide_eq_true_eq] at h
  exact h.1

theorem not_bad {n : Int} (h : numBad n = false) : 0 ≤ n ∧ n ≤ 1099511627776 := by
  unfold numBad at h
  simp only [Bool.or_eq_false_iff, decide_eq_false_iff_not] at h
  omega

/-- What is known of a record that may be, and is no filler. -/
structure RightFacts (m : MsgM) : Prop where
  kind0 : 1 ≤ m.kind
  kind : m.kind ≤ 4
  due0 : 0 ≤ m.due
  due : m.due ≤ 1099511627776
  ref0 : 0 ≤ m.ref
  ref : m.ref ≤ 1099511627776
  born0 : 0 ≤ m.born
  born : m.born ≤ 1099511627776
  queue0 : 0 ≤ m.queue
  queue : m.queue < 3
  retry0 : 0 ≤ m.retry
  retry : m.retry ≤ 4
  topic : m.topic.size ≤ 16
  tag : m.tag.size ≤ 16
  body : m.body.size ≤ 200
  keys : m.keys.length ≤ 3
  key : ∀ k ∈ m.keys, k.size ≤ 16
  carries : m.kind = 1 ∨ m.kind = 2 ∨ m.kind = 3 → Carries m

theorem right_facts {m : MsgM} (h : rightM m = true) : RightFacts m := by
  unfold rightM at h
  simp only [Bool.and_eq_true, Bool.not_eq_true', Bool.or_eq_false_iff] at h
  obtain ⟨⟨⟨h1, h2⟩, h3⟩, h4⟩ := h
  have h1 := not_bad h1
  have h2 := not_bad h2
  have h3 := not_bad h3
  have key : ∀ m : MsgM, Carries m → m.topic.size ≤ 16 ∧ m.tag.size ≤ 16 ∧ ∀ k ∈ m.keys, k.size ≤ 16 := fun m hc => ⟨(topic_size hc.topic).2, tag_size hc.tag, fun k hk => (key_size (hc.key k hk)).2⟩
  by_cases k1 : m.kind = 1
  · rw [if_pos k1] at h4
    simp only [Bool.and_eq_true, decide_eq_true_eq] at h4
    have hc := (carries_iff m).1 h4.1.1
    obtain ⟨t1, t2, t3⟩ := key m hc
    exact ⟨by omega, by omega, h1.1, h1.2, h2.1, h2.2, h3.1, h3.2, hc.queue0, hc.queue, hc.retry0, hc.retry, t1, t2, hc.body, hc.keys, t3, fun _ => hc⟩
  · rw [if_neg k1] at h4
    by_cases k2 : m.kind = 2 ∨ m.kind = 3
    · rw [if_pos k2] at h4
      have hc := (carries_iff m).1 h4
      obtain ⟨t1, t2, t3⟩ := key m hc
      exact ⟨by omega, by omega, h1.1, h1.2, h2.1, h2.2, h3.1, h3.2, hc.queue0, hc.queue, hc.retry0, hc.retry, t1, t2, hc.body, hc.keys, t3, fun _ => hc⟩
    · rw [if_neg k2] at h4
      by_cases k4 : m.kind = 4
      · rw [if_pos k4] at h4
        unfold cancelB at h4
        simp only [Bool.and_eq_true, decide_eq_true_eq] at h4
        obtain ⟨⟨⟨⟨⟨⟨c1, c2⟩, c3⟩, c4⟩, c5⟩, c6⟩, c7⟩ := h4
        have hk : m.keys = [] := List.eq_nil_of_length_eq_zero c7
        exact ⟨by omega, by omega, h1.1, h1.2, h2.1, h2.2, h3.1, h3.2, by omega, by omega, by omega, by omega, by omega, by omega, by omega, by omega, by simp [hk], by omega⟩
      · rw [if_neg k4] at h4
        cases h4

theorem listB_len {ks : List ByteArray} (h : ks.length ≤ 3) (hk : ∀ k ∈ ks, k.size ≤ 16) : (listB ks).length ≤ 55 := by
  have key : ∀ ks : List ByteArray, (∀ k ∈ ks, k.size ≤ 16) → (textB ks).length ≤ ks.length * 18 := by
    intro ks
    induction ks with
    | nil => simp [textB]
    | cons a l ih =>
      intro h
      have h1 := h a (by simp)
      have h2 := ih fun x hx => h x (by simp [hx])
      unfold textB at *
      simp only [List.flatMap_cons, List.length_append, be_len, bytes_len, List.length_cons, Nat.succ_mul]
      omega
  have := key ks hk
  unfold listB
  rw [List.length_append, be_len]
  omega
theorem inside_len {m : MsgM} (h : RightFacts m) : (insideB m).length ≤ 314 := by
  have h1 := listB_len h.keys h.key
  have h2 := h.topic
  have h3 := h.tag
  have h4 := h.body
  unfold insideB
  simp only [List.length_append, be_len, textB, List.flatMap_cons, List.flatMap_nil, bytes_len, List.length_nil]
  omega
theorem sealed_size (T : Nat → Int) (s : ByteArray) : (sealed T s).size = 4 + s.size := by
  unfold sealed
  rw [ByteArray.size_append, bytesOf_size, be_len]
/-- How many bytes a record has. -/
def recSize (m : MsgM) : Nat := 7 + (insideB m).length
theorem putB_len (T : Nat → Int) (m : MsgM) : (putB T m).length = recSize m := by
  unfold putB recSize
  rw [List.length_cons, List.length_append, be_len, bytes_len, sealed_size, bytesOf_size]
  omega
theorem recSize_le {m : MsgM} (h : RightFacts m) : recSize m ≤ 321 := by have := inside_len h; unfold recSize; omega
theorem recSize_ge (m : MsgM) : 7 ≤ recSize m := by unfold recSize; omega
end Go.Proofs.YtljgifbnmgpdbaaGreatDoor

namespace Go.Proofs.YtljgifbnmgpdbaaGreatDoor
open Go Go.Proofs Go.RowKit Go.Maps Go.Sort Go.Shelf

section
variable {P : Program} {ρ : Ren}

/-- An iterator value, for callers whose rounds leave all that lay in w. -/
def SeqGivesJ {α : Type} (F : Fence) (n : Nat) (P : Program) (g : Nat) (lb : Array Value) (enc : α → Value) (S : List α → Prop) (N : Nat) (w : World) : Prop :=
  ∀ (l : Nat) (J : List α → World → Prop) (W : World), Below w.heap.size w W → AbidesFrom W.heap.size J → (∀ s W', J s W' → Below w.heap.size w W') →
    (∀ pre x W1, J pre W1 → pre.length < N → YieldAt F (n - 1) P l #[enc x] W1 fun e W' => e = .returned (.bool true) ∧ J (pre ++ [x]) W' ∧ KeepsWalks W1 W') →
    J [] W →
    CallsIn F n P g (#[.func (.yield l) #[] #[]] ++ lb) W fun e W' => (∃ v, e = .returned v) ∧ ∃ xs, S xs ∧ J xs W'

set_option maxRecDepth 100000 in
set_option maxHeartbeats 2000000 in
theorem appendSeqJ_in (L : SlLaysZ.n11 P ρ) (F : Fence) (n : Nat) (h11 : F.fn (ρ.f 11)) (hro : F.round = none) (hn : 2 ≤ n) (g : Nat) (lb : Array Value) (hFg : F.fn g) (eg : ∀ args w, (callFunc g args).run P w = .ok (.enter g args) w)
    (S : List (List UInt8) → Prop) (N : Nat) (hN : N ≤ maxLen) (hNb : N * 16 ≤ 140737488355328) (w : World) (hseq : SeqGivesJ F (n - 1) P g lb encStr S N w) :
    CallsIn F n P (ρ.f 11) #[.slice none 0 0, .func (.func g) #[] lb] w fun e w' => ∃ (v : Value) (ss : List (List UInt8)), e = .returned v ∧ S ss ∧ w'.ownsRow w.heap.size (ρ.t 26) 1 v ss.length (ss.map encStr) ∧ (v = .slice none 0 0 ↔ ss = []) ∧ Below w.heap.size w w' := by
  have h1 : 1 ≤ n := by omega
  have mixed := L.mixed; have t0 := L.t0; have a0 := L.a0; have z0 := L.z0; have v0 := L.v0; have t24 := L.t24; have a24 := L.a24; have z24 := L.z24; have v24 := L.v24; have t26 := L.t26; have a26 := L.a26; have z26 := L.z26; have v26 := L.v26; have t28 := L.t28; have a28 := L.a28; have z28 := L.z28; have v28 := L.v28
  have hne : ρ.t 24 ≠ ρ.t 26 := fun e => by have h := L.t24; rw [e, L.t26] at h; cases h
  have u0 := run_underlying L.t0; have u24 := run_underlying L.t24; have u26 := run_underlying L.t26; have u28 := run_underlying L.t28
  obtain ⟨_, _, FG⟩ := L.f11
  refine callsIn_of_wp_marks FG rfl h11 ?_ hro
  simp only [SlBodyZ.n11_ntmps ρ, List.size_toArray, List.length_cons, List.length_nil, Nat.reduceAdd, Nat.reduceSub, Array.replicate_succ, Array.replicate_zero, List.push_toArray, List.append_toArray, List.nil_append, List.cons_append]
  gi_wp2
  refine wpIn_rangeFunc ?_
  intro fn hfn
  rw [hro]
  obtain ⟨W0, hW0⟩ : ∃ W0, w.alloc (.cells #[.slice none 0 0] (ρ.t 24)) = W0 := ⟨_, rfl⟩
  have hs0 : W0.heap.size = w.heap.size + 1 := by rw [← hW0]; simp
  have hv0 : W0.heap[w.heap.size]? = some (.cells #[.slice none 0 0] (ρ.t 24) (0, 0)) := by rw [← hW0]; exact World.alloc_heap_new w _
  have hb0 : Below w.heap.size w W0 := by rw [← hW0]; exact (Below.refl _ w).alloc (Nat.le_refl _) _
  rw [hW0]
  obtain ⟨W1, hW1⟩ : ∃ W1, (W0.alloc (.deferred (some []))).alloc (.loop (AnyZ.apRec ρ fn (.func (.func g) #[] lb) w.heap.size W0.heap.size .ready none)) = W1 := ⟨_, rfl⟩
  have hold : ∀ k, k < W0.heap.size → W1.heap[k]? = W0.heap[k]? := fun k hk => by
    rw [← hW1]; exact (Below.heap_alloc _ _ k (by simp; omega)).trans (Below.heap_alloc _ _ k hk)
  have hb1 : Below w.heap.size w W1 := by rw [← hW1]; exact (hb0.alloc hb0.size _).alloc (by have := hb0.size; simp; omega) _
  have hs1 : W1.heap.size = W0.heap.size + 2 := by rw [← hW1]; simp
  have hM : AnyZ.ApAt ρ w fn (.func (.func g) #[] lb) w.heap.size (W0.heap.size + 1) W0.heap.size [] W1 :=
    ⟨⟨_, (hold w.heap.size (by omega)).trans hv0, ⟨rfl, .inl ⟨rfl, rfl⟩⟩, by simp⟩,
     by rw [← hW1]; have := World.alloc_heap_new (W0.alloc (.deferred (some []))) (.loop (AnyZ.apRec ρ fn (.func (.func g) #[] lb) w.heap.size W0.heap.size .ready none)); rwa [World.size_alloc] at this,
     by rw [← hW1]; exact (Below.heap_alloc _ _ _ (by simp)).trans (World.alloc_heap_new W0 _), hb1⟩
  refine ⟨W0.heap.size + 1, [{ target := .collected W0.heap.size, args := #[] }], W1, { target := .fn (.func g) lb, args := #[.func (.yield (W0.heap.size + 1)) #[] #[]] }, W1, g,
    #[.func (.yield (W0.heap.size + 1)) #[] #[]] ++ lb, W1, ?_, ?_, ?_, ?_, fun _ => h1, ?_⟩
  · rw [← hW1]; exact run_enterLoop_outer _ _ _ _ _
  · simp [resolve, go_sem]
  · intro f' hf'; simp [Target.leads] at hf'; subst hf'; exact hFg
  · simp [invoke, go_sem, eg]
  · refine (hseq (W0.heap.size + 1) (AnyZ.ApAt ρ w fn (.func (.func g) #[] lb) w.heap.size (W0.heap.size + 1) W0.heap.size) W1 hb1 (AnyZ.ap_abides ρ _ _ _ _ _ _ _ hb1.size) (fun _ _ h => h.below)
      (fun pre x W hJ hl => AnyZ.apYield { L with } F (n - 1 - 1) w fn hfn _ w.heap.size (W0.heap.size + 1) W0.heap.size (by omega) (by omega) (by omega) (Nat.le_refl _) (by omega) N hN hNb pre x W hJ hl) hM).mono ?_
    rintro e W2 ⟨⟨v0, rfl⟩, ss, hS, h2⟩
    obtain ⟨v, hv, hrow, hnil⟩ := h2.box
    have hend := run_endLoop (P := P) h2.L (by simp [AnyZ.apRec])
    obtain ⟨W3, hW3⟩ : ∃ W3, W2.putObj (W0.heap.size + 1) (.loop { AnyZ.apRec ρ fn (.func (.func g) #[] lb) w.heap.size W0.heap.size .ready none with state := .exhausted }) = W3 := ⟨_, rfl⟩
    rw [hW3] at hend
    have hg3 : W2.grownBy W3 (some (W0.heap.size + 1)) := by rw [← hW3]; exact grownBy_putObj_a _ _ _
    have hv3 : W3.heap[w.heap.size]? = some (.cells #[v] (ρ.t 24) (0, 0)) := by rw [← hW3]; exact (World.putObj_heap_other (by omega)).trans hv
    have hK3 : W3.heap[W0.heap.size]? = some (.deferred (some [])) := by rw [← hW3]; exact (World.putObj_heap_other (by omega)).trans h2.K
    have hrow3 := hrow.kept hg3 (ownsRow_ne_a hrow h2.L (fun cur e => by first | cases e | exact hne (Obj.cells.inj e).2.1))
    have hb3 : Below w.heap.size w W3 := h2.below.grown hg3 h2.below.size (fun k e => by cases e; omega)
    obtain ⟨hc3, hf3⟩ := cell_of_box_a hv3
    clear hW3
    refine ⟨none, W3, hend, ?_⟩
    gi_wp2
    rw [← hs0]
    refine ⟨by simp, .inl ⟨_, _, rfl, run_takeDeferred hK3, ?_⟩⟩
    exact ⟨_, results_tmp rfl _ _ _, v, ss, rfl, hS, hrow3.kept (grownBy_putObj_a _ _ _) (ownsRow_ne_a hrow3 hK3 (fun cur e => by first | cases e | exact hne (Obj.cells.inj e).2.1)), hnil, hb3.grown (grownBy_putObj_a _ _ _) hb3.size (fun k e => by cases e; omega)⟩

set_option maxHeartbeats 1000000 in
theorem collectJ_in (L : SlLaysZ.n8 P ρ) (F : Fence) (n : Nat) (h8 : F.fn (ρ.f 8)) (h11 : F.fn (ρ.f 11)) (hro : F.round = none) (hn : 3 ≤ n) (g : Nat) (lb : Array Value) (hFg : F.fn g) (eg : ∀ args w, (callFunc g args).run P w = .ok (.enter g args) w)
    (S : List (List UInt8) → Prop) (N : Nat) (hN : N ≤ maxLen) (hNb : N * 16 ≤ 140737488355328) (w : World) (hseq : SeqGivesJ F (n - 1 - 1) P g lb encStr S N w) :
    CallsIn F n P (ρ.f 8) #[.func (.func g) #[] lb] w fun e w' => ∃ (v : Value) (ss : List (List UInt8)), e = .returned v ∧ S ss ∧ w'.ownsRow w.heap.size (ρ.t 26) 1 v ss.length (ss.map encStr) ∧ (v = .slice none 0 0 ↔ ss = []) ∧ Below w.heap.size w w' := by
  have h1 : 1 ≤ n := by omega
  have e11 : ∀ args w, (callFunc (ρ.f 11) args).run P w = .ok (.enter (ρ.f 11) args) w := L.f11.enters rfl
  have mixed := L.mixed; have t0 := L.t0; have a0 := L.a0; have z0 := L.z0; have v0 := L.v0; have t24 := L.t24; have a24 := L.a24; have z24 := L.z24; have v24 := L.v24; have t26 := L.t26; have a26 := L.a26; have z26 := L.z26; have v26 := L.v26; have t28 := L.t28; have a28 := L.a28; have z28 := L.z28; have v28 := L.v28
  have u0 := run_underlying L.t0; have u24 := run_underlying L.t24; have u26 := run_underlying L.t26; have u28 := run_underlying L.t28
  obtain ⟨_, _, FG⟩ := L.f8
  refine callsIn_of_wp FG rfl h8 ?_ hro
  simp only [SlBodyZ.n8_ntmps ρ, List.size_toArray, List.length_cons, List.length_nil, Nat.reduceAdd, Nat.reduceSub, Array.replicate_succ, Array.replicate_zero, List.push_toArray, List.append_toArray, List.nil_append, List.cons_append]
  gi_wp2_with (gi_at_fn (ρ.f 11); refine (appendSeqJ_in { L with } F (n - 1) h11 hro (by omega) g lb hFg eg S N hN hNb _ hseq).mono ?_; rintro e w' ⟨v, ss, rfl, hS, hrow, hnil, hb⟩)
  go_ret
  exact ⟨v, ss, rfl, hS, hrow, hnil, hb⟩

set_option maxRecDepth 100000 in
set_option maxHeartbeats 2000000 in
theorem sortedJ_in (L : SlLaysZ.n6 P ρ) (F : Fence) (n : Nat) (h6 : F.fn (ρ.f 6)) (h8 : F.fn (ρ.f 8)) (h9 : F.fn (ρ.f 9)) (h11 : F.fn (ρ.f 11)) (hro : F.round = none) (hn : 4 ≤ n) (hsort : AnyZ.SortsIn P ρ F (n - 1)) (e9 : ∀ args w, (callFunc (ρ.f 9) args).run P w = .ok (.enter (ρ.f 9) args) w) (g : Nat) (lb : Array Value) (hFg : F.fn g) (eg : ∀ args w, (callFunc g args).run P w = .ok (.enter g args) w)
    (S : List (List UInt8) → Prop) (N : Nat) (hN : N ≤ maxLen) (hNb : N * 16 ≤ 140737488355328) (w : World) (hSN : ∀ ss, S ss → ss.length ≤ N) (hseq : SeqGivesJ F (n - 1 - 1 - 1) P g lb encStr S N w) :
    CallsIn F n P (ρ.f 6) #[.func (.func g) #[] lb] w fun e w' => ∃ (v : Value) (ss : List (List UInt8)), e = .returned v ∧ S ss ∧
      w'.ownsRow w.heap.size (ρ.t 26) 1 v ss.length ((ss.mergeSort (fun x y => decide (x ≤ y))).map encStr) ∧ (v = .slice none 0 0 ↔ ss = []) ∧ Below w.heap.size w w' := by
  have h1 : 1 ≤ n := by omega
  have e8 : ∀ args w, (callFunc (ρ.f 8) args).run P w = .ok (.enter (ρ.f 8) args) w := L.f8.enters rfl
  have mixed := L.mixed; have t0 := L.t0; have a0 := L.a0; have z0 := L.z0; have v0 := L.v0; have t24 := L.t24; have a24 := L.a24; have z24 := L.z24; have v24 := L.v24; have t26 := L.t26; have a26 := L.a26; have z26 := L.z26; have v26 := L.v26; have t28 := L.t28; have a28 := L.a28; have z28 := L.z28; have v28 := L.v28
  have u0 := run_underlying L.t0; have u24 := run_underlying L.t24; have u26 := run_underlying L.t26; have u28 := run_underlying L.t28
  obtain ⟨_, _, FG⟩ := L.f6
  refine callsIn_of_wp FG rfl h6 ?_ hro
  simp only [SlBodyZ.n6_ntmps ρ, List.size_toArray, List.length_cons, List.length_nil, Nat.reduceAdd, Nat.reduceSub, Array.replicate_succ, Array.replicate_zero, List.push_toArray, List.append_toArray, List.nil_append, List.cons_append]
  gi_wp2_with (gi_at_fn (ρ.f 8); refine (collectJ_in { L with } F (n - 1) h8 h11 hro (by omega) g lb hFg eg _ N hN hNb _ hseq).mono ?_; rintro e W ⟨v, ss, rfl, hS, hrow, hnil, hb⟩; have hlen := hSN ss hS)
  rcases hrow.2 with ⟨rfl, hz⟩ | ⟨gb, cap, cur, rfl, hbase, hgb, r1, r2, r3, r4⟩
  · -- nothing came: the nil slice is sorted and handed back
    have hss : ss = [] := List.eq_nil_of_length_eq_zero hz
    subst hss
    gi_wp2_with (gi_at_fn (ρ.f 9); refine (hsort.2 none 0 W).mono ?_; rintro e w' ⟨rfl, rfl⟩)
    go_ret
    exact ⟨.slice none 0 0, [], rfl, hS, by simpa using hrow, by simp, hb⟩
  · have hH : Holds encStr W gb 0 ss.toArray := holds_of_block hgb (by simpa using r4)
    have hgl : gb < W.heap.size := (Array.getElem?_eq_some_iff.1 hgb).1
    have hsz : ss.length < 4611686018427387904 := by omega
    have cS := hsort.1 gb 0 cap ss W hH hgl hsz
    gi_wp2_with (gi_at_fn (ρ.f 9); refine cS.mono ?_; rintro e w' ⟨rfl, nn, os, rfl⟩)
    go_ret
    exact ⟨_, ss, rfl, hS, ownsRow_sorted (by simp) hbase hgb r1 r2 r3, hnil, hb.grown (grownBy_sorted _) hb.size (fun j hj => by cases hj; exact hbase)⟩

end
end Go.Proofs.YtljgifbnmgpdbaaGreatDoor

namespace Go.Proofs.YtljgifbnmgpdbaaGreatDoor
open Go Go.RowKit

set_option maxRecDepth 100000 in
set_option maxHeartbeats 1000000 in
theorem numbad_ok (w : World) (n : Int) : Calls Tryz.prog 275 #[.int .i64 n] w fun e w' => e = .returned (.bool (numBad n)) ∧ w = w' := by
  by_cases h1 : n < 0
  · have hd : decide (n < 0) = true := by simpa using h1
    have HB := Lib.hid (show numBad n = true by simp [numBad, h1])
    clear h1
    go_enter Tryz.func275, Tryz.ntmps275
    go_wp2_with fail
    go_ret
    rw [HB.out]
    exact ⟨rfl, rfl⟩
  · have hd : decide (n < 0) = false := by simpa using h1
    obtain ⟨b, hb⟩ : ∃ b, b = decide ((1099511627776 : Int) < n) := ⟨_, rfl⟩
    have HB := Lib.hid (show numBad n = b by rw [hb]; simp [numBad, h1])
    cases b with
    | true =>
      have hd2 : decide ((1099511627776 : Int) < n) = true := hb.symm
      clear h1 hb
      go_enter Tryz.func275, Tryz.ntmps275
      go_wp2_with fail
      go_ret
      rw [HB.out]
      exact ⟨rfl, rfl⟩
    | false =>
      have hd2 : decide ((1099511627776 : Int) < n) = false := hb.symm
      clear h1 hb
      go_enter Tryz.func275, Tryz.ntmps275
      go_wp2_with fail
      go_ret
      rw [HB.out]
      exact ⟨rfl, rfl⟩

def firstBad (l : List Int) : Int := match l.findIdx? numBad with
  | some i => i
  | none => -1
theorem firstBad_none {l : List Int} (h : l.all (fun n => !numBad n) = true) : firstBad l = -1 := by
  have : l.findIdx? numBad = none := by
    rw [List.findIdx?_eq_none_iff]
    intro x hx
    have := List.all_eq_true.1 h x hx
    simpa using this
  unfold firstBad
  rw [this]
theorem firstBad_some {l : List Int} {j : Nat} (hj : j < l.length) (hb : numBad l[j] = true) (h : (l.take j).all (fun n => !numBad n) = true) : firstBad l = j := by
  have : l.findIdx? numBad = some j := by
    rw [List.findIdx?_eq_some_iff_getElem]
    refine ⟨hj, hb, fun i hi => ?_⟩
    have hi2 : i < (l.take j).length := by rw [List.length_take]; omega
    have := List.all_eq_true.1 h (l.take j)[i] (List.getElem_mem hi2)
    rw [List.getElem_take] at this
    simpa using this
  unfold firstBad
  rw [this]
theorem firstBad_neg (l : List Int) : decide (firstBad l ≥ 0) = l.any numBad := by
  cases h : l.any numBad with
  | false =>
    have : l.all (fun n => !numBad n) = true := by
      rw [List.all_eq_true]; intro x hx
      have := List.any_eq_false.1 h x hx
      simpa using this
    rw [firstBad_none this]; rfl
  | true =>
    rw [List.any_eq_true] at h
    obtain ⟨x, hx, hb⟩ := h
    cases hf : l.findIdx? numBad with
    | none =>
      rw [List.findIdx?_eq_none_iff] at hf
      rw [hf x hx] at hb; cases hb
    | some i =>
      have : firstBad l = (i : Int) := by unfold firstBad; rw [hf]
      rw [this]; simp

set_option maxRecDepth 100000 in
set_option maxHeartbeats 1000000 in
theorem indexI_ok (w : World) (l : List Int) (b off cap : Nat) (hc : ∀ i x, l[i]? = some x → w.cell? ⟨b, off + i, none⟩ = some (.int .i64 x)) (hl : l.length ≤ 1000) :
    Calls Tryz.prog 165 #[.slice (some ⟨b, off, none⟩) l.length cap, .func (.func 275) #[] #[]] w fun e w' => e = .returned (.int .i64 (firstBad l)) ∧ w = w' := by
  have HX := Lib.hid (And.intro hc hl)
  have eg : ∀ args w, (callFunc 275 args).run Tryz.prog w = .ok (.enter 275 args) w := enters_of Tryz.func275 (by kernel_rfl) rfl
  clear hc hl
  go_enter Tryz.func165, Tryz.ntmps165
  go_wp2_with fail
  go_loopg [8] l.length (fun k vi wr => ∃ j : Nat, j + k = l.length ∧ vi = .int .i64 j ∧ (l.take j).all (fun n => !numBad n) = true ∧ w = wr)
  case atStart => exact ⟨0, by omega, by go_num, by simp, rfl⟩
  case round =>
    obtain ⟨j, hj, rfl, ha, rfl⟩ := hrel
    have HJ := Lib.hid (And.intro hj ha)
    clear hj ha
    by_cases hlt : j < l.length
    · have BJ : (j : Int) ≤ 1000 := by have := HX.out.2; omega
      have hcx := HX.out.1 j _ (List.getElem?_eq_getElem hlt)
      obtain ⟨x, hx⟩ : ∃ x, x = l[j] := ⟨_, rfl⟩
      rw [← hx] at hcx
      have hk := fun (W : World) => numbad_ok W x
      obtain ⟨y, hy⟩ : ∃ y, y = numBad x := ⟨_, rfl⟩
      rw [← hy] at hk
      have HXX := Lib.hid (And.intro hx hy)
      clear hx hy
      cases y with
      | false =>
        go_wp2_with fail
        refine (hk w).mono ?_
        rintro e w' ⟨rfl, rfl⟩
        go_wp2_with fail
        go_roundg (l.length - (j + 1))
        case measure => have := HJ.out.1; omega
        case rel =>
          refine ⟨j + 1, by have := HJ.out.1; omega, by go_num, ?_, rfl⟩
          rw [List.take_succ_eq_append_getElem hlt, List.all_append, HJ.out.2, ← HXX.out.1]
          simp [← HXX.out.2]
      | true =>
        go_wp2_with fail
        refine (hk w).mono ?_
        rintro e w' ⟨rfl, rfl⟩
        go_wp2_with fail
        go_ret
        rw [firstBad_some hlt (by rw [← HXX.out.1, ← HXX.out.2]) HJ.out.2]
        exact ⟨rfl, rfl⟩
    · have hjn : j = l.length := by have := HJ.out.1; omega
      subst hjn
      go_wp2_with fail
      go_ret
      have := HJ.out.2
      rw [List.take_length] at this
      rw [firstBad_none this]
      exact ⟨rfl, rfl⟩

set_option maxRecDepth 100000 in
set_option maxHeartbeats 1000000 in
theorem nums_ok (w : World) (l : List Int) (b off cap : Nat) (hc : ∀ i x, l[i]? = some x → w.cell? ⟨b, off + i, none⟩ = some (.int .i64 x)) (hl : l.length ≤ 1000) :
    Calls Tryz.prog 241 #[.slice (some ⟨b, off, none⟩) l.length cap] w fun e w' => e = .returned (.bool (!(l.any numBad))) ∧ w = w' := by
  have hcon : Calls Tryz.prog 274 #[.slice (some ⟨b, off, none⟩) l.length cap, .func (.func 275) #[] #[]] w fun e w' => e = .returned (.bool (l.any numBad)) ∧ w = w' := by
    have hi := indexI_ok w l b off cap hc hl
    have hn := firstBad_neg l
    obtain ⟨I, hI⟩ : ∃ I, I = firstBad l := ⟨_, rfl⟩
    rw [← hI] at hi hn
    have HN := Lib.hid hn
    clear hI hn hc hl
    go_enter Tryz.func274, Tryz.ntmps274
    go_wp2_with fail
    refine hi.mono ?_
    rintro e w' ⟨rfl, rfl⟩
    go_wp2_with fail
    go_ret
    rw [← HN.out]
    exact ⟨rfl, rfl⟩
  obtain ⟨y, hy⟩ : ∃ y, y = l.any numBad := ⟨_, rfl⟩
  rw [← hy] at hcon ⊢
  clear hc hl hy
  go_enter Tryz.func241, Tryz.ntmps241
  go_wp2_with fail
  refine hcon.mono ?_
  rintro e w' ⟨rfl, rfl⟩
  go_wp2_with fail
  go_ret
  exact ⟨rfl, rfl⟩
end Go.Proofs.YtljgifbnmgpdbaaGreatDoor
