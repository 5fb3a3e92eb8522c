/- Layer 6 (rec): the record of what was sealed. (Here too: Layer 7 (entry): put, get. Layer 6 (rec): fillers; what is sealed. Layer 6 (rec): what is sealed. Layer 6 (rec): when a record may be. Layer 6 (rec): a record's bytes. Layer 6 (rec): Put. A region whose first operations leave a world of a class, and whose last come one behind the other: one walk in the text's order serves every order of the first. Plain; over any program.) -/
import Derived.Test.YtljgifbnmgpdbaaGreatDoorZc08
import Derived.StillTail
import Derived.Deep.Quiet
set_option linter.unusedSimpArgs false
set_option linter.unusedVariables false
set_option linter.unnecessarySimpa false
namespace Go.Proofs.YtljgifbnmgpdbaaGreatDoor
open Go Go.RowKit

theorem heap_at (w : World) (o : Obj) (b : Nat) (h : b = w.heap.size) : (w.alloc o).heap[b]? = some o := by subst h; exact heap_alloc_at w o

def wideB (l : List (Nat × Nat)) : List UInt8 := l.flatMap fun p => be p.1 p.2
theorem wideB_cons (p : Nat × Nat) (l : List (Nat × Nat)) : wideB (p :: l) = be p.1 p.2 ++ wideB l := rfl
theorem wideB_len : ∀ (l : List (Nat × Nat)), (∀ p ∈ l, p.1 ≤ 7) → (wideB l).length ≤ l.length * 7
  | [], _ => by simp [wideB]
  | p :: l, h => by
    have h1 := h p (by simp)
    have h2 := wideB_len l fun x hx => h x (by simp [hx])
    rw [wideB_cons, List.length_append, be_len, List.length_cons, Nat.succ_mul]
    omega

set_option maxRecDepth 100000 in
set_option maxHeartbeats 1000000 in
theorem eput_ok (w : World) (l : List (Nat × Nat)) (b cap : Nat) (hc : ∀ i p, l[i]? = some p → w.cell? ⟨b, i * 2, none⟩ = some (.int .i64 (p.1 : Nat)) ∧ w.cell? ⟨b, i * 2 + 1, none⟩ = some (.int .i64 (p.2 : Nat)))
    (hl : l.length ≤ 100) (hx : ∀ p ∈ l, 1 ≤ p.1 ∧ p.1 ≤ 7 ∧ p.2 < 256 ^ p.1) :
    Calls Tryz.prog 206 #[.slice (some ⟨b, 0, none⟩) l.length cap] w fun e w' => e = .returned (.tuple #[.string (bytesOf (wideB l)), .bool true]) ∧ Touch [] w w' := by
  have HX := Lib.hid (And.intro hc (And.intro hl hx))
  clear hc hl hx
  go_enter Tryz.func206, Tryz.ntmps206
  go_wp2_with fail
  go_loopg [4, 11] l.length (fun k vo vi wr => ∃ (j : Nat) (s : ByteArray), j + k = l.length ∧ vi = .int .i64 j ∧ vo = .string s ∧ s = bytesOf (wideB (l.take j)) ∧ Touch [] w wr)
  case atStart => exact ⟨0, _, by omega, by go_num, rfl, rfl, Touch.refl _ _⟩
  case round =>
    obtain ⟨j, s, hj, rfl, rfl, hs, hT⟩ := hrel
    have HJ := Lib.hid (And.intro hj (And.intro hs hT))
    clear hj hs
    by_cases hlt : j < l.length
    · have BJ : (j : Int) ≤ 100 := by have := HX.out.2.1; omega
      have BS : (s.size : Int) ≤ 700 := by
        have h1 := wideB_len (l.take j) fun p hp => (HX.out.2.2 p (List.mem_of_mem_take hp)).2.1
        have h2 : s.size = (wideB (l.take j)).length := by rw [HJ.out.2.1, bytesOf_size]
        rw [List.length_take] at h1
        have := HX.out.2.1
        omega
      obtain ⟨n, x, hp⟩ : ∃ n x, l[j] = (n, x) := ⟨_, _, rfl⟩
      obtain ⟨c0, c1⟩ := HX.out.1 j _ (List.getElem?_eq_getElem hlt)
      have c0 := hT.cell c0 (by simp)
      have c1 := hT.cell c1 (by simp)
      rw [hp] at c0 c1
      have HP := Lib.hid hp
      clear hp hT
      go_wp2_with fail
      have hb := HX.out.2.2 l[j] (List.getElem_mem hlt)
      rw [HP.out] at hb
      refine (num_ok _ n hb.1 hb.2.1 [x] _ 0 1 ?hc (by simp) (by simp; exact hb.2.2)).mono ?_
      case hc =>
        intro i y hi
        match i, hi with
        | 0, hi =>
          have : x = y := by simpa using hi
          subst this
          exact cell_of (heap_at _ _ _ (by simp)) 0 _ rfl
        | i + 1, hi => simp at hi
      rintro e w2 ⟨rfl, hT2⟩
      have hT3 : Touch [] wr w2 := (((Touch.refl [] wr).alloc _).alloc _).trans' hT2
      obtain ⟨p, hpd⟩ : ∃ p : ByteArray, p = ⟨([x].flatMap (be n)).toArray⟩ := ⟨_, rfl⟩
      rw [← hpd]
      have hps : p.size ≤ 7 := by
        rw [hpd]; show ([x].flatMap (be n)).toArray.size ≤ 7
        simp [be_len]; exact hb.2.1
      have BP : (p.size : Int) ≤ 7 := by omega
      have HT := Lib.hid (And.intro hT3 hpd)
      clear hT2 hT3 hpd hps hb
      go_wp2_with fail
      go_roundg (l.length - (j + 1))
      case measure => have := HJ.out.1; omega
      case rel =>
        refine ⟨j + 1, s ++ p, by have := HJ.out.1; omega, by go_num, rfl, ?_, HJ.out.2.2.trans' HT.out.1⟩
        rw [List.take_succ_eq_append_getElem hlt, HP.out, HJ.out.2.1, HT.out.2]
        unfold wideB
        rw [List.flatMap_append, bytesOf_append]
        simp [bytesOf]
    · have hjn : j = l.length := by have := HJ.out.1; omega
      subst hjn
      go_wp2_with fail
      go_ret2
      have := HJ.out.2.1
      rw [List.take_length] at this
      rw [this]
      exact ⟨rfl, HJ.out.2.2⟩

/-- A block of one width. -/
def widthCells (n x : Nat) : Obj := .cells #[.int .i64 n, .int .i64 x] 290 (0, 0)

def wideL (L : List (Nat × Nat × Nat)) : List UInt8 := L.flatMap fun p => be p.2.1 p.2.2
theorem wideL_cons (p : Nat × Nat × Nat) (L : List (Nat × Nat × Nat)) : wideL (p :: L) = be p.2.1 p.2.2 ++ wideL L := rfl
theorem wideL_len : ∀ (l : List (Nat × Nat × Nat)), (∀ p ∈ l, p.2.1 ≤ 7) → (wideL l).length ≤ l.length * 7
  | [], _ => by simp [wideL]
  | p :: l, h => by
    have h1 := h p (by simp)
    have h2 := wideL_len l fun x hx => h x (by simp [hx])
    rw [wideL_cons, List.length_append, be_len, List.length_cons, Nat.succ_mul]
    omega

set_option maxRecDepth 100000 in
set_option maxHeartbeats 1000000 in
theorem eget_ok (w : World) (L : List (Nat × Nat × Nat)) (pb cap : Nat) (hp : ∀ i p, L[i]? = some p → w.cell? ⟨pb, i, none⟩ = some (.pointer (some ⟨p.1, 0, none⟩))) (hw : ∀ p ∈ L, w.heap[p.1]? = some (widthCells p.2.1 0))
    (hnd : (L.map (·.1)).Nodup) (hpb : pb ∉ L.map (·.1)) (hl : L.length ≤ 100) (hx : ∀ p ∈ L, 1 ≤ p.2.1 ∧ p.2.1 ≤ 7 ∧ p.2.2 < 256 ^ p.2.1) :
    Calls Tryz.prog 203 #[.string (bytesOf (wideL L)), .slice (some ⟨pb, 0, none⟩) L.length cap] w fun e w' => e = .returned (.bool true) ∧ (∀ p ∈ L, w'.heap[p.1]? = some (widthCells p.2.1 p.2.2)) ∧ Touch (L.map (·.1)) w w' := by
  have HX := Lib.hid (And.intro hp (And.intro hw (And.intro hnd (And.intro hpb (And.intro hl hx)))))
  clear hp hw hnd hpb hl hx
  obtain ⟨s, hs⟩ : ∃ s, s = bytesOf (wideL L) := ⟨_, rfl⟩
  rw [← hs]
  have HS := Lib.hid hs
  clear hs
  go_enter Tryz.func203, Tryz.ntmps203
  go_wp2_with fail
  refine (rnew_ok w s).mono ?_
  rintro e w1 ⟨rfl, hr, hT1⟩
  obtain ⟨r, hrr⟩ : ∃ r, r = w.heap.size := ⟨_, rfl⟩
  rw [← hrr] at hr ⊢
  have HR := Lib.hid (And.intro hr (And.intro hT1 hrr))
  clear hr hT1 hrr
  go_wp2_with fail
  go_loopg [12] L.length (fun k vi wr => ∃ j : Nat, j + k = L.length ∧ vi = .int .i64 j ∧ RdAt wr r (bytesOf (wideL (L.drop j))) ∧ (∀ i p, L[i]? = some p → wr.heap[p.1]? = some (widthCells p.2.1 (if i < j then p.2.2 else 0))) ∧ Touch (L.map (·.1)) w wr)
  case atStart =>
    refine ⟨0, by omega, by go_num, ?_, ?_, HR.out.2.1.nil⟩
    · rw [List.drop_zero, ← HS.out]; exact HR.out.1
    · intro i p hi
      rw [if_neg (by omega)]
      exact HR.out.2.1.heap (HX.out.2.1 p (List.mem_of_getElem? hi)) (by simp)
  case round =>
    obtain ⟨j, hj, rfl, hrd, hcs, hT⟩ := hrel
    have HJ := Lib.hid (And.intro hj (And.intro hrd (And.intro hcs hT)))
    clear hj hrd hcs hT
    by_cases hlt : j < L.length
    · have BJ : (j : Int) ≤ 100 := by have := HX.out; omega
      have hget : L[j]? = some L[j] := List.getElem?_eq_getElem hlt
      obtain ⟨q, n, x, hp⟩ : ∃ q n x, L[j] = (q, n, x) := ⟨_, _, _, rfl⟩
      have hmem : (q, n, x) ∈ L := by rw [← hp]; exact List.getElem_mem hlt
      have hcp := HX.out.1 j _ hget
      have hcw := HJ.out.2.2.1 j _ hget
      rw [hp] at hcp hcw
      rw [if_neg (by omega)] at hcw
      have hcp := HJ.out.2.2.2.cell hcp HX.out.2.2.2.1
      have k0 := cell_of hcw 0 _ rfl
      have k1 := cell_of hcw 1 _ rfl
      have kf := free_of hcw 1
      have hdrop : L.drop j = (q, n, x) :: L.drop (j + 1) := by rw [← hp]; exact List.drop_eq_getElem_cons hlt
      have hb := HX.out.2.2.2.2.2 _ hmem
      have hqr : q ≠ r := by
        have := lt_of_heap (HX.out.2.1 _ hmem)
        have := HR.out.2.2
        intro e; simp only at *; omega
      have hrd := HJ.out.2.1
      rw [hdrop, wideL_cons, bytesOf_append] at hrd
      have hnum := rnum_be wr r n x (bytesOf (wideL (L.drop (j + 1)))) hrd (by
        rw [bytesOf_size]
        have h1 := wideL_len (L.drop (j + 1)) fun p hp => (HX.out.2.2.2.2.2 p (List.mem_of_mem_drop hp)).2.1
        rw [List.length_drop] at h1
        have := HX.out.2.2.2.2.1
        omega) hb.1 hb.2.1 hb.2.2
      have HP := Lib.hid (And.intro hp (And.intro hmem (And.intro hcw (And.intro hb (And.intro hqr hnum)))))
      clear hget hp hmem hcw hdrop hb hrd hnum
      go_wp2_with fail
      refine HP.out.2.2.2.2.2.mono ?_
      rintro e w2 ⟨rfl, hrd2, hT2⟩
      have hcw2 : w2.heap[q]? = some (widthCells n 0) := hT2.heap HP.out.2.2.1 (by simpa using hqr)
      have kf2 := free_of hcw2 1
      have kc2 := cell_of hcw2 1 _ rfl
      have H2 := Lib.hid (And.intro hrd2 (And.intro hT2 hcw2))
      clear hrd2 hT2 hcw2 hcp k0 k1 kf
      go_wp2_with fail
      go_roundg (L.length - (j + 1))
      case measure => have := HJ.out.1; omega
      case rel =>
        obtain ⟨hj, hrd, hcs, hT⟩ := HJ.out
        obtain ⟨hrd2, hT2, hcw2⟩ := H2.out
        obtain ⟨hp, hmem, hcw, hb, _, hnum⟩ := HP.out
        refine ⟨j + 1, by omega, by go_num, ?_, ?_, ?_⟩
        · unfold RdAt
          rw [heap_setCell_ne _ _ _ _ _ _ (fun e => hqr e.symm)]
          exact hrd2
        · intro i p hi
          by_cases e : i = j
          · subst e
            have : p = (q, n, x) := by rw [← hp]; rw [List.getElem?_eq_getElem hlt] at hi; exact (Option.some.inj hi).symm
            subst this
            rw [if_pos (by omega)]
            rw [heap_setCell_at hcw2]; rfl
          · have hne : p.1 ≠ q := by
              intro e2
              have hil : i < L.length := (List.getElem?_eq_some_iff.1 hi).1
              have h1 : (L.map (·.1))[i]'(by simpa using hil) = (L.map (·.1))[j]'(by simpa using hlt) := by
                simp only [List.getElem_map, hp]
                rw [List.getElem?_eq_getElem hil] at hi
                rw [Option.some.inj hi, e2]
              exact e ((List.getElem_inj HX.out.2.2.1).1 h1)
            rw [heap_setCell_ne _ _ _ _ _ _ hne]
            have h3 := hcs i p hi
            have hpr : p.1 ≠ r := by
              have := lt_of_heap (HX.out.2.1 _ (List.mem_of_getElem? hi))
              have := HR.out.2.2
              intro e; omega
            rw [hT2.heap h3 (by simpa using hpr)]
            by_cases e3 : i < j
            · rw [if_pos e3, if_pos (by omega)]
            · rw [if_neg e3, if_neg (by omega)]
        · have hT4 : Touch (L.map (·.1)) w w2 := hT.trans hT2 (fun y hy => by
            simp at hy; subst hy; exact .inr (by have := HR.out.2.2; omega))
          exact hT4.setCell q 1 none _ (.inl (List.mem_map.2 ⟨_, hmem, rfl⟩))
    · have hjn : j = L.length := by have := HJ.out.1; omega
      subst hjn
      have hrd : RdAt wr r ⟨#[]⟩ := by
        have := HJ.out.2.1
        rw [List.drop_length] at this
        exact this
      have HRD := Lib.hid hrd
      clear hrd
      go_wp2_with fail
      refine (rend_ok _ r HRD.out).mono ?_
      rintro e w2 ⟨rfl, rfl⟩
      go_wp2_with fail
      go_ret
      refine ⟨rfl, fun p hp => ?_, HJ.out.2.2.2⟩
      obtain ⟨i, hi, rfl⟩ := List.getElem_of_mem hp
      have := HJ.out.2.2.1 i _ (List.getElem?_eq_getElem hi)
      rw [if_pos hi] at this
      exact this
end Go.Proofs.YtljgifbnmgpdbaaGreatDoor

namespace Go.Proofs.YtljgifbnmgpdbaaGreatDoor
open Go Go.RowKit

theorem repeat_nought (n : Nat) : Lib.repeatL (ByteArray.mk #[0]).data.toList n = List.replicate n 0 := repeatL_one 0 n

set_option maxRecDepth 100000 in
set_option maxHeartbeats 1000000 in
theorem noughts_ok (w : World) (n : Nat) (hn : n ≤ 1000000) : Calls Tryz.prog 143 #[.int .i64 n] w fun e w' => e = .returned (.string (bytesOf (List.replicate n 0))) ∧ Touch [] w w' := by
  have hcon := Tryz.strings_Repeat ⟨#[0]⟩ n w (by omega) (by show 1 * n ≤ _; omega)
  rw [repeat_nought] at hcon
  go_enter Tryz.func143, Tryz.ntmps143
  go_wp2_with fail
  refine hcon.mono ?_
  rintro e w' ⟨rfl, hb⟩
  go_wp2_with fail
  go_ret
  exact ⟨rfl, Touch.of_below hb⟩

def fillB (n : Nat) : List UInt8 := 90 :: (be 2 n ++ List.replicate (n - 3) 0)
theorem fillB_len {n : Nat} (h : 3 ≤ n) : (fillB n).length = n := by
  unfold fillB
  simp only [List.length_cons, List.length_append, be_len, List.length_replicate]
  omega

set_option maxRecDepth 100000 in
set_option maxHeartbeats 1000000 in
theorem fill_ok (w : World) (n : Nat) (h3 : 3 ≤ n) (h4 : n ≤ 1024) : Calls Tryz.prog 131 #[.int .i64 n] w fun e w' => e = .returned (.tuple #[.string (bytesOf (fillB n)), .bool true]) ∧ Touch [] w w' := by
  have hd1 : decide ((n : Int) < 3) = false := by simp; omega
  have hd2 : decide ((1024 : Int) < n) = false := by simp; omega
  have B1 : (3 : Int) ≤ n := by omega
  have B2 : (n : Int) ≤ 1024 := by omega
  have HN := Lib.hid (And.intro h3 h4)
  have hsub : ((n : Int) - 3) = ((n - 3 : Nat) : Int) := by omega
  have HS := Lib.hid hsub
  clear h3 h4 hsub
  go_enter Tryz.func131, Tryz.ntmps131
  go_wp2_with fail
  refine (num_ok _ 2 (by omega) (by omega) [n] _ 0 1 ?hc (by simp) (by simp; have := HN.out; omega)).mono ?_
  case hc =>
    intro i y hi
    match i, hi with
    | 0, hi =>
      have : n = y := by simpa using hi
      subst this
      exact cell_of (heap_at _ _ _ (by simp)) 0 _ rfl
    | i + 1, hi => simp at hi
  rintro e w2 ⟨rfl, hT2⟩
  obtain ⟨p, hpd⟩ : ∃ p : ByteArray, p = ⟨([n].flatMap (be 2)).toArray⟩ := ⟨_, rfl⟩
  rw [← hpd]
  have BP : (p.size : Int) ≤ 2 := by
    have : p.size = 2 := by rw [hpd]; show ([n].flatMap (be 2)).toArray.size = 2; simp [be_len]
    omega
  have HP := Lib.hid (And.intro hpd (((Touch.refl [] w).alloc _).trans' hT2))
  clear hpd hT2
  go_wp2_with fail
  rw [HS.out]
  refine (noughts_ok w2 (n - 3) (by have := HN.out; omega)).mono ?_
  rintro e w3 ⟨rfl, hT3⟩
  obtain ⟨q, hqd⟩ : ∃ q : ByteArray, q = bytesOf (List.replicate (n - 3) 0) := ⟨_, rfl⟩
  rw [← hqd]
  have BQ : (q.size : Int) ≤ 1024 := by
    have : q.size = n - 3 := by rw [hqd, bytesOf_size, List.length_replicate]
    have := HN.out; omega
  obtain ⟨hd, hhd⟩ : ∃ hd : ByteArray, hd = ⟨#[90]⟩ := ⟨_, rfl⟩
  have HQ := Lib.hid (And.intro hqd (HP.out.2.trans' hT3))
  have hph : (⟨#[90]⟩ ++ p : ByteArray) ++ q = bytesOf (fillB n) := by
    rw [hqd, HP.out.1]
    apply bytes_ext
    simp [bytesOf, fillB, ByteArray.data_append]
  have BPH : ((⟨#[90]⟩ ++ p : ByteArray).size : Int) ≤ 3 := by
    rw [ByteArray.size_append]
    have : (ByteArray.mk #[90]).size = 1 := rfl
    omega
  have HPH := Lib.hid hph
  clear hqd hT3 hph hhd
  go_wp2_with fail
  go_ret2
  exact ⟨by rw [← HPH.out]; rfl, HQ.out.2⟩

theorem fill_bad (w : World) (n : Int) (h : n < 3 ∨ 1024 < n) : Calls Tryz.prog 131 #[.int .i64 n] w fun e w' => e = .returned (.tuple #[.string ⟨#[]⟩, .bool false]) ∧ w = w' := by
  rcases h with h | h
  · have hd : decide (n < 3) = true := by simpa using h
    go_enter Tryz.func131, Tryz.ntmps131
    go_wp2_with fail
    go_ret2
    exact ⟨rfl, rfl⟩
  · have hd : decide (n < 3) = false := by simp; omega
    have hd2 : decide ((1024 : Int) < n) = true := by simpa using h
    go_enter Tryz.func131, Tryz.ntmps131
    go_wp2_with fail
    go_ret2
    exact ⟨rfl, rfl⟩
end Go.Proofs.YtljgifbnmgpdbaaGreatDoor

namespace Go.Proofs.YtljgifbnmgpdbaaGreatDoor
open Go Go.RowKit

theorem three_cells {w : World} {b : Nat} {x y z : Nat} {t : TypeId} (h : w.heap[b]? = some (.cells #[.int .i64 x, .int .i64 y, .int .i64 z] t (0, 0))) : ∀ i v, [x, y, z][i]? = some v → w.cell? ⟨b, 0 + i, none⟩ = some (.int .i64 (v : Nat)) := by
  intro i v hi
  rw [Nat.zero_add]
  match i, hi with
  | 0, hi => simp at hi; subst hi; exact cell_of h 0 _ rfl
  | 1, hi => simp at hi; subst hi; exact cell_of h 1 _ rfl
  | 2, hi => simp at hi; subst hi; exact cell_of h 2 _ rfl
  | i + 3, hi => simp at hi

theorem three_strs {w : World} {b : Nat} {x y z : ByteArray} {t : TypeId} (h : w.heap[b]? = some (.cells #[.string x, .string y, .string z] t (0, 0))) : StrsAt w (some ⟨b, 0, none⟩) [x, y, z] := by
  intro i v hi
  refine ⟨b, 0, rfl, ?_⟩
  rw [Nat.zero_add]
  match i, hi with
  | 0, hi => simp at hi; subst hi; exact cell_of h 0 _ rfl
  | 1, hi => simp at hi; subst hi; exact cell_of h 1 _ rfl
  | 2, hi => simp at hi; subst hi; exact cell_of h 2 _ rfl
  | i + 3, hi => simp at hi

def insideN (k q d r f b : Nat) (tp tg bd : ByteArray) (ks : List ByteArray) : List UInt8 :=
  be 1 k ++ be 1 q ++ be 1 r ++ (be 6 b ++ be 6 d ++ be 6 f) ++ textB [tp, tg, bd] ++ listB ks

set_option maxRecDepth 100000 in
set_option maxHeartbeats 2000000 in
theorem inside_nat (w : World) (k q d r f b : Nat) (tp tg bd : ByteArray) (ks : List ByteArray) (kv : Value) (hk : KeysAt w kv ks) (h1 : k < 256) (h2 : q < 256) (h3 : r < 256) (h4 : d ≤ 1099511627776) (h5 : f ≤ 1099511627776) (h6 : b ≤ 1099511627776)
    (h7 : tp.size ≤ 16) (h8 : tg.size ≤ 16) (h9 : bd.size ≤ 200) (h10 : ks.length ≤ 3) (h11 : ∀ s ∈ ks, s.size ≤ 16) :
    Calls Tryz.prog 190 #[.agg #[.int .i64 k, .int .i64 q, .int .i64 d, .int .i64 r, .int .i64 f, .int .i64 b, .string tp, .string tg, .string bd, kv]] w fun e w' => e = .returned (.string (bytesOf (insideN k q d r f b tp tg bd ks))) ∧ Touch [] w w' := by
  obtain ⟨a, cp, rfl, hk⟩ := hk
  have HH := Lib.hid (And.intro h1 (And.intro h2 (And.intro h3 (And.intro h4 (And.intro h5 h6)))))
  have HG := Lib.hid (And.intro h7 (And.intro h8 (And.intro h9 (And.intro h10 h11))))
  have HK := Lib.hid hk
  clear h1 h2 h3 h4 h5 h6 h7 h8 h9 h10 h11 hk
  go_enter Tryz.func190, Tryz.ntmps190
  go_wp2_with fail
  -- the kind, the queue, the retry
  have hbx : ((w.alloc (.cells #[.int .i64 k, .int .i64 q, .int .i64 d, .int .i64 r, .int .i64 f, .int .i64 b, .string tp, .string tg, .string bd, .slice a ks.length cp] 46)).alloc (.cells #[.int .i64 k, .int .i64 q, .int .i64 r] 3)).heap[w.heap.size]? = some (.cells #[.int .i64 k, .int .i64 q, .int .i64 d, .int .i64 r, .int .i64 f, .int .i64 b, .string tp, .string tg, .string bd, .slice a ks.length cp] 46 (0, 0)) := heap_alloc_lt (heap_alloc_at w _) _
  have hT0 : Touch [] w ((w.alloc (.cells #[.int .i64 k, .int .i64 q, .int .i64 d, .int .i64 r, .int .i64 f, .int .i64 b, .string tp, .string tg, .string bd, .slice a ks.length cp] 46)).alloc (.cells #[.int .i64 k, .int .i64 q, .int .i64 r] 3)) := ((Touch.refl [] w).alloc _).alloc _
  refine (num_ok _ 1 (by omega) (by omega) [k, q, r] _ 0 3 (three_cells (heap_at _ _ _ (by simp))) (by simp) (by simp; have := HH.out; omega)).mono ?_
  rintro e w1 ⟨rfl, hT1⟩
  have hb1 := hT1.heap hbx (by simp)
  have HT1 := Lib.hid (hT0.trans' hT1)
  have HB1 := Lib.hid hb1
  have q5 := cell_of hb1 5 _ rfl
  have q2 := cell_of hb1 2 _ rfl
  have q4 := cell_of hb1 4 _ rfl
  obtain ⟨s1, hs1⟩ : ∃ s : ByteArray, s = ⟨([k, q, r].flatMap (be 1)).toArray⟩ := ⟨_, rfl⟩
  rw [← hs1]
  have B1 : (s1.size : Int) ≤ 3 := by
    have : s1.size = 3 := by rw [hs1]; show ([k, q, r].flatMap (be 1)).toArray.size = 3; simp [be_len]
    omega
  have HS1 := Lib.hid hs1
  clear hbx hT0 hT1 hb1 hs1
  go_wp2_with fail
  -- the times
  refine (num_ok _ 6 (by omega) (by omega) [b, d, f] _ 0 3 (three_cells (heap_at _ _ _ (by simp))) (by simp) (by simp; have := HH.out; omega)).mono ?_
  rintro e w2 ⟨rfl, hT2⟩
  have hT2 : Touch [] w1 w2 := ((Touch.refl [] w1).alloc _).trans' hT2
  have hb2 := hT2.heap HB1.out (by simp)
  have HT2 := Lib.hid (HT1.out.trans' hT2)
  have HB2 := Lib.hid hb2
  have q6 := cell_of hb2 6 _ rfl
  have q7 := cell_of hb2 7 _ rfl
  have q8 := cell_of hb2 8 _ rfl
  obtain ⟨s2, hs2⟩ : ∃ s : ByteArray, s = ⟨([b, d, f].flatMap (be 6)).toArray⟩ := ⟨_, rfl⟩
  rw [← hs2]
  have B2 : (s2.size : Int) ≤ 18 := by
    have : s2.size = 18 := by rw [hs2]; show ([b, d, f].flatMap (be 6)).toArray.size = 18; simp [be_len]
    omega
  have HS2 := Lib.hid hs2
  clear hT2 hb2 hs2 q5 q2 q4
  go_wp2_with fail
  -- the texts
  refine (text_ok _ [tp, tg, bd] _ 3 (three_strs (heap_at _ _ _ (by simp))) (by simp) (by simp; have := HG.out; omega)).mono ?_
  rintro e w3 ⟨rfl, hT3⟩
  have hT3 : Touch [] w2 w3 := ((Touch.refl [] w2).alloc _).trans' hT3
  have hb3 := hT3.heap HB2.out (by simp)
  have HT3 := Lib.hid (HT2.out.trans' hT3)
  have q9 := cell_of hb3 9 _ rfl
  obtain ⟨s3, hs3⟩ : ∃ s : ByteArray, s = ⟨(textB [tp, tg, bd]).toArray⟩ := ⟨_, rfl⟩
  rw [← hs3]
  have B3 : (s3.size : Int) ≤ 300 := by
    have : s3.size = (textB [tp, tg, bd]).length := by rw [hs3]; show (textB [tp, tg, bd]).toArray.size = _; simp
    have h2 : (textB [tp, tg, bd]).length = 6 + tp.size + tg.size + bd.size := by
      simp only [textB, List.flatMap_cons, List.flatMap_nil, List.length_append, be_len, bytes_len, List.length_nil]; omega
    have := HG.out
    omega
  have HS3 := Lib.hid hs3
  clear hT3 hb3 hs3 q6 q7 q8
  go_wp2_with fail
  -- the keys
  refine (list_ok w3 ks a cp (HK.out.quiet HT3.out) (by have := HG.out; omega) (fun s hs => by have := HG.out.2.2.2.2 s hs; omega)).mono ?_
  rintro e w4 ⟨rfl, hT4⟩
  have HT4 := Lib.hid (HT3.out.trans' hT4)
  obtain ⟨s4, hs4⟩ : ∃ s : ByteArray, s = ⟨(listB ks).toArray⟩ := ⟨_, rfl⟩
  rw [← hs4]
  have B4 : (s4.size : Int) ≤ 55 := by
    have : s4.size = (listB ks).length := by rw [hs4]; show (listB ks).toArray.size = _; simp
    have := listB_len HG.out.2.2.2.1 HG.out.2.2.2.2
    omega
  have HS4 := Lib.hid hs4
  have B12 : ((s1 ++ s2).size : Int) ≤ 21 := by rw [ByteArray.size_append]; omega
  have B13 : ((s1 ++ s2 ++ s3).size : Int) ≤ 321 := by rw [ByteArray.size_append]; omega
  clear hT4 hs4 q9
  go_wp2_with fail
  go_ret
  refine ⟨?_, HT4.out⟩
  have : s1 ++ s2 ++ s3 ++ s4 = bytesOf (insideN k q d r f b tp tg bd ks) := by
    rw [HS1.out, HS2.out, HS3.out, HS4.out]
    apply bytes_ext
    simp [bytesOf, insideN, ByteArray.data_append]
  rw [← this]
  rfl

theorem inside_ok (w : World) (m : MsgM) (kv : Value) (hk : KeysAt w kv m.keys) (h : RightFacts m) :
    Calls Tryz.prog 190 #[msgV m kv] w fun e w' => e = .returned (.string (bytesOf (insideB m))) ∧ Touch [] w w' := by
  have := inside_nat w m.kind.toNat m.queue.toNat m.due.toNat m.retry.toNat m.ref.toNat m.born.toNat m.topic m.tag m.body m.keys kv hk (by have := h.kind; omega) (by have := h.queue; omega) (by have := h.retry; omega) (by have := h.due; omega) (by have := h.ref; omega) (by have := h.born; omega)
    h.topic h.tag h.body h.keys h.key
  have e1 : ((m.kind.toNat : Nat) : Int) = m.kind := by have := h.kind0; omega
  have e2 : ((m.queue.toNat : Nat) : Int) = m.queue := by have := h.queue0; omega
  have e3 : ((m.due.toNat : Nat) : Int) = m.due := by have := h.due0; omega
  have e4 : ((m.retry.toNat : Nat) : Int) = m.retry := by have := h.retry0; omega
  have e5 : ((m.ref.toNat : Nat) : Int) = m.ref := by have := h.ref0; omega
  have e6 : ((m.born.toNat : Nat) : Int) = m.born := by have := h.born0; omega
  rw [e1, e2, e3, e4, e5, e6] at this
  exact this
end Go.Proofs.YtljgifbnmgpdbaaGreatDoor

namespace Go.Proofs.YtljgifbnmgpdbaaGreatDoor
open Go Go.RowKit

theorem three_ints {w : World} {b : Nat} {x y z : Int} {t : TypeId} (h : w.heap[b]? = some (.cells #[.int .i64 x, .int .i64 y, .int .i64 z] t (0, 0))) : ∀ i v, [x, y, z][i]? = some v → w.cell? ⟨b, 0 + i, none⟩ = some (.int .i64 v) := by
  intro i v hi
  rw [Nat.zero_add]
  match i, hi with
  | 0, hi => simp at hi; subst hi; exact cell_of h 0 _ rfl
  | 1, hi => simp at hi; subst hi; exact cell_of h 1 _ rfl
  | 2, hi => simp at hi; subst hi; exact cell_of h 2 _ rfl
  | i + 3, hi => simp at hi

def msgObj (m : MsgM) (kv : Value) : Obj := .cells #[.int .i64 m.kind, .int .i64 m.queue, .int .i64 m.due, .int .i64 m.retry, .int .i64 m.ref, .int .i64 m.born, .string m.topic, .string m.tag, .string m.body, kv] 46 (0, 0)


set_option maxRecDepth 100000 in
set_option maxHeartbeats 4000000 in
theorem right_ok (w : World) (m : MsgM) (kv : Value) (hk : KeysAt w kv m.keys) (hl : m.keys.length ≤ 1000) (h0 : m.kind ≠ 0) :
    Calls Tryz.prog 188 #[msgV m kv] w fun e w' => e = .returned (.bool (rightM m)) ∧ Touch [] w w' := by
  have HK := Lib.hid (And.intro hk hl)
  have H0 := Lib.hid h0
  have hd0 : (m.kind == 0) = false := by simpa using h0
  have hT0 : Touch [] w ((w.alloc (msgObj m kv)).alloc (.cells #[.int .i64 m.due, .int .i64 m.ref, .int .i64 m.born] 3)) := ((Touch.refl [] w).alloc _).alloc _
  have HT0 := Lib.hid hT0
  have hcar := carries_ok _ m kv (hk.quiet hT0) hl
  have hsame := same_ok _ m { noMsg with kind := m.kind, ref := m.ref, born := m.born } kv (.slice none 0 0) (hk.quiet hT0) ⟨none, 0, rfl, fun i s hi => by simp [noMsg] at hi⟩ hl (by simp [noMsg])
  rw [same_cancel] at hsame
  have HCAR := Lib.hid hcar
  have HSAME := Lib.hid hsame
  obtain ⟨bn, hbn⟩ : ∃ b, b = [m.due, m.ref, m.born].any numBad := ⟨_, rfl⟩
  have hR : rightM m = (!bn && (if m.kind = 1 then carriesB m && decide (m.due = 0) && decide (m.ref = 0) else if m.kind = 2 ∨ m.kind = 3 then carriesB m else if m.kind = 4 then cancelB m else false)) := by
    rw [hbn]; simp [rightM, Bool.or_assoc]
  clear hk hl h0 hT0 hcar hsame
  unfold msgV
  cases bn with
  | true =>
    have HN := Lib.hid (show (!([m.due, m.ref, m.born].any numBad)) = false by rw [← hbn]; rfl)
    have HB := Lib.hid (show rightM m = false by rw [hR]; rfl)
    clear hbn hR
    go_enter Tryz.func188, Tryz.ntmps188
    go_wp2_with fail
    refine (nums_ok _ [m.due, m.ref, m.born] _ 0 3 (three_ints (heap_at _ _ _ (by simp))) (by simp)).mono ?_
    rintro e w' ⟨he, rfl⟩
    rw [HN.out] at he
    subst he
    go_wp2_with fail
    go_ret
    rw [HB.out]
    exact ⟨rfl, HT0.out⟩
  | false =>
  have HN := Lib.hid (show (!([m.due, m.ref, m.born].any numBad)) = true by rw [← hbn]; rfl)
  clear hbn
  by_cases k1 : m.kind = 1
  · have d1 : (m.kind == 1) = true := by simpa using k1
    rw [if_pos k1] at hR
    clear k1
    obtain ⟨bc, hbc⟩ : ∃ b, b = carriesB m := ⟨_, rfl⟩
    rw [← hbc] at hR
    have HBC := Lib.hid hbc
    clear hbc
    cases bc with
    | false =>
      have HB := Lib.hid (show rightM m = false by rw [hR]; rfl)
      clear hR
      go_enter Tryz.func188, Tryz.ntmps188
      go_wp2_with fail
      refine (nums_ok _ [m.due, m.ref, m.born] _ 0 3 (three_ints (heap_at _ _ _ (by simp))) (by simp)).mono ?_
      rintro e w' ⟨he, rfl⟩
      rw [HN.out] at he
      subst he
      go_wp2_with fail
      refine HCAR.out.mono ?_
      rintro e w2 ⟨he, hT2⟩
      rw [← HBC.out] at he
      subst he
      have HT2 := Lib.hid hT2
      clear hT2
      go_wp2_with fail
      go_ret
      rw [HB.out]
      exact ⟨rfl, HT0.out.trans' HT2.out⟩
    | true =>
      have HB := Lib.hid (show rightM m = (decide (m.due = 0) && decide (m.ref = 0)) by rw [hR]; simp)
      clear hR
      by_cases kd : m.due = 0
      · have dd : (m.due == 0) = true := by simpa using kd
        have HD := Lib.hid kd
        clear kd
        go_enter Tryz.func188, Tryz.ntmps188
        go_wp2_with fail
        refine (nums_ok _ [m.due, m.ref, m.born] _ 0 3 (three_ints (heap_at _ _ _ (by simp))) (by simp)).mono ?_
        rintro e w' ⟨he, rfl⟩
        rw [HN.out] at he
        subst he
        go_wp2_with fail
        refine HCAR.out.mono ?_
        rintro e w2 ⟨he, hT2⟩
        rw [← HBC.out] at he
        subst he
        have hb2 := hT2.heap (heap_alloc_lt (heap_alloc_at w _) _) (by simp)
        have q2 := cell_of hb2 2 _ rfl
        have q4 := cell_of hb2 4 _ rfl
        have HT2 := Lib.hid hT2
        clear hT2 hb2
        go_wp2_with fail
        go_ret
        rw [HB.out]
        refine ⟨congrArg (fun b => Ending.returned (Value.bool b)) ?_, HT0.out.trans' HT2.out⟩
        rw [HD.out, Bool.eq_iff_iff]; simp
      · have dd : (m.due == 0) = false := by simpa using kd
        have HD := Lib.hid (show rightM m = false by rw [HB.out]; simp [kd])
        clear kd
        go_enter Tryz.func188, Tryz.ntmps188
        go_wp2_with fail
        refine (nums_ok _ [m.due, m.ref, m.born] _ 0 3 (three_ints (heap_at _ _ _ (by simp))) (by simp)).mono ?_
        rintro e w' ⟨he, rfl⟩
        rw [HN.out] at he
        subst he
        go_wp2_with fail
        refine HCAR.out.mono ?_
        rintro e w2 ⟨he, hT2⟩
        rw [← HBC.out] at he
        subst he
        have hb2 := hT2.heap (heap_alloc_lt (heap_alloc_at w _) _) (by simp)
        have q2 := cell_of hb2 2 _ rfl
        have HT2 := Lib.hid hT2
        clear hT2 hb2
        go_wp2_with fail
        go_ret
        rw [HD.out]
        exact ⟨rfl, HT0.out.trans' HT2.out⟩
  have d1 : (m.kind == 1) = false := by simpa using k1
  rw [if_neg k1] at hR
  by_cases k2 : m.kind = 2
  · have d2 : (m.kind == 2) = true := by simpa using k2
    rw [if_pos (.inl k2)] at hR
    obtain ⟨bb, hbb⟩ : ∃ b, b = carriesB m := ⟨_, rfl⟩
    have HBB := Lib.hid hbb
    have HB := Lib.hid (show rightM m = bb by rw [hR, hbb]; simp)
    clear hbb
    clear hR k1 k2
    go_enter Tryz.func188, Tryz.ntmps188
    go_wp2_with fail
    refine (nums_ok _ [m.due, m.ref, m.born] _ 0 3 (three_ints (heap_at _ _ _ (by simp))) (by simp)).mono ?_
    rintro e w' ⟨he, rfl⟩
    rw [HN.out] at he
    subst he
    go_wp2_with fail
    refine HCAR.out.mono ?_
    rintro e w2 ⟨he, hT2⟩
    rw [← HBB.out] at he
    subst he
    have HT2 := Lib.hid hT2
    clear hT2
    go_wp2_with fail
    go_ret
    rw [HB.out]
    exact ⟨rfl, HT0.out.trans' HT2.out⟩
  have d2 : (m.kind == 2) = false := by simpa using k2
  by_cases k3 : m.kind = 3
  · have d3 : (m.kind == 3) = true := by simpa using k3
    rw [if_pos (.inr k3)] at hR
    obtain ⟨bb, hbb⟩ : ∃ b, b = carriesB m := ⟨_, rfl⟩
    have HBB := Lib.hid hbb
    have HB := Lib.hid (show rightM m = bb by rw [hR, hbb]; simp)
    clear hbb
    clear hR k1 k2 k3
    go_enter Tryz.func188, Tryz.ntmps188
    go_wp2_with fail
    refine (nums_ok _ [m.due, m.ref, m.born] _ 0 3 (three_ints (heap_at _ _ _ (by simp))) (by simp)).mono ?_
    rintro e w' ⟨he, rfl⟩
    rw [HN.out] at he
    subst he
    go_wp2_with fail
    refine HCAR.out.mono ?_
    rintro e w2 ⟨he, hT2⟩
    rw [← HBB.out] at he
    subst he
    have HT2 := Lib.hid hT2
    clear hT2
    go_wp2_with fail
    go_ret
    rw [HB.out]
    exact ⟨rfl, HT0.out.trans' HT2.out⟩
  have d3 : (m.kind == 3) = false := by simpa using k3
  rw [if_neg (by omega)] at hR
  by_cases k4 : m.kind = 4
  · have d4 : (m.kind == 4) = true := by simpa using k4
    rw [if_pos k4] at hR
    obtain ⟨bb, hbb⟩ : ∃ b, b = cancelB m := ⟨_, rfl⟩
    have HBB := Lib.hid hbb
    have HB := Lib.hid (show rightM m = bb by rw [hR, hbb]; simp)
    clear hbb
    clear hR k1 k2 k3 k4
    go_enter Tryz.func188, Tryz.ntmps188
    go_wp2_with fail
    refine (nums_ok _ [m.due, m.ref, m.born] _ 0 3 (three_ints (heap_at _ _ _ (by simp))) (by simp)).mono ?_
    rintro e w' ⟨he, rfl⟩
    rw [HN.out] at he
    subst he
    go_wp2_with fail
    refine HSAME.out.mono ?_
    rintro e w2 ⟨he, hT2⟩
    rw [← HBB.out] at he
    subst he
    have HT2 := Lib.hid hT2
    clear hT2
    go_wp2_with fail
    go_ret
    rw [HB.out]
    exact ⟨rfl, HT0.out.trans' HT2.out⟩
  have d4 : (m.kind == 4) = false := by simpa using k4
  rw [if_neg k4] at hR
  have HB := Lib.hid (show rightM m = false by rw [hR]; rfl)
  clear hR k1 k2 k3 k4
  go_enter Tryz.func188, Tryz.ntmps188
  go_wp2_with fail
  refine (nums_ok _ [m.due, m.ref, m.born] _ 0 3 (three_ints (heap_at _ _ _ (by simp))) (by simp)).mono ?_
  rintro e w' ⟨he, rfl⟩
  rw [HN.out] at he
  subst he
  go_wp2_with fail
  go_ret
  rw [HB.out]
  exact ⟨rfl, HT0.out⟩
end Go.Proofs.YtljgifbnmgpdbaaGreatDoor

namespace Go.Proofs.YtljgifbnmgpdbaaGreatDoor
open Go Go.RowKit

def nilKeys : Value := .slice none 0 0

/-- A filler: some answer. -/

def bodyOnly (m : MsgM) : MsgM := { noMsg with body := m.body }
def fillerB (m : MsgM) : Bool := !([m.due, m.ref, m.born].any numBad) && decide (m.body.size ≤ 1024) && decide (m.body = bytesOf (List.replicate m.body.size 0)) && sameB m (bodyOnly m)

set_option maxRecDepth 100000 in
set_option maxHeartbeats 4000000 in
theorem right_filler (w : World) (m : MsgM) (kv : Value) (hk : KeysAt w kv m.keys) (hl : m.keys.length ≤ 1000) (h0 : m.kind = 0) (hb : m.body.size ≤ 1000000) :
    Calls Tryz.prog 188 #[msgV m kv] w fun e w' => e = .returned (.bool (fillerB m)) ∧ Touch [] w w' := by
  have HK := Lib.hid (And.intro hk hl)
  have hd0 : (m.kind == 0) = true := by simpa using h0
  have d1 : (m.kind == 1) = false := by simp [h0]
  have d2 : (m.kind == 2) = false := by simp [h0]
  have d3 : (m.kind == 3) = false := by simp [h0]
  have d4 : (m.kind == 4) = false := by simp [h0]
  have hT0 : Touch [] w ((w.alloc (msgObj m kv)).alloc (.cells #[.int .i64 m.due, .int .i64 m.ref, .int .i64 m.born] 3)) := ((Touch.refl [] w).alloc _).alloc _
  have HT0 := Lib.hid hT0
  have hbx : ((w.alloc (msgObj m kv)).alloc (.cells #[.int .i64 m.due, .int .i64 m.ref, .int .i64 m.born] 3)).heap[w.heap.size]? = some (msgObj m kv) := heap_alloc_lt (heap_alloc_at w _) _
  have HBX := Lib.hid hbx
  have BB : (m.body.size : Int) ≤ 1000000 := by omega
  have HBB := Lib.hid hb
  obtain ⟨bn, hbn⟩ : ∃ b, b = [m.due, m.ref, m.born].any numBad := ⟨_, rfl⟩
  clear hk hl h0 hT0 hbx hb
  unfold msgV
  cases bn with
  | true =>
    have HN := Lib.hid (show (!([m.due, m.ref, m.born].any numBad)) = false by rw [← hbn]; rfl)
    have HFB := Lib.hid (show fillerB m = false by unfold fillerB; rw [← hbn]; rfl)
    clear hbn
    go_enter Tryz.func188, Tryz.ntmps188
    go_wp2_with fail
    refine (nums_ok _ [m.due, m.ref, m.born] _ 0 3 (three_ints (heap_at _ _ _ (by simp))) (by simp)).mono ?_
    rintro e w' ⟨he, rfl⟩
    rw [HN.out] at he
    subst he
    go_wp2_with fail
    go_ret
    rw [HFB.out]
    exact ⟨rfl, HT0.out⟩
  | false =>
  have HN := Lib.hid (show (!([m.due, m.ref, m.born].any numBad)) = true by rw [← hbn]; rfl)
  clear hbn
  by_cases hlen : m.body.size ≤ 1024
  rotate_left
  · have hd : decide ((m.body.size : Int) ≤ 1024) = false := by simp; omega
    have HFB := Lib.hid (show fillerB m = false by unfold fillerB; simp [hlen])
    clear hlen
    have c8 := cell_of HBX.out 8 _ rfl
    unfold msgObj at c8
    go_enter Tryz.func188, Tryz.ntmps188
    go_wp2_with fail
    refine (nums_ok _ [m.due, m.ref, m.born] _ 0 3 (three_ints (heap_at _ _ _ (by simp))) (by simp)).mono ?_
    rintro e w' ⟨he, rfl⟩
    rw [HN.out] at he
    subst he
    go_wp2_with fail
    go_region
    all_goals
      go_wp2_with fail
      go_ret
      rw [HFB.out]
      exact ⟨rfl, HT0.out.drewN _⟩
  have hd : decide ((m.body.size : Int) ≤ 1024) = true := by simp; omega
  have HLEN := Lib.hid hlen
  clear hlen
  obtain ⟨q, hq⟩ : ∃ q, q = bytesOf (List.replicate m.body.size 0) := ⟨_, rfl⟩
  have HQ := Lib.hid hq
  clear hq
  have hn := fun (W : World) => noughts_ok W m.body.size HBB.out
  rw [← HQ.out] at hn
  have HNO := Lib.hid hn
  clear hn
  obtain ⟨bs, hbs⟩ : ∃ b, b = sameB m (bodyOnly m) := ⟨_, rfl⟩
  have hsm := fun (W : World) (hT : Touch [] w W) => same_ok W m (bodyOnly m) kv nilKeys (HK.out.1.quiet hT) ⟨none, 0, rfl, fun i s hi => by simp [bodyOnly, noMsg] at hi⟩ HK.out.2 (by simp [bodyOnly, noMsg])
  rw [← hbs] at hsm
  have HSM := Lib.hid hsm
  have HBS := Lib.hid hbs
  clear hsm hbs
  by_cases he : m.body = q
  · have hd5 : (m.body.toList == q.toList) = true := by simp [he]
    have HFB := Lib.hid (show fillerB m = bs by
      have h1 := HN.out
      unfold fillerB
      rw [h1, HBS.out, ← HQ.out, decide_eq_true HLEN.out, decide_eq_true he]
      simp only [Bool.true_and])
    clear he
    have c0 := cell_of HBX.out 0 _ rfl
    have c1 := cell_of HBX.out 1 _ rfl
    have c2 := cell_of HBX.out 2 _ rfl
    have c3 := cell_of HBX.out 3 _ rfl
    have c4 := cell_of HBX.out 4 _ rfl
    have c5 := cell_of HBX.out 5 _ rfl
    have c6 := cell_of HBX.out 6 _ rfl
    have c7 := cell_of HBX.out 7 _ rfl
    have c8 := cell_of HBX.out 8 _ rfl
    have c9 := cell_of HBX.out 9 _ rfl
    have hTw := HT0.out
    unfold msgObj at c0 c1 c2 c3 c4 c5 c6 c7 c8 c9 hTw
    go_enter Tryz.func188, Tryz.ntmps188
    go_wp2_with fail
    refine (nums_ok _ [m.due, m.ref, m.born] _ 0 3 (three_ints (heap_at _ _ _ (by simp))) (by simp)).mono ?_
    rintro e w' ⟨he, rfl⟩
    rw [HN.out] at he
    subst he
    go_wp2_with fail
    go_region_held3 (fun w' => w'.cell? ⟨w.heap.size, 0, none⟩ = some (.int .i64 m.kind) ∧ w'.cell? ⟨w.heap.size, 1, none⟩ = some (.int .i64 m.queue) ∧ w'.cell? ⟨w.heap.size, 2, none⟩ = some (.int .i64 m.due) ∧ w'.cell? ⟨w.heap.size, 3, none⟩ = some (.int .i64 m.retry) ∧ w'.cell? ⟨w.heap.size, 4, none⟩ = some (.int .i64 m.ref) ∧ w'.cell? ⟨w.heap.size, 5, none⟩ = some (.int .i64 m.born) ∧
        w'.cell? ⟨w.heap.size, 6, none⟩ = some (.string m.topic) ∧ w'.cell? ⟨w.heap.size, 7, none⟩ = some (.string m.tag) ∧ w'.cell? ⟨w.heap.size, 8, none⟩ = some (.string m.body) ∧ w'.cell? ⟨w.heap.size, 9, none⟩ = some kv ∧ Touch [] w w')
      (first
        | exact ⟨c0, c1, c2, c3, c4, c5, c6, c7, c8, c9, hTw.drew⟩
        | exact ⟨hT4.cell (by assumption) (by simp), hT4.cell (by assumption) (by simp), hT4.cell (by assumption) (by simp), hT4.cell (by assumption) (by simp), hT4.cell (by assumption) (by simp), hT4.cell (by assumption) (by simp), hT4.cell (by assumption) (by simp), hT4.cell (by assumption) (by simp), hT4.cell (by assumption) (by simp), hT4.cell (by assumption) (by simp), Touch.trans' (by assumption) hT4⟩)
      (first
        | (go_at_call 143; go_split_ands; refine (HNO.out _).mono ?_; rintro e w4 ⟨rfl, hT4⟩)
        | (go_at_call 243; go_split_ands; refine (HSM.out _ (by assumption)).mono ?_; rintro e w4 ⟨rfl, hT4⟩))
    all_goals
      go_split_ands
      go_wp2_with fail
      go_ret
      rw [HFB.out]
      exact ⟨rfl, by assumption⟩
  · have he2 : ¬ m.body.toList = q.toList := fun e => he (bytes_ext (by rwa [ByteArray.toList_eq, ByteArray.toList_eq] at e))
    have hd5 : (m.body.toList == q.toList) = false := by simpa using he2
    have HFB := Lib.hid (show fillerB m = false by
      unfold fillerB
      rw [← HQ.out]
      simp [he])
    clear he he2
    have c8 := cell_of HBX.out 8 _ rfl
    have hTw := HT0.out
    unfold msgObj at c8 hTw
    go_enter Tryz.func188, Tryz.ntmps188
    go_wp2_with fail
    refine (nums_ok _ [m.due, m.ref, m.born] _ 0 3 (three_ints (heap_at _ _ _ (by simp))) (by simp)).mono ?_
    rintro e w' ⟨he, rfl⟩
    rw [HN.out] at he
    subst he
    go_wp2_with fail
    refine region_class (fun w' => w'.cell? ⟨w.heap.size, 8, none⟩ = some (.string m.body) ∧ Touch [] w w') (by kernel_rfl) (by kernel_rfl) ⟨c8, hTw.drew⟩ ?_
    repeat (first | go_big_quiet_skip | (go_big_quiet_want; go_big_quiet_op; first | go_big_quiet_on | (refine Exists.intro _ ⟨fun _ _ => rfl, ?_⟩; go_big_quiet_on) | (refine Exists.intro _ ⟨fun w' hC => by (first | rw [hC.out.1] | rw [hC.out.2.1] | rw [hC.out.2.2.1] | rw [hC.out.2.2.2.1]); exact ⟨rfl, rfl⟩, ?_⟩; go_big_quiet_on) | (refine Exists.intro _ ⟨fun w' hC => (HNO.out w').mono fun e w2 hh => ⟨hh.1, hh.2.cell hC.out.1 (by simp), hC.out.2.trans' hh.2⟩, ?_⟩; go_big_quiet_on)))
    refine wpQuiet_nil ?_
    rintro w3 ⟨-, hT3⟩
    have HT3 := Lib.hid hT3
    clear hT3 c8 hTw
    go_wp2_with fail
    go_ret
    rw [HFB.out]
    exact ⟨rfl, HT3.out⟩
end Go.Proofs.YtljgifbnmgpdbaaGreatDoor

namespace Go.Proofs.YtljgifbnmgpdbaaGreatDoor
open Go Go.RowKit

set_option maxRecDepth 100000 in
set_option maxHeartbeats 2000000 in
theorem put_right (w : World) (t : Nat) (T : Nat → Int) (m : MsgM) (kv : Value) (ht : TabAt w t T) (hk : KeysAt w kv m.keys) (h : rightM m = true) :
    Calls Tryz.prog 129 #[.pointer (some ⟨t, 0, none⟩), msgV m kv] w fun e w' => e = .returned (.tuple #[.string (bytesOf (putB T m)), .int .i64 0]) ∧ Touch [] w w' := by
  have hf := right_facts h
  have hd0 : (m.kind == 0) = false := by have := hf.kind0; simp; omega
  have hT0 : Touch [] w (w.alloc (msgObj m kv)) := (Touch.refl [] w).alloc _
  have hright := right_ok _ m kv (hk.quiet hT0) (by have := hf.keys; omega) (by have := hf.kind0; omega)
  rw [h] at hright
  have hins := fun (W : World) (hT : Touch [] w W) => inside_ok W m kv (hk.quiet hT) hf
  obtain ⟨s, hs⟩ : ∃ s, s = bytesOf (insideB m) := ⟨_, rfl⟩
  rw [← hs] at hins
  have hsz : s.size ≤ 314 := by rw [hs, bytesOf_size]; exact inside_len hf
  have hseal := fun (W : World) (hT : Touch [] w W) => seal_ok W t T (ht.touch hT (by simp)) s (by omega)
  obtain ⟨x, hx⟩ : ∃ x, x = sealed T s := ⟨_, rfl⟩
  rw [← hx] at hseal
  have hxz : x.size = 4 + s.size := by rw [hx, sealed_size]
  have HS := Lib.hid (And.intro hs (And.intro hsz (And.intro hx hxz)))
  have BX : (x.size : Int) ≤ 318 := by omega
  have HR := Lib.hid hright
  have HI := Lib.hid hins
  have HE := Lib.hid hseal
  have HT0 := Lib.hid hT0
  clear ht hk h hf hT0 hright hins hs hsz hseal hx hxz
  unfold msgV
  go_enter Tryz.func129, Tryz.ntmps129
  go_wp2_with fail
  refine HR.out.mono ?_
  rintro e w1 ⟨rfl, hT1⟩
  have hb1 := hT1.heap (heap_alloc_at w (msgObj m kv)) (by simp)
  have c0 := cell_of hb1 0 _ rfl
  have c1 := cell_of hb1 1 _ rfl
  have c2 := cell_of hb1 2 _ rfl
  have c3 := cell_of hb1 3 _ rfl
  have c4 := cell_of hb1 4 _ rfl
  have c5 := cell_of hb1 5 _ rfl
  have c6 := cell_of hb1 6 _ rfl
  have c7 := cell_of hb1 7 _ rfl
  have c8 := cell_of hb1 8 _ rfl
  have c9 := cell_of hb1 9 _ rfl
  have HT1 := Lib.hid (HT0.out.trans' hT1)
  clear hT1 hb1
  go_wp2_with fail
  refine (HI.out w1 HT1.out).mono ?_
  rintro e w2 ⟨rfl, hT2⟩
  have HT2 := Lib.hid (HT1.out.trans' hT2)
  clear hT2 c0 c1 c2 c3 c4 c5 c6 c7 c8 c9
  go_wp2_with fail
  refine (HE.out w2 HT2.out).mono ?_
  rintro e w3 ⟨rfl, hT3⟩
  have HT3 := Lib.hid (HT2.out.trans' hT3)
  have hsum : (3 : Int) + (x.size : Int) = ((3 + x.size : Nat) : Int) := by omega
  have HSUM := Lib.hid hsum
  clear hT3 hsum
  go_wp2_with fail
  rw [HSUM.out]
  refine (num_ok _ 2 (by omega) (by omega) [3 + x.size] _ 0 1 ?hc (by simp) (by simp; have := HS.out; omega)).mono ?_
  case hc =>
    intro i y hi
    match i, hi with
    | 0, hi =>
      have : 3 + x.size = y := by simpa using hi
      subst this
      exact cell_of (heap_at _ _ _ (by simp)) 0 _ rfl
    | i + 1, hi => simp at hi
  rintro e w4 ⟨rfl, hT4⟩
  obtain ⟨p, hpd⟩ : ∃ p : ByteArray, p = ⟨([3 + x.size].flatMap (be 2)).toArray⟩ := ⟨_, rfl⟩
  rw [← hpd]
  have BP : (p.size : Int) ≤ 2 := by
    have : p.size = 2 := by rw [hpd]; show ([3 + x.size].flatMap (be 2)).toArray.size = 2; simp [be_len]
    omega
  have HP := Lib.hid (And.intro hpd (HT3.out.trans' (((Touch.refl [] w3).alloc _).trans' hT4)))
  have BPH : ((⟨#[165]⟩ ++ p : ByteArray).size : Int) ≤ 3 := by
    rw [ByteArray.size_append]
    have : (ByteArray.mk #[165]).size = 1 := rfl
    omega
  clear hpd hT4
  go_wp2_with fail
  go_ret2
  have hph : (⟨#[165]⟩ ++ p : ByteArray) ++ x = bytesOf (putB T m) := by
    rw [HP.out.1]
    obtain ⟨hs, hsz, hx, hxz⟩ := HS.out
    have : putB T m = 165 :: (be 2 (3 + x.size) ++ x.data.toList) := by unfold putB; rw [← hs, ← hx]
    rw [this]
    apply bytes_ext
    simp [bytesOf, ByteArray.data_append]
  exact ⟨by rw [← hph]; rfl, HP.out.2⟩

set_option maxRecDepth 100000 in
set_option maxHeartbeats 2000000 in
theorem put_wrong (w : World) (t : Nat) (m : MsgM) (kv : Value) (hk : KeysAt w kv m.keys) (hl : m.keys.length ≤ 1000) (h0 : m.kind ≠ 0) (h : rightM m = false) :
    Calls Tryz.prog 129 #[.pointer (some ⟨t, 0, none⟩), msgV m kv] w fun e w' => e = .returned (.tuple #[.string ⟨#[]⟩, .int .i64 1]) ∧ Touch [] w w' := by
  have hd0 : (m.kind == 0) = false := by simpa using h0
  have hT0 : Touch [] w (w.alloc (msgObj m kv)) := (Touch.refl [] w).alloc _
  have hright := right_ok _ m kv (hk.quiet hT0) hl h0
  rw [h] at hright
  have HR := Lib.hid hright
  have HT0 := Lib.hid hT0
  clear hk hl h0 h hT0 hright
  unfold msgV
  go_enter Tryz.func129, Tryz.ntmps129
  go_wp2_with fail
  refine HR.out.mono ?_
  rintro e w1 ⟨rfl, hT1⟩
  have HT1 := Lib.hid (HT0.out.trans' hT1)
  clear hT1
  go_wp2_with fail
  go_ret2
  exact ⟨rfl, HT1.out⟩

/-- What Put says of a filler. -/
def putF (m : MsgM) : ByteArray × Int := if fillerB m = true ∧ 3 ≤ m.body.size ∧ m.body.size ≤ 1024 then (bytesOf (fillB m.body.size), 0) else (⟨#[]⟩, 1)

set_option maxRecDepth 100000 in
set_option maxHeartbeats 2000000 in
theorem put_filler (w : World) (t : Nat) (m : MsgM) (kv : Value) (hk : KeysAt w kv m.keys) (hl : m.keys.length ≤ 1000) (h0 : m.kind = 0) (hb : m.body.size ≤ 1000000) :
    Calls Tryz.prog 129 #[.pointer (some ⟨t, 0, none⟩), msgV m kv] w fun e w' => e = .returned (.tuple #[.string (putF m).1, .int .i64 (putF m).2]) ∧ Touch [] w w' := by
  have hd0 : (m.kind == 0) = true := by simpa using h0
  have hT0 : Touch [] w (w.alloc (msgObj m kv)) := (Touch.refl [] w).alloc _
  have hright := right_filler _ m kv (hk.quiet hT0) hl h0 hb
  obtain ⟨b, hbb⟩ : ∃ b, b = fillerB m := ⟨_, rfl⟩
  rw [← hbb] at hright
  have HR := Lib.hid hright
  have HT0 := Lib.hid hT0
  have BB : (m.body.size : Int) ≤ 1000000 := by omega
  have HBB := Lib.hid hbb
  clear hk hl h0 hT0 hright hb hbb
  unfold msgV
  go_enter Tryz.func129, Tryz.ntmps129
  go_wp2_with fail
  refine HR.out.mono ?_
  rintro e w1 ⟨rfl, hT1⟩
  have hb1 := hT1.heap (heap_alloc_at w (msgObj m kv)) (by simp)
  have c0 := cell_of hb1 0 _ rfl
  have c8 := cell_of hb1 8 _ rfl
  have HT1 := Lib.hid (HT0.out.trans' hT1)
  clear hT1 hb1
  cases b with
  | false =>
    have HP := Lib.hid (show putF m = (⟨#[]⟩, 1) by unfold putF; rw [← HBB.out]; simp)
    go_wp2_with fail
    go_ret2
    rw [HP.out]
    exact ⟨rfl, HT1.out⟩
  | true =>
    by_cases hr : 3 ≤ m.body.size ∧ m.body.size ≤ 1024
    · have hfill := fill_ok w1 m.body.size hr.1 hr.2
      have HF := Lib.hid hfill
      have HP := Lib.hid (show putF m = (bytesOf (fillB m.body.size), 0) by unfold putF; rw [← HBB.out, if_pos ⟨rfl, hr.1, hr.2⟩])
      clear hfill hr
      go_wp2_with fail
      refine HF.out.mono ?_
      rintro e w2 ⟨rfl, hT2⟩
      have HT2 := Lib.hid (HT1.out.trans' hT2)
      clear hT2
      go_wp2_with fail
      go_ret2
      rw [HP.out]
      exact ⟨rfl, HT2.out⟩
    · have hfill := fill_bad w1 m.body.size (by omega)
      have HF := Lib.hid hfill
      have HP := Lib.hid (show putF m = (⟨#[]⟩, 1) by unfold putF; rw [if_neg (fun h => hr h.2)])
      clear hfill hr
      go_wp2_with fail
      refine HF.out.mono ?_
      rintro e w2 ⟨rfl, rfl⟩
      go_wp2_with fail
      go_ret2
      rw [HP.out]
      exact ⟨rfl, HT1.out⟩
end Go.Proofs.YtljgifbnmgpdbaaGreatDoor

namespace Go.Proofs.YtljgifbnmgpdbaaGreatDoor
open Go Go.RowKit

section
variable {P : Program} {ops : Array Oper} {md : Region.Mode} {C : World → Prop}

/-- The first n operations in whatever order; behind them L. -/
def headAny (P : Program) (md : Region.Mode) (ops : Array Oper) (C : World → Prop) (n : Nat) (L : Array Bool → Act → Prop) : Nat → Array Bool → Act → Prop
  | 0, listed, a => L listed a
  | f + 1, listed, a => Region.ready md ops listed ≠ [] ∧ ∀ i ∈ Region.ready md ops listed, i < n ∧ qOp P ops C i (headAny P md ops C n L f (listed.setIfInBounds i true)) a

theorem headAny_any {n g : Nat} {L : Array Bool → Act → Prop} {Q' : Exit → Act → World → Prop} (hL : ∀ listed a w, C w → L listed a → wpAny P md ops Q' g listed a w) :
    ∀ (f : Nat) (listed : Array Bool) (a : Act) (w : World), C w → headAny P md ops C n L f listed a → wpAny P md ops Q' (f + g) listed a w := by
  intro f
  induction f with
  | zero => intro listed a w hw h; rw [Nat.zero_add]; exact hL _ _ _ hw h
  | succ f ih =>
    intro listed a w hw h
    rw [show f + 1 + g = (f + g) + 1 by omega]
    exact ⟨fun h0 => absurd h0 h.1, fun i hi => wpOp_of_qOp hw (fun a' w' hw' h' => ih _ a' w' hw' h') (h.2 i hi).2⟩

theorem headAny_take {n i : Nat} {oi : Oper} {v : Value} {L : Array Bool → Act → Prop} (hi : ops[i]? = some oi) (hsel : ∀ (j : Nat) (o : Oper) cs b, ops[j]? = some o → o.op ≠ .select cs b)
    (hs : Region.sinkB md ops n = true) (hc : Region.chainB md ops n = true) (hn : n < ops.size) (hin : i < n) (hend : ∀ listed a, L listed a → ∀ j ∈ Region.ready md ops listed, n ≤ j) :
    ∀ (f : Nat) (listed : Array Bool) (a : Act), HeadInv md ops n listed →
      (∀ j oj, ops[j]? = some oj → j ≠ i → listed.getD j true = false → (∀ e ∈ oj.after, Region.binds md e = true → e.on ≠ i) → oi.apart ops oj = true) →
      i ∈ Region.ready md ops listed → YieldsIn P ops C oi v a →
      headAny P md ops C n L f (listed.setIfInBounds i true) (a.put oi.dst v) → headAny P md ops C n L (f + 1) listed a := by
  intro f
  induction f with
  | zero =>
    intro listed a inv _ hr hy H
    have hun := (mem_ready.1 hr).1
    refine ⟨fun h => (by rw [h] at hr; cases hr), fun j hj => ?_⟩
    have hjn : j < n := (Nat.lt_or_ge j n).elim id fun h => absurd hj (tail_waits hs hc hn inv _ i rfl hin hun j h)
    refine ⟨hjn, ?_⟩
    by_cases hji : j = i
    · subst hji; exact hy.qOp hi H
    · have := hend _ _ H j (ready_mono hj hji)
      omega
  | succ f ih =>
    intro listed a inv hfree hr hy H
    have hun := (mem_ready.1 hr).1
    refine ⟨fun h => (by rw [h] at hr; cases hr), fun j hj => ?_⟩
    have hjn : j < n := (Nat.lt_or_ge j n).elim id fun h => absurd hj (tail_waits hs hc hn inv _ i rfl hin hun j h)
    refine ⟨hjn, ?_⟩
    by_cases hji : j = i
    · subst hji; exact hy.qOp hi H
    · have h1 := (H.2 j (ready_mono hj hji)).2
      obtain ⟨hjun, oj, hoj, hall⟩ := mem_ready.1 hj
      have hnot : ∀ e ∈ oj.after, Region.binds md e = true → e.on ≠ i := fun e he hb heq => by
        have h1 := hall e he hb
        rw [heq, getD_both hun] at h1
        cases h1
      have h2 := qOp_put hoj (hfree j oj hoj hji hjun hnot) (fun cs b => hsel i oi cs b hi) (fun cs b => hsel j oj cs b hoj) hy h1
      refine qOp_mono (fun a' h3 => ih (listed.setIfInBounds j true) a' (inv.set hj hjn) (fun k ok hk hki hun hno => hfree k ok hk hki ?_ hno) (ready_mono hr (Ne.symm hji)) h3.1 ?_) h2
      · by_cases hjk : j = k
        · subst hjk; exact hjun
        · rw [getD_set_ne true hjk] at hun; exact hun
      · rw [Array.setIfInBounds_comm _ _ hji]
        exact h3.2

theorem headAny_lex {n g : Nat} {Lq : Act → Prop} (hsel : Region.noSelect ops = true) (hs : Region.sinkB md ops n = true) (hc : Region.chainB md ops n = true) (hn : n < ops.size) :
    ∀ (l : List Oper) (k : Nat) (listed : Array Bool) (a : Act), (∀ j, j < l.length → l[j]? = ops[k + j]?) → k + l.length = n → HeadInv md ops n listed →
    Region.lexHead md ops g l.length k listed = true → wpQuiet P ops C Lq l a →
    headAny P md ops C n (fun listed' a' => Region.seqB md ops g n listed' = true ∧ Lq a') l.length listed a := by
  intro l
  induction l with
  | nil =>
    intro k listed a _ hk _ hB h
    have : k = n := by simpa using hk
    subst this
    exact ⟨by simpa [Region.lexHead] using hB, h⟩
  | cons o l ih =>
    intro k listed a hl hk inv hB h
    have h0 : ops[k]? = some o := by simpa using (hl 0 (by simp)).symm
    simp only [List.length_cons, Region.lexHead, Bool.and_eq_true] at hB
    obtain ⟨⟨hr, hf⟩, hB'⟩ := hB
    have hkn : k < n := by simp only [List.length_cons] at hk; omega
    have hr' : k ∈ Region.ready md ops listed := by simpa using hr
    have hst : qOp P ops C k (wpQuiet P ops C Lq l) a := by unfold qOp; simp only [h0]; exact h
    obtain ⟨v, hy, hK⟩ := yieldsIn_of_qOp h0 hst
    exact headAny_take h0 (Region.noSelect_spec hsel) hs hc hn hkn (fun listed' a' hL => seqB_ready hL.1) l.length listed a inv (Region.free_spec h0 hf) hr' hy
      (ih (k + 1) _ _ (fun j hj => by have := hl (j + 1) (by simp; omega); simpa [Nat.add_assoc, Nat.add_comm 1 j] using this) (by simp only [List.length_cons] at hk; omega) (inv.set hr' hkn) hB' hK)

theorem region_class_tail {id : Nat} {Q : Exit → Act → World → Prop} {a : Act} {w : World} {l : List Oper} (n : Nat) (C : World → Prop) (hm : P.follows .mixedOrders = true) (hB : Region.lexTailB .any l.toArray n = true) (hC : C w.drew)
    (h : wpQuiet P l.toArray (Cls C) (fun a' => ∀ w', C w' → wpList P l.toArray Q (l.drop n) a' w') (l.take n) a) : (Code.region id l.toArray true).wp P Q a w := by
  simp only [Region.lexTailB, Bool.and_eq_true, decide_eq_true_eq] at hB
  obtain ⟨⟨⟨⟨hsel, hn⟩, hs⟩, hc⟩, hlex⟩ := hB
  have hn' : n < l.length := by simpa using hn
  have htl : (l.take n).length = n := by simp; omega
  have hdl : (l.drop n).length = l.toArray.size - n := by simp
  have inv0 : HeadInv .any l.toArray n (Array.replicate l.toArray.size false) :=
    ⟨by simp, fun j oj _ hl => (by rw [getD_replicate_false] at hl; cases hl), fun t _ ht => getD_in (by simpa using ht) (getD_replicate_false _ _)⟩
  have H := headAny_lex (md := .any) (g := l.toArray.size - n) (C := Cls C) hsel hs hc hn (l.take n) 0 _ a (fun j hj => by
    have hj' : j < n := by rw [htl] at hj; exact hj
    simp [hj']) (by simpa using htl) inv0 (by rw [htl]; exact hlex) h
  refine wp_region_any hm ?_
  have := headAny_any (Q' := Q) (g := l.toArray.size - n) (C := Cls C) (fun listed a' w' hw' hL => by
    have := wpAny_of_seq (md := .any) (Q' := Q) (l.drop n) n listed a' w' (fun j => by simp [List.getElem?_drop]) (by rw [hdl]; exact hL.1) (hL.2 w' hw')
    rwa [hdl] at this) _ _ _ _ (show Cls C { w with drawn := w.drawn + 1 } from hC) H
  rw [htl, show n + (l.toArray.size - n) = l.toArray.size by omega] at this
  exact this
end
end Go.Proofs.YtljgifbnmgpdbaaGreatDoor

namespace Go.Proofs.YtljgifbnmgpdbaaGreatDoor
open Go Go.RowKit

def numB (n x : Nat) : ByteArray := ⟨(be n x).toArray⟩
theorem inside_chain (k q d r f b : Nat) (tp tg bd : ByteArray) (ks : List ByteArray) :
    bytesOf (insideN k q d r f b tp tg bd ks) = numB 1 k ++ (numB 1 q ++ (numB 1 r ++ (numB 6 b ++ (numB 6 d ++ (numB 6 f ++ (numB 2 tp.size ++ (tp ++ (numB 2 tg.size ++ (tg ++ (numB 2 bd.size ++ (bd ++ (bytesOf (listB ks) ++ ⟨#[]⟩)))))))))))) := by
  apply bytes_ext
  simp [bytesOf, insideN, numB, textB, ByteArray.data_append]

/-- A record that came out of bytes: its keys lie in new memory. -/
def MsgOut (w : World) (m : MsgM) (more : Array Value) (e : Ending) (w' : World) : Prop :=
  ∃ kv, e = .returned (.tuple (#[msgV m kv] ++ more)) ∧ KeysAt w' kv m.keys ∧ (∀ b, kv.ownBlock = some b → w.heap.size ≤ b) ∧ Touch [] w w'

theorem store10 {w : World} {B : Nat} {t : TypeId} {o0 o1 o2 o3 o4 o5 o6 o7 o8 o9 : Value} (h : w.heap[B]? = some (.cells #[o0, o1, o2, o3, o4, o5, o6, o7, o8, o9] t (0, 0))) (v0 v1 v2 v3 v4 v5 v6 v7 v8 v9 : Value) :
    ((((((((((w.setCell ⟨B, 0, none⟩ v0).setCell ⟨B, 1, none⟩ v1).setCell ⟨B, 2, none⟩ v2).setCell ⟨B, 3, none⟩ v3).setCell ⟨B, 4, none⟩ v4).setCell ⟨B, 5, none⟩ v5).setCell ⟨B, 6, none⟩ v6).setCell ⟨B, 7, none⟩ v7).setCell ⟨B, 8, none⟩ v8).setCell ⟨B, 9, none⟩ v9).heap[B]? = some (.cells #[v0, v1, v2, v3, v4, v5, v6, v7, v8, v9] t (0, 0)) ∧ Touch [B] w ((((((((((w.setCell ⟨B, 0, none⟩ v0).setCell ⟨B, 1, none⟩ v1).setCell ⟨B, 2, none⟩ v2).setCell ⟨B, 3, none⟩ v3).setCell ⟨B, 4, none⟩ v4).setCell ⟨B, 5, none⟩ v5).setCell ⟨B, 6, none⟩ v6).setCell ⟨B, 7, none⟩ v7).setCell ⟨B, 8, none⟩ v8).setCell ⟨B, 9, none⟩ v9) := by
  have h0 : (w.setCell ⟨B, 0, none⟩ v0).heap[B]? = some (.cells #[v0, o1, o2, o3, o4, o5, o6, o7, o8, o9] t (0, 0)) := by rw [heap_setCell_at h]; rfl
  have h1 : ((w.setCell ⟨B, 0, none⟩ v0).setCell ⟨B, 1, none⟩ v1).heap[B]? = some (.cells #[v0, v1, o2, o3, o4, o5, o6, o7, o8, o9] t (0, 0)) := by rw [heap_setCell_at h0]; rfl
  have h2 : (((w.setCell ⟨B, 0, none⟩ v0).setCell ⟨B, 1, none⟩ v1).setCell ⟨B, 2, none⟩ v2).heap[B]? = some (.cells #[v0, v1, v2, o3, o4, o5, o6, o7, o8, o9] t (0, 0)) := by rw [heap_setCell_at h1]; rfl
  have h3 : ((((w.setCell ⟨B, 0, none⟩ v0).setCell ⟨B, 1, none⟩ v1).setCell ⟨B, 2, none⟩ v2).setCell ⟨B, 3, none⟩ v3).heap[B]? = some (.cells #[v0, v1, v2, v3, o4, o5, o6, o7, o8, o9] t (0, 0)) := by rw [heap_setCell_at h2]; rfl
  have h4 : (((((w.setCell ⟨B, 0, none⟩ v0).setCell ⟨B, 1, none⟩ v1).setCell ⟨B, 2, none⟩ v2).setCell ⟨B, 3, none⟩ v3).setCell ⟨B, 4, none⟩ v4).heap[B]? = some (.cells #[v0, v1, v2, v3, v4, o5, o6, o7, o8, o9] t (0, 0)) := by rw [heap_setCell_at h3]; rfl
  have h5 : ((((((w.setCell ⟨B, 0, none⟩ v0).setCell ⟨B, 1, none⟩ v1).setCell ⟨B, 2, none⟩ v2).setCell ⟨B, 3, none⟩ v3).setCell ⟨B, 4, none⟩ v4).setCell ⟨B, 5, none⟩ v5).heap[B]? = some (.cells #[v0, v1, v2, v3, v4, v5, o6, o7, o8, o9] t (0, 0)) := by rw [heap_setCell_at h4]; rfl
  have h6 : (((((((w.setCell ⟨B, 0, none⟩ v0).setCell ⟨B, 1, none⟩ v1).setCell ⟨B, 2, none⟩ v2).setCell ⟨B, 3, none⟩ v3).setCell ⟨B, 4, none⟩ v4).setCell ⟨B, 5, none⟩ v5).setCell ⟨B, 6, none⟩ v6).heap[B]? = some (.cells #[v0, v1, v2, v3, v4, v5, v6, o7, o8, o9] t (0, 0)) := by rw [heap_setCell_at h5]; rfl
  have h7 : ((((((((w.setCell ⟨B, 0, none⟩ v0).setCell ⟨B, 1, none⟩ v1).setCell ⟨B, 2, none⟩ v2).setCell ⟨B, 3, none⟩ v3).setCell ⟨B, 4, none⟩ v4).setCell ⟨B, 5, none⟩ v5).setCell ⟨B, 6, none⟩ v6).setCell ⟨B, 7, none⟩ v7).heap[B]? = some (.cells #[v0, v1, v2, v3, v4, v5, v6, v7, o8, o9] t (0, 0)) := by rw [heap_setCell_at h6]; rfl
  have h8 : (((((((((w.setCell ⟨B, 0, none⟩ v0).setCell ⟨B, 1, none⟩ v1).setCell ⟨B, 2, none⟩ v2).setCell ⟨B, 3, none⟩ v3).setCell ⟨B, 4, none⟩ v4).setCell ⟨B, 5, none⟩ v5).setCell ⟨B, 6, none⟩ v6).setCell ⟨B, 7, none⟩ v7).setCell ⟨B, 8, none⟩ v8).heap[B]? = some (.cells #[v0, v1, v2, v3, v4, v5, v6, v7, v8, o9] t (0, 0)) := by rw [heap_setCell_at h7]; rfl
  have h9 : ((((((((((w.setCell ⟨B, 0, none⟩ v0).setCell ⟨B, 1, none⟩ v1).setCell ⟨B, 2, none⟩ v2).setCell ⟨B, 3, none⟩ v3).setCell ⟨B, 4, none⟩ v4).setCell ⟨B, 5, none⟩ v5).setCell ⟨B, 6, none⟩ v6).setCell ⟨B, 7, none⟩ v7).setCell ⟨B, 8, none⟩ v8).setCell ⟨B, 9, none⟩ v9).heap[B]? = some (.cells #[v0, v1, v2, v3, v4, v5, v6, v7, v8, v9] t (0, 0)) := by rw [heap_setCell_at h8]; rfl
  exact ⟨h9, (((((((((((Touch.refl [B] w).setCell B 0 none v0 (.inl (by simp))).setCell B 1 none v1 (.inl (by simp))).setCell B 2 none v2 (.inl (by simp))).setCell B 3 none v3 (.inl (by simp))).setCell B 4 none v4 (.inl (by simp))).setCell B 5 none v5 (.inl (by simp))).setCell B 6 none v6 (.inl (by simp))).setCell B 7 none v7 (.inl (by simp))).setCell B 8 none v8 (.inl (by simp))).setCell B 9 none v9 (.inl (by simp)))⟩

theorem strs_of_row {w : World} {a : Option Addr} {cp : Nat} {ss : List ByteArray} (h : w.ownsRow 0 9 1 (.slice a ss.length cp) ss.length (ss.map .string)) : StrsAt w a ss := by
  obtain ⟨a', cp', e, hg⟩ := ownsRow_form h
  injection e with e1 e2 e3
  subst e1
  intro i s hi
  have hil : i < ss.length := (List.getElem?_eq_some_iff.1 hi).1
  obtain ⟨g, rfl, hgl⟩ := hg (by omega)
  exact ⟨g, 0, rfl, row_text h i s hi⟩


set_option maxRecDepth 100000 in
set_option maxHeartbeats 4000000 in
theorem opened_nat (w : World) (k q d v f b : Nat) (tp tg bd : ByteArray) (ks : List ByteArray) (hm : rightM ⟨k, q, d, v, f, b, tp, tg, bd, ks⟩ = true) :
    Calls Tryz.prog 145 #[.string (bytesOf (insideN k q d v f b tp tg bd ks))] w (MsgOut w ⟨k, q, d, v, f, b, tp, tg, bd, ks⟩ #[.bool true]) := by
  have hf := right_facts hm
  have HB := Lib.hid (show k < 256 ∧ q < 256 ∧ v < 256 ∧ d < 281474976710656 ∧ f < 281474976710656 ∧ b < 281474976710656 from ⟨by have := hf.kind; simp only at this; omega, by have := hf.queue; simp only at this; omega, by have := hf.retry; simp only at this; omega,
    by have := hf.due; simp only at this; omega, by have := hf.ref; simp only at this; omega, by have := hf.born; simp only at this; omega⟩)
  have HG := Lib.hid (show tp.size ≤ 16 ∧ tg.size ≤ 16 ∧ bd.size ≤ 200 ∧ ks.length ≤ 3 ∧ ∀ s ∈ ks, s.size ≤ 16 from ⟨hf.topic, hf.tag, hf.body, hf.keys, hf.key⟩)
  have HM := Lib.hid hm
  have hkn0 : ((k : Int) != 0) = true := by have := hf.kind0; simp only at this; simp; omega
  have hkn1 : ((k : Int) == 0) = false := by have := hf.kind0; simp only at this; simp; omega
  have HKN := Lib.hid (show k ≠ 0 by have := hf.kind0; simp only at this; omega)
  have hlen : (bytesOf (insideN k q d v f b tp tg bd ks)).size ≤ 314 := by
    rw [bytesOf_size]
    have := inside_len hf
    exact this
  have hch := inside_chain k q d v f b tp tg bd ks
  obtain ⟨s, hs⟩ : ∃ s, s = bytesOf (insideN k q d v f b tp tg bd ks) := ⟨_, rfl⟩
  rw [← hs] at hlen hch ⊢
  obtain ⟨r13, e13⟩ : ∃ x : ByteArray, x = bytesOf (listB ks) ++ ⟨#[]⟩ := ⟨_, rfl⟩
  obtain ⟨r12, e12⟩ : ∃ x : ByteArray, x = bd ++ r13 := ⟨_, rfl⟩
  obtain ⟨r11, e11⟩ : ∃ x : ByteArray, x = numB 2 bd.size ++ r12 := ⟨_, rfl⟩
  obtain ⟨r10, e10⟩ : ∃ x : ByteArray, x = tg ++ r11 := ⟨_, rfl⟩
  obtain ⟨r9, e9⟩ : ∃ x : ByteArray, x = numB 2 tg.size ++ r10 := ⟨_, rfl⟩
  obtain ⟨r8, e8⟩ : ∃ x : ByteArray, x = tp ++ r9 := ⟨_, rfl⟩
  obtain ⟨r7, e7⟩ : ∃ x : ByteArray, x = numB 2 tp.size ++ r8 := ⟨_, rfl⟩
  obtain ⟨r6, e6⟩ : ∃ x : ByteArray, x = numB 6 f ++ r7 := ⟨_, rfl⟩
  obtain ⟨r5, e5⟩ : ∃ x : ByteArray, x = numB 6 d ++ r6 := ⟨_, rfl⟩
  obtain ⟨r4, e4⟩ : ∃ x : ByteArray, x = numB 6 b ++ r5 := ⟨_, rfl⟩
  obtain ⟨r3, e3⟩ : ∃ x : ByteArray, x = numB 1 v ++ r4 := ⟨_, rfl⟩
  obtain ⟨r2, e2⟩ : ∃ x : ByteArray, x = numB 1 q ++ r3 := ⟨_, rfl⟩
  rw [← e13, ← e12, ← e11, ← e10, ← e9, ← e8, ← e7, ← e6, ← e5, ← e4, ← e3, ← e2] at hch
  have HSZ := Lib.hid (show s.size ≤ 314 ∧ r2.size ≤ 314 ∧ r3.size ≤ 314 ∧ r4.size ≤ 314 ∧ r5.size ≤ 314 ∧ r6.size ≤ 314 ∧ r7.size ≤ 314 ∧ r8.size ≤ 314 ∧ r9.size ≤ 314 ∧ r10.size ≤ 314 ∧ r11.size ≤ 314 ∧ r12.size ≤ 314 ∧ r13.size ≤ 314 by
    have a1 := congrArg ByteArray.size hch
    have a2 := congrArg ByteArray.size e2
    have a3 := congrArg ByteArray.size e3
    have a4 := congrArg ByteArray.size e4
    have a5 := congrArg ByteArray.size e5
    have a6 := congrArg ByteArray.size e6
    have a7 := congrArg ByteArray.size e7
    have a8 := congrArg ByteArray.size e8
    have a9 := congrArg ByteArray.size e9
    have a10 := congrArg ByteArray.size e10
    have a11 := congrArg ByteArray.size e11
    have a12 := congrArg ByteArray.size e12
    rw [ByteArray.size_append] at a1 a2 a3 a4 a5 a6 a7 a8 a9 a10 a11 a12
    omega)
  have E1 := Lib.hid hch
  have E2 := Lib.hid e2
  have E3 := Lib.hid e3
  have E4 := Lib.hid e4
  have E5 := Lib.hid e5
  have E6 := Lib.hid e6
  have E7 := Lib.hid e7
  have E8 := Lib.hid e8
  have E9 := Lib.hid e9
  have E10 := Lib.hid e10
  have E11 := Lib.hid e11
  have E12 := Lib.hid e12
  have E13 := Lib.hid e13
  clear hm hf hlen hch hs e2 e3 e4 e5 e6 e7 e8 e9 e10 e11 e12 e13
  go_enter Tryz.func145, Tryz.ntmps145
  go_wp2_with fail
  obtain ⟨w0, hw0⟩ : ∃ w0, w0 = w.alloc (.cells #[.int .i64 0, .int .i64 0, .int .i64 0, .int .i64 0, .int .i64 0, .int .i64 0, .string ⟨#[]⟩, .string ⟨#[]⟩, .string ⟨#[]⟩, .slice none 0 0] 46) := ⟨_, rfl⟩
  have hR0 : w0.heap[w.heap.size]? = some (msgObj noMsg (.slice none 0 0)) := by rw [hw0]; exact heap_alloc_at w _
  have hT0 : Touch [] w w0 := by rw [hw0]; exact (Touch.refl _ _).alloc _
  rw [← hw0]
  clear hw0
  obtain ⟨B, hB⟩ : ∃ B, B = w.heap.size := ⟨_, rfl⟩
  rw [← hB] at hR0 ⊢
  refine (rnew_ok w0 s).mono ?_
  rintro e w1 ⟨rfl, hr, hT⟩
  obtain ⟨r, hrr⟩ : ∃ r, r = w0.heap.size := ⟨_, rfl⟩
  rw [← hrr] at hr ⊢
  have HI := Lib.hid (show B < r ∧ w.heap.size ≤ B from ⟨by have := lt_of_heap hR0; omega, by omega⟩)
  have HR := Lib.hid hr
  have HT := Lib.hid (show Touch [r] w0 w1 from hT.nil)
  have HW := Lib.hid (And.intro hR0 (And.intro hT0 hrr))
  clear hr hT hR0 hT0 hrr hB
  go_wp2_with fail
  -- kind, queue, retry
  refine (rnum_be _ r 1 k r2 (by have h := HR.out; rw [E1.out] at h; exact h) (by have := HSZ.out; omega) (by omega) (by omega) (by have := HB.out; omega)).mono ?_
  rintro e w2 ⟨rfl, hr, hT⟩
  replace HR := Lib.hid hr
  replace HT := Lib.hid (HT.out.trans' hT)
  clear hr hT
  go_wp2_with fail
  refine (rnum_be _ r 1 q r3 (by have h := HR.out; rw [E2.out] at h; exact h) (by have := HSZ.out; omega) (by omega) (by omega) (by have := HB.out; omega)).mono ?_
  rintro e w3 ⟨rfl, hr, hT⟩
  replace HR := Lib.hid hr
  replace HT := Lib.hid (HT.out.trans' hT)
  clear hr hT
  go_wp2_with fail
  refine (rnum_be _ r 1 v r4 (by have h := HR.out; rw [E3.out] at h; exact h) (by have := HSZ.out; omega) (by omega) (by omega) (by have := HB.out; omega)).mono ?_
  rintro e w4 ⟨rfl, hr, hT⟩
  replace HR := Lib.hid hr
  replace HT := Lib.hid (HT.out.trans' hT)
  clear hr hT
  go_wp2_with fail
  -- the record's own block
  obtain ⟨w5, hw5⟩ : ∃ w5, w5 = w4.alloc (.cells #[.int .i64 k, .int .i64 q, .int .i64 0, .int .i64 v, .int .i64 0, .int .i64 0, .string ⟨#[]⟩, .string ⟨#[]⟩, .string ⟨#[]⟩, .slice none 0 0] 46) := ⟨_, rfl⟩
  obtain ⟨M, hM⟩ : ∃ M, M = w4.heap.size := ⟨_, rfl⟩
  have h5 : w5.heap[M]? = some (.cells #[.int .i64 k, .int .i64 q, .int .i64 0, .int .i64 v, .int .i64 0, .int .i64 0, .string ⟨#[]⟩, .string ⟨#[]⟩, .string ⟨#[]⟩, .slice none 0 0] 46 (0, 0)) := by rw [hw5, hM]; exact heap_alloc_at w4 _
  have hT5 : Touch [] w4 w5 := by rw [hw5]; exact (Touch.refl _ _).alloc _
  rw [← hw5, ← hM]
  have hrM : r < M := by rw [hM]; exact lt_of_heap HR.out
  have hR := HR.out.touch hT5 (by simp)
  replace HR := Lib.hid hR
  replace HT := Lib.hid (show Touch [r, M] w0 w5 from (HT.out.trans' hT5.nil).mono (by simp))
  have HMM := Lib.hid (show r < M ∧ B < M from ⟨hrM, by have := HI.out; omega⟩)
  have H5 := Lib.hid h5
  clear hw5 hM hrM hR hT5 h5
  refine (rnum_be _ r 6 b r5 (by have h := HR.out; rw [E4.out] at h; exact h) (by have := HSZ.out; omega) (by omega) (by omega) (by have := HB.out; omega)).mono ?_
  rintro e w6 ⟨rfl, hr, hT⟩
  replace HR := Lib.hid hr
  replace H5 := Lib.hid (hT.heap H5.out (by have := HMM.out; simp; omega))
  replace HT := Lib.hid (HT.out.trans' (hT.mono (by simp)))
  clear hr hT
  go_wp2_with fail
  refine (rnum_be _ r 6 d r6 (by have h := HR.out; rw [E5.out] at h; exact h) (by have := HSZ.out; omega) (by omega) (by omega) (by have := HB.out; omega)).mono ?_
  rintro e w7 ⟨rfl, hr, hT⟩
  replace HR := Lib.hid hr
  replace H5 := Lib.hid (hT.heap H5.out (by have := HMM.out; simp; omega))
  replace HT := Lib.hid (HT.out.trans' (hT.mono (by simp)))
  clear hr hT
  go_wp2_with fail
  refine (rnum_be _ r 6 f r7 (by have h := HR.out; rw [E6.out] at h; exact h) (by have := HSZ.out; omega) (by omega) (by omega) (by have := HB.out; omega)).mono ?_
  rintro e w8 ⟨rfl, hr, hT⟩
  have h8 := hT.heap H5.out (by have := HMM.out; simp; omega)
  replace HR := Lib.hid hr
  replace HT := Lib.hid (HT.out.trans' (hT.mono (by simp)))
  have c2 := cell_of h8 2 _ rfl
  have c4 := cell_of h8 4 _ rfl
  have c5 := cell_of h8 5 _ rfl
  have g2 := free_of h8 2
  have g4 := free_of h8 4
  have g5 := free_of h8 5
  have H8 := Lib.hid h8
  clear hr hT h8
  go_wp2_with fail
  obtain ⟨w9, hw9⟩ : ∃ w9, w9 = ((w8.setCell ⟨M, 5, none⟩ (.int .i64 (b : Int))).setCell ⟨M, 2, none⟩ (.int .i64 (d : Int))).setCell ⟨M, 4, none⟩ (.int .i64 (f : Int)) := ⟨_, rfl⟩
  have h9 : w9.heap[M]? = some (.cells #[.int .i64 k, .int .i64 q, .int .i64 d, .int .i64 v, .int .i64 f, .int .i64 b, .string ⟨#[]⟩, .string ⟨#[]⟩, .string ⟨#[]⟩, .slice none 0 0] 46 (0, 0)) := by
    rw [hw9]; exact heap_setCell_at (heap_setCell_at (heap_setCell_at H8.out 5 _) 2 _) 4 _
  have hT9 : Touch [M] w8 w9 := by
    rw [hw9]; exact (((Touch.refl [M] w8).setCell _ _ _ _ (by simp)).setCell _ _ _ _ (by simp)).setCell _ _ _ _ (by simp)
  rw [← hw9]
  replace HR := Lib.hid (HR.out.touch hT9 (by have := HMM.out; simp; omega))
  replace HT := Lib.hid (HT.out.trans' (hT9.mono (by simp)))
  have H9 := Lib.hid h9
  clear hw9 h9 hT9 c2 c4 c5 g2 g4 g5
  -- the texts
  refine (rtext_ok _ r 16 tp r9 (by have h := HR.out; rw [E7.out, E8.out] at h; exact h) (by have := HSZ.out; omega) (by have := HG.out; omega) (by have := HG.out; omega)).mono ?_
  rintro e w10 ⟨rfl, hr, hT⟩
  replace HR := Lib.hid hr
  replace H9 := Lib.hid (hT.heap H9.out (by have := HMM.out; simp; omega))
  replace HT := Lib.hid (HT.out.trans' (hT.mono (by simp)))
  clear hr hT
  go_wp2_with fail
  refine (rtext_ok _ r 16 tg r11 (by have h := HR.out; rw [E9.out, E10.out] at h; exact h) (by have := HSZ.out; omega) (by have := HG.out; omega) (by have := HG.out; omega)).mono ?_
  rintro e w11 ⟨rfl, hr, hT⟩
  replace HR := Lib.hid hr
  replace H9 := Lib.hid (hT.heap H9.out (by have := HMM.out; simp; omega))
  replace HT := Lib.hid (HT.out.trans' (hT.mono (by simp)))
  clear hr hT
  go_wp2_with fail
  refine (rtext_ok _ r 200 bd r13 (by have h := HR.out; rw [E11.out, E12.out] at h; exact h) (by have := HSZ.out; omega) (by have := HG.out; omega) (by have := HG.out; omega)).mono ?_
  rintro e w12 ⟨rfl, hr, hT⟩
  have h12 := hT.heap H9.out (by have := HMM.out; simp; omega)
  replace HR := Lib.hid hr
  replace HT := Lib.hid (HT.out.trans' (hT.mono (by simp)))
  have c6 := cell_of h12 6 _ rfl
  have c7 := cell_of h12 7 _ rfl
  have c8 := cell_of h12 8 _ rfl
  have g6 := free_of h12 6
  have g7 := free_of h12 7
  have g8 := free_of h12 8
  have H12 := Lib.hid h12
  clear hr hT h12
  go_wp2_with fail
  obtain ⟨w13, hw13⟩ : ∃ w13, w13 = ((w12.setCell ⟨M, 6, none⟩ (.string tp)).setCell ⟨M, 7, none⟩ (.string tg)).setCell ⟨M, 8, none⟩ (.string bd) := ⟨_, rfl⟩
  have h13 : w13.heap[M]? = some (.cells #[.int .i64 k, .int .i64 q, .int .i64 d, .int .i64 v, .int .i64 f, .int .i64 b, .string tp, .string tg, .string bd, .slice none 0 0] 46 (0, 0)) := by
    rw [hw13]; exact heap_setCell_at (heap_setCell_at (heap_setCell_at H12.out 6 _) 7 _) 8 _
  have hT13 : Touch [M] w12 w13 := by
    rw [hw13]; exact (((Touch.refl [M] w12).setCell _ _ _ _ (by simp)).setCell _ _ _ _ (by simp)).setCell _ _ _ _ (by simp)
  rw [← hw13]
  replace HR := Lib.hid (HR.out.touch hT13 (by have := HMM.out; simp; omega))
  replace HT := Lib.hid (HT.out.trans' (hT13.mono (by simp)))
  have H13 := Lib.hid h13
  clear hw13 h13 hT13 c6 c7 c8 g6 g7 g8
  -- the keys
  refine (rlist_ok _ r 3 16 ks ⟨#[]⟩ (by have h := HR.out; rw [E13.out] at h; exact h) (by show (0 : Nat) ≤ _; omega) (by have := HG.out; omega) (by have := HG.out; omega) (fun s hs => by have := HG.out.2.2.2.2 s hs; omega)).mono ?_
  rintro e w14 ⟨a, cp, rfl, hown, hfr, hr, hT⟩
  have h14 := hT.heap H13.out (by have := HMM.out; simp; omega)
  replace HR := Lib.hid hr
  have HT13 := Lib.hid HT.out
  replace HT := Lib.hid (HT.out.trans' (hT.mono (by simp)))
  have c9 := cell_of h14 9 _ rfl
  have g9 := free_of h14 9
  have H14 := Lib.hid h14
  have HOW := Lib.hid (And.intro hown hfr)
  clear hr hT h14 hown hfr
  go_wp2_with fail
  obtain ⟨w15, hw15⟩ : ∃ w15, w15 = w14.setCell ⟨M, 9, none⟩ (.slice a ks.length cp) := ⟨_, rfl⟩
  have h15 : w15.heap[M]? = some (.cells #[.int .i64 k, .int .i64 q, .int .i64 d, .int .i64 v, .int .i64 f, .int .i64 b, .string tp, .string tg, .string bd, .slice a ks.length cp] 46 (0, 0)) := by
    rw [hw15]; exact heap_setCell_at H14.out 9 _
  have hT15 : Touch [M] w14 w15 := by
    rw [hw15]; exact (Touch.refl [M] w14).setCell _ _ _ _ (by simp)
  rw [← hw15]
  have hown15 := ownsRow_other HOW.out.1 (fun b hb => hT15.block b (HOW.out.1.lt b hb).2 (by
    have h1 := HOW.out.2 b hb
    have h2 := lt_of_heap H13.out
    simp; omega))
  have hkeys : KeysAt w15 (.slice a ks.length cp) ks := ⟨a, cp, rfl, strs_of_row hown15⟩
  have hrd := HR.out.touch hT15 (by have := HMM.out; simp; omega)
  have hTT : Touch [r, M] w0 w15 := HT.out.trans' (hT15.mono (by simp))
  have hB15 := hTT.heap HW.out.1 (by have := HMM.out; have := HI.out; simp; omega)
  have HK := Lib.hid (And.intro hkeys hown15)
  have HKB := Lib.hid (show ∀ g, (Value.slice a ks.length cp).ownBlock = some g → g ≠ B ∧ w.heap.size ≤ g from fun g hg => by
    have h1 := HOW.out.2 g hg
    have h2 := lt_of_heap H13.out
    have h3 := HMM.out
    have h4 := HI.out
    exact ⟨by omega, by omega⟩)
  have HTT := Lib.hid hTT
  have hright : ∀ (W : World), Touch [B] w15 W → Calls Tryz.prog 188 #[.agg #[.int .i64 k, .int .i64 q, .int .i64 d, .int .i64 v, .int .i64 f, .int .i64 b, .string tp, .string tg, .string bd, .slice a ks.length cp]] W fun e w' => e = .returned (.bool true) ∧ Touch [] W w' := fun W hT => by
    have := right_ok W ⟨k, q, d, v, f, b, tp, tg, bd, ks⟩ (.slice a ks.length cp) (hkeys.touch hT (fun b hb => by
      have h1 := HOW.out.2 b hb
      have h2 := lt_of_heap H13.out
      have := HMM.out
      simp; omega)) (by have := HG.out; simp only; omega) (by have := HKN.out; simp only; omega)
    rw [HM.out] at this
    exact this
  have HRI := Lib.hid hright
  have hT0 : Touch [B] w15 w15.drew := (Touch.refl [B] w15).drew
  have hBM : M ∉ [B] := by have := HMM.out; simp; omega
  have h16 : w15.drew.heap[M]? = some (.cells #[.int .i64 k, .int .i64 q, .int .i64 d, .int .i64 v, .int .i64 f, .int .i64 b, .string tp, .string tg, .string bd, .slice a ks.length cp] 46 (0, 0)) := h15
  have hrd2 : RdAt w15.drew r ⟨#[]⟩ := hrd
  have hB16 : w15.drew.heap[B]? = some (msgObj noMsg (.slice none 0 0)) := hB15
  clear hw15 hT15 hown15 hkeys hTT hright h15 c9 g9 HR HT H5 H9 H8 H12 H13 H14 HT13 E1 E2 E3 E4 E5 E6 E7 E8 E9 E10 E11 E12 E13 HSZ HB HG HM HKN HOW
  have m0 : w15.drew.cell? ⟨M, 0, none⟩ = some (.int .i64 (k : Int)) := cell_of h16 0 (.int .i64 (k : Int)) rfl
  have m1 : w15.drew.cell? ⟨M, 1, none⟩ = some (.int .i64 (q : Int)) := cell_of h16 1 (.int .i64 (q : Int)) rfl
  have m2 : w15.drew.cell? ⟨M, 2, none⟩ = some (.int .i64 (d : Int)) := cell_of h16 2 (.int .i64 (d : Int)) rfl
  have m3 : w15.drew.cell? ⟨M, 3, none⟩ = some (.int .i64 (v : Int)) := cell_of h16 3 (.int .i64 (v : Int)) rfl
  have m4 : w15.drew.cell? ⟨M, 4, none⟩ = some (.int .i64 (f : Int)) := cell_of h16 4 (.int .i64 (f : Int)) rfl
  have m5 : w15.drew.cell? ⟨M, 5, none⟩ = some (.int .i64 (b : Int)) := cell_of h16 5 (.int .i64 (b : Int)) rfl
  have m6 : w15.drew.cell? ⟨M, 6, none⟩ = some (.string tp) := cell_of h16 6 (.string tp) rfl
  have m7 : w15.drew.cell? ⟨M, 7, none⟩ = some (.string tg) := cell_of h16 7 (.string tg) rfl
  have m8 : w15.drew.cell? ⟨M, 8, none⟩ = some (.string bd) := cell_of h16 8 (.string bd) rfl
  have m9 : w15.drew.cell? ⟨M, 9, none⟩ = some (.slice a ks.length cp) := cell_of h16 9 (.slice a ks.length cp) rfl
  have HB16 := Lib.hid hB16
  clear h16 hrd hB15 hB16
  go_region_held3 (fun w' => w'.cell? ⟨M, 0, none⟩ = some (.int .i64 (k : Int)) ∧ w'.cell? ⟨M, 1, none⟩ = some (.int .i64 (q : Int)) ∧ w'.cell? ⟨M, 2, none⟩ = some (.int .i64 (d : Int)) ∧ w'.cell? ⟨M, 3, none⟩ = some (.int .i64 (v : Int)) ∧ w'.cell? ⟨M, 4, none⟩ = some (.int .i64 (f : Int)) ∧ w'.cell? ⟨M, 5, none⟩ = some (.int .i64 (b : Int)) ∧ w'.cell? ⟨M, 6, none⟩ = some (.string tp) ∧ w'.cell? ⟨M, 7, none⟩ = some (.string tg) ∧ w'.cell? ⟨M, 8, none⟩ = some (.string bd) ∧ w'.cell? ⟨M, 9, none⟩ = some (.slice a ks.length cp) ∧ Touch [B] w15 w')
    (first
      | (with_reducible exact ⟨m0, m1, m2, m3, m4, m5, m6, m7, m8, m9, hT0⟩)
      | (with_reducible exact ⟨n0, n1, n2, n3, n4, n5, n6, n7, n8, n9, hT5⟩)
      | (have hTS := (((((((((((Touch.refl [B] w4).setCell B 0 none (.int .i64 (k : Int)) (.inl (by simp))).setCell B 1 none (.int .i64 (q : Int)) (.inl (by simp))).setCell B 2 none (.int .i64 (d : Int)) (.inl (by simp))).setCell B 3 none (.int .i64 (v : Int)) (.inl (by simp))).setCell B 4 none (.int .i64 (f : Int)) (.inl (by simp))).setCell B 5 none (.int .i64 (b : Int)) (.inl (by simp))).setCell B 6 none (.string tp) (.inl (by simp))).setCell B 7 none (.string tg) (.inl (by simp))).setCell B 8 none (.string bd) (.inl (by simp))).setCell B 9 none (.slice a ks.length cp) (.inl (by simp))); with_reducible exact ⟨hTS.cell n0 hBM, hTS.cell n1 hBM, hTS.cell n2 hBM, hTS.cell n3 hBM, hTS.cell n4 hBM, hTS.cell n5 hBM, hTS.cell n6 hBM, hTS.cell n7 hBM, hTS.cell n8 hBM, hTS.cell n9 hBM, hT5.trans' hTS⟩))
    (first
      | (go_at_call 200; go_split_ands; refine (rend_ok _ r hrd2).mono ?_; rintro e w4 ⟨rfl, rfl⟩)
      | (go_at_call 188; go_split_ands; refine (HRI.out _ hT0).mono ?_; rintro e w4 ⟨rfl, hT4⟩; have hT5 : Touch [B] w15 w4 := hT0.trans' hT4.nil; have hB4 := hT4.heap (show w15.drew.heap[B]? = _ from HB16.out) (by simp); unfold msgObj at hB4; have n0 := hT4.cell m0 (by simp); have n1 := hT4.cell m1 (by simp); have n2 := hT4.cell m2 (by simp); have n3 := hT4.cell m3 (by simp); have n4 := hT4.cell m4 (by simp); have n5 := hT4.cell m5 (by simp); have n6 := hT4.cell m6 (by simp); have n7 := hT4.cell m7 (by simp); have n8 := hT4.cell m8 (by simp); have n9 := hT4.cell m9 (by simp); have x0 := cell_of hB4 0 _ rfl; have y0 := free_of hB4 0; have x1 := cell_of hB4 1 _ rfl; have y1 := free_of hB4 1; have x2 := cell_of hB4 2 _ rfl; have y2 := free_of hB4 2; have x3 := cell_of hB4 3 _ rfl; have y3 := free_of hB4 3; have x4 := cell_of hB4 4 _ rfl; have y4 := free_of hB4 4; have x5 := cell_of hB4 5 _ rfl; have y5 := free_of hB4 5; have x6 := cell_of hB4 6 _ rfl; have y6 := free_of hB4 6; have x7 := cell_of hB4 7 _ rfl; have y7 := free_of hB4 7; have x8 := cell_of hB4 8 _ rfl; have y8 := free_of hB4 8; have x9 := cell_of hB4 9 _ rfl; have y9 := free_of hB4 9))
  obtain ⟨zf, hTF⟩ := store10 hB4 (.int .i64 (k : Int)) (.int .i64 (q : Int)) (.int .i64 (d : Int)) (.int .i64 (v : Int)) (.int .i64 (f : Int)) (.int .i64 (b : Int)) (.string tp) (.string tg) (.string bd) (.slice a ks.length cp)
  have hTS := hT5.trans' hTF
  obtain ⟨Wf, hWf⟩ : ∃ Wf, Wf = ((((((((((w4.setCell ⟨B, 0, none⟩ (.int .i64 (k : Int))).setCell ⟨B, 1, none⟩ (.int .i64 (q : Int))).setCell ⟨B, 2, none⟩ (.int .i64 (d : Int))).setCell ⟨B, 3, none⟩ (.int .i64 (v : Int))).setCell ⟨B, 4, none⟩ (.int .i64 (f : Int))).setCell ⟨B, 5, none⟩ (.int .i64 (b : Int))).setCell ⟨B, 6, none⟩ (.string tp)).setCell ⟨B, 7, none⟩ (.string tg)).setCell ⟨B, 8, none⟩ (.string bd)).setCell ⟨B, 9, none⟩ (.slice a ks.length cp)) := ⟨_, rfl⟩
  rw [← hWf] at zf hTS ⊢
  clear hTF hWf
  have s0 := cell_of zf 0 (.int .i64 (k : Int)) rfl
  have s1 := cell_of zf 1 (.int .i64 (q : Int)) rfl
  have s2 := cell_of zf 2 (.int .i64 (d : Int)) rfl
  have s3 := cell_of zf 3 (.int .i64 (v : Int)) rfl
  have s4 := cell_of zf 4 (.int .i64 (f : Int)) rfl
  have s5 := cell_of zf 5 (.int .i64 (b : Int)) rfl
  have s6 := cell_of zf 6 (.string tp) rfl
  have s7 := cell_of zf 7 (.string tg) rfl
  have s8 := cell_of zf 8 (.string bd) rfl
  have s9 := cell_of zf 9 (.slice a ks.length cp) rfl
  have HTS := Lib.hid hTS
  clear hTS zf
  go_wp2_with fail
  refine bodyPost_ret (v := .tuple #[msgV ⟨k, q, d, v, f, b, tp, tg, bd, ks⟩ (.slice a ks.length cp), .bool true]) (by simp [results, Tryz.results145, go_sem, msgV, s0, s1, s2, s3, s4, s5, s6, s7, s8, s9]) rfl ⟨.slice a ks.length cp, rfl, HK.out.1.touch HTS.out (fun g hg => by have := (HKB.out g hg).1; simp; omega), fun g hg => (HKB.out g hg).2, ?_⟩
  have h1 : Touch [] w w15 := HW.out.2.1.trans HTT.out (fun x hx => by
    have := HW.out.2.2
    have := HW.out.2.1.size
    have := HMM.out
    simp at hx; right; omega)
  exact h1.trans HTS.out (fun x hx => by
    have := HI.out
    simp at hx; right; omega)
end Go.Proofs.YtljgifbnmgpdbaaGreatDoor
