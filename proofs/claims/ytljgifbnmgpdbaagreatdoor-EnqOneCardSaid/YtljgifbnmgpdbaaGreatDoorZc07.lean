/- Layer 6 (rec): what a message carries. (Here too: Layer 6 (rec): texts that are unlike.) -/
import Derived.Test.YtljgifbnmgpdbaaGreatDoorZc06
set_option linter.unusedSimpArgs false
set_option linter.unusedVariables false
set_option linter.unnecessarySimpa false
namespace Go.Proofs.YtljgifbnmgpdbaaGreatDoor
open Go Go.Proofs Go.RowKit Go.Maps Go.Sort Go.Shelf

attribute [local go_sem] Oper.semAt_some

theorem compact_len {zs : List (List UInt8)} (hs : zs.Pairwise (· ≤ ·)) : (Lib.compact zs).length = zs.length ↔ zs.Nodup := by
  have h1 : (Lib.compact zs).length = ((List.range zs.length).filter (Lib.keeps zs.toArray)).length := by simp [Lib.compact, Lib.compactUpTo]
  rw [h1]
  conv => lhs; rhs; rw [← List.length_range (n := zs.length)]
  rw [List.length_filter_eq_length_iff]
  have hget : ∀ j, (h : j < zs.length) → zs.toArray[j]! = zs[j] := fun j h => by simp [h]
  constructor
  · intro h
    rw [List.Nodup, List.pairwise_iff_getElem]
    intro i j hi hj hij e
    have hk := h j (by simp [hj])
    unfold Lib.keeps at hk
    rw [decide_eq_true_eq, hget j hj, hget (j - 1) (by omega)] at hk
    rcases hk with hk | hk
    · omega
    · apply hk
      have a1 : zs[i] ≤ zs[j - 1] := by
        by_cases e2 : i = j - 1
        · subst e2; exact List.le_refl _
        · exact List.pairwise_iff_getElem.1 hs i (j - 1) hi (by omega) (by omega)
      have a2 : zs[j - 1] ≤ zs[j] := List.pairwise_iff_getElem.1 hs (j - 1) j (by omega) hj (by omega)
      rw [e] at a1
      exact List.le_antisymm a1 a2
  · intro h j hj
    have hj : j < zs.length := by simpa using hj
    unfold Lib.keeps
    rw [decide_eq_true_eq]
    by_cases e : j = 0
    · exact .inl e
    · right
      rw [hget j hj, hget (j - 1) (by omega)]
      intro e2
      exact List.pairwise_iff_getElem.1 h (j - 1) j (by omega) hj (by omega) e2.symm

theorem encStr_eq (s : ByteArray) : encStr s.data.toList = Value.string s := by simp [encStr]

set_option maxRecDepth 100000 in
set_option maxHeartbeats 2000000 in
theorem values_gives (n : Nat) (w : World) (Bs b off cap : Nat) (zs : List (List UInt8)) (hz : zs.length ≤ 1000) (hB : w.cell? ⟨Bs, 0, none⟩ = some (.slice (some ⟨b, off, none⟩) zs.length cap))
    (hc : ∀ j, j < zs.length → w.cell? ⟨b, off + j, none⟩ = some (encStr (zs[j]?.getD []))) (hbl : b < w.heap.size) :
    SeqGivesJ Fence.wide (n + 1) Tryz.prog 326 #[.pointer (some ⟨Bs, 0, none⟩)] encStr (fun ss => ss = zs) zs.length w := by
  intro l J W hW hJ hJb hY h0
  have hBl := World.block_lt_of_cell? w _ hB
  have hBs := (hW.cell (p := ⟨Bs, 0, none⟩) hBl).trans hB
  refine callsIn_of_wp Tryz.func326 rfl trivial ?_ rfl
  simp only [Tryz.ntmps326, List.size_toArray, List.length_cons, List.length_nil, Nat.reduceAdd, Nat.reduceSub, Array.replicate_succ, Array.replicate_zero, List.push_toArray, List.append_toArray, List.nil_append, List.cons_append]
  gi_wp2
  gi_loopw [7] (fun i wr => ∃ k : Nat, k ≤ zs.length ∧ i = .int .i64 k ∧ J (zs.take k) wr) (fun i _ => zs.length - (intOf i).toNat)
  case atStart => exact ⟨0, Nat.zero_le _, rfl, h0⟩
  case round =>
    obtain ⟨k, hk, rfl, hJs⟩ := hrel
    have hwb := hJb _ _ hJs
    by_cases hlt : k < zs.length
    · have hcx : wr.cell? ⟨b, off + k, none⟩ = some (encStr (zs[k]?.getD [])) := (hwb.cell (p := ⟨b, off + k, none⟩) hbl).trans (hc k hlt)
      have htk : zs.take k ++ [zs[k]?.getD []] = zs.take (k + 1) := by
        rw [List.take_succ_eq_append_getElem hlt, List.getElem?_eq_getElem hlt]; rfl
      obtain ⟨x, hx⟩ : ∃ x, x = zs[k]?.getD [] := ⟨_, rfl⟩
      rw [← hx] at hcx htk
      obtain ⟨fn, tmps, assign, body, hy, hR⟩ := hY _ x wr hJs (by rw [List.length_take]; omega)
      have HTK := Lib.hid htk
      clear htk hx
      gi_wp2
      refine hR.mono ?_
      rintro e W3 ⟨rfl, hJ3, hk3⟩
      gi_wp2
      go_roundw
      case rel => exact ⟨k + 1, by omega, by simp, by rw [← HTK.out]; exact hJ3⟩
      case measure => simp [intOf]; omega
    · have hkn : k = zs.length := by omega
      have HK := Lib.hid hkn
      clear hkn
      gi_wp2
      go_end0
      rw [HK.out, List.take_length] at hJs
      exact ⟨⟨_, rfl⟩, _, rfl, hJs⟩

set_option maxRecDepth 100000 in
set_option maxHeartbeats 2000000 in
theorem values_gives_nil (n : Nat) (w : World) (Bs cap : Nat) (a : Option Addr) (hB : w.cell? ⟨Bs, 0, none⟩ = some (.slice a 0 cap)) :
    SeqGivesJ Fence.wide (n + 1) Tryz.prog 326 #[.pointer (some ⟨Bs, 0, none⟩)] encStr (fun ss => ss = []) 0 w := by
  intro l J W hW hJ hJb hY h0
  have hBl := World.block_lt_of_cell? w _ hB
  have hBs := (hW.cell (p := ⟨Bs, 0, none⟩) hBl).trans hB
  refine callsIn_of_wp Tryz.func326 rfl trivial ?_ rfl
  simp only [Tryz.ntmps326, List.size_toArray, List.length_cons, List.length_nil, Nat.reduceAdd, Nat.reduceSub, Array.replicate_succ, Array.replicate_zero, List.push_toArray, List.append_toArray, List.nil_append, List.cons_append]
  gi_wp2
  gi_loopw [7] (fun i wr => i = .int .i64 0 ∧ J [] wr) (fun _ _ => 0)
  case atStart => exact ⟨rfl, h0⟩
  case round =>
    obtain ⟨rfl, hJs⟩ := hrel
    gi_wp2
    go_end0
    exact ⟨⟨_, rfl⟩, _, rfl, hJs⟩

set_option maxRecDepth 100000 in
set_option maxHeartbeats 1000000 in
theorem values_ok (w : World) (a : Option Addr) (n cap : Nat) : Calls Tryz.prog 307 #[.slice a n cap] w fun e w' => e = .returned (.func (.func 326) #[] #[.pointer (some ⟨w.heap.size, 0, none⟩)]) ∧ w' = w.alloc (.cells #[.slice a n cap] 44) := by
  go_enter Tryz.func307, Tryz.ntmps307
  go_wp2
  go_ret
  exact ⟨rfl, rfl⟩

theorem sorted_le (zs : List (List UInt8)) : (zs.mergeSort fun x y => decide (x ≤ y)).Pairwise (· ≤ ·) := by
  have h := List.pairwise_mergeSort (le := fun x y : List UInt8 => decide (x ≤ y)) (fun a b c h1 h2 => by
    simp only [decide_eq_true_eq] at *; exact List.le_trans h1 h2) (fun a b => by
    simp only [Bool.or_eq_true, decide_eq_true_eq]; exact List.le_total a b) zs
  exact h.imp fun h => by simpa using h

set_option maxRecDepth 100000 in
set_option maxHeartbeats 1000000 in
theorem unlike_ok (w : World) (ss : List ByteArray) (a : Option Addr) (cap : Nat) (hc : StrsAt w a ss) (hl : ss.length ≤ 1000) :
    Calls Tryz.prog 278 #[.slice a ss.length cap] w fun e w' => e = .returned (.bool (decide ss.Nodup)) ∧ Touch [] w w' := by
  obtain ⟨zs, hzs⟩ : ∃ zs, zs = ss.map fun s => s.data.toList := ⟨_, rfl⟩
  have hzl : zs.length = ss.length := by rw [hzs]; simp
  have hnd : zs.Nodup ↔ ss.Nodup := by
    rw [hzs]
    constructor
    · intro h; exact (List.pairwise_map.1 h).imp fun hne e => hne (by rw [e])
    · intro h; exact List.pairwise_map.2 (h.imp fun hne e => hne (bytes_ext e))
  -- what the loop over the texts gives, in the world behind slices.Values
  obtain ⟨w1, hw1⟩ : ∃ w1, w1 = w.alloc (.cells #[.slice a ss.length cap] 44) := ⟨_, rfl⟩
  have hT1 : Touch [] w w1 := by rw [hw1]; exact (Touch.refl _ _).alloc _
  have hB : w1.cell? ⟨w.heap.size, 0, none⟩ = some (.slice a zs.length cap) := by rw [hw1, hzl]; exact cell_of (heap_alloc_at w _) 0 _ rfl
  have hgiv : SeqGivesJ Fence.wide (1 + 1) Tryz.prog 326 #[.pointer (some ⟨w.heap.size, 0, none⟩)] encStr (fun s => s = zs) zs.length w1 := by
    cases hss : ss with
    | nil =>
      have hz : zs = [] := by rw [hzs, hss]; rfl
      rw [hz] at hB ⊢
      exact values_gives_nil 1 w1 _ cap a hB
    | cons s0 sr =>
      obtain ⟨b, off, rfl, hc0⟩ := hc 0 s0 (by rw [hss]; rfl)
      have hbl := World.block_lt_of_cell? w _ hc0
      refine values_gives 1 w1 _ b off cap zs (by omega) hB (fun j hj => ?_) (Nat.lt_of_lt_of_le hbl hT1.size)
      have hj2 : j < ss.length := by omega
      obtain ⟨b2, off2, e, hcj⟩ := hc j _ (List.getElem?_eq_getElem hj2)
      cases e
      rw [hT1.cell hcj (by simp)]
      have : zs[j]?.getD [] = ss[j].data.toList := by rw [hzs]; simp [hj2]
      rw [this, encStr_eq]
  have hsort := callsIn_wide.1 (sortedJ_in Tryz.sorted172 Fence.wide 5 trivial trivial trivial trivial rfl (by omega) (Tryz.sorts172 _) (enters_of Tryz.func228 (by kernel_rfl) rfl) 326 #[.pointer (some ⟨w.heap.size, 0, none⟩)] trivial
    (enters_of Tryz.func326 (by kernel_rfl) rfl) (fun s => s = zs) zs.length (by simp only [maxLen]; omega) (by omega) w1 (by rintro s rfl; exact Nat.le_refl _) hgiv)
  change Calls Tryz.prog 172 _ _ _ at hsort
  have HH := Lib.hid (And.intro hzl (And.intro hnd (And.intro hT1 hl)))
  have HW := Lib.hid hw1
  clear hzl hnd hT1 hl hw1 hB hgiv hc hzs
  go_enter Tryz.func278, Tryz.ntmps278
  go_wp2_with fail
  refine (values_ok w a ss.length cap).mono ?_
  rintro e w' ⟨rfl, hw'⟩
  rw [← HW.out] at hw'
  subst hw'
  go_wp2_with fail
  refine hsort.mono ?_
  rintro e w2 ⟨v, s2, rfl, rfl, hrow, hnil, hb⟩
  have hT2 : Touch [] w w2 := HH.out.2.2.1.trans' (Touch.of_below hb)
  obtain ⟨m, hm⟩ : ∃ m, m = s2.mergeSort fun x y => decide (x ≤ y) := ⟨_, rfl⟩
  rw [← hm] at hrow
  have hml : m.length = s2.length := by rw [hm, List.length_mergeSort]
  have hcl : (Lib.compact m).length = s2.length ↔ s2.Nodup := by
    rw [← hml, compact_len (by rw [hm]; exact sorted_le s2)]
    rw [hm]; exact (List.mergeSort_perm s2 _).nodup_iff
  have HM := Lib.hid (And.intro hml (And.intro hcl hT2))
  clear hcl hm hb hT2
  rcases hrow.2 with ⟨rfl, hz⟩ | ⟨gb, cp, cur, rfl, hbase, hgb, r1, r2, r3, r4⟩
  · have hz1 : ss.length = 0 := by have := HH.out.1; omega
    have hss : ss = [] := List.eq_nil_of_length_eq_zero hz1
    subst hss
    have HZ := Lib.hid hz
    clear hz hz1 hrow hnil hml
    go_wp2_with fail
    refine (Tryz.slices_Compact_string_empty none 0 w2).mono ?_
    rintro e w3 ⟨rfl, hw3⟩
    subst hw3
    go_wp2_with fail
    go_ret
    exact ⟨rfl, HM.out.2.2⟩
  · have hH : Holds encStr w2 gb 0 m.toArray := holds_of_block hgb (by simpa [hml] using r4)
    have hcon := Tryz.slices_Compact_string gb 0 cp m w2 hH (by have := HH.out; omega) (by omega)
    rw [hml] at hcon
    obtain ⟨k, hk⟩ : ∃ k, k = (Lib.compact m).length := ⟨_, rfl⟩
    have hres : decide (k = ss.length) = decide ss.Nodup := by
      rw [hk]
      have h1 := HM.out.2.1
      have h2 := HH.out.2.1
      have h3 := HH.out.1
      have h4 := HM.out.1
      rw [← h3, decide_eq_decide, h1, h2]
    rw [← hk] at hcon
    have HC := Lib.hid hcon
    have HR := Lib.hid hres
    have BK : (k : Int) ≤ 1000 := by
      have h1 : (Lib.compact m).length ≤ m.length := by
        have : (Lib.compact m).length = ((List.range m.length).filter (Lib.keeps m.toArray)).length := by simp [Lib.compact, Lib.compactUpTo]
        rw [this]
        exact Nat.le_trans (List.length_filter_le _ _) (by simp)
      have := HH.out
      have := HM.out.1
      omega
    have BS : (ss.length : Int) ≤ 1000 := by have := HH.out; omega
    have hbase' := hbase
    clear hcon hres hk hH hgb r1 r2 r3 r4 hrow hnil hbase
    go_wp2_with fail
    refine HC.out.mono ?_
    rintro e w3 ⟨rfl, q, hw3⟩
    have hT3 : Touch [gb] w2 w3 := by
      subst hw3
      refine ⟨rfl, rfl, rfl, by simp [putRow, mapBlock, Sort.ahead], fun j hj hx => ?_⟩
      have : gb ≠ j := fun e => hx (by simp [e])
      simp [putRow, mapBlock, Sort.ahead, Array.getElem?_modify, this]
    have HT3 := Lib.hid (HM.out.2.2.trans hT3 (fun x hx => by simp at hx; subst hx; exact .inr (Nat.le_trans HH.out.2.2.1.size hbase')))
    clear hw3 hT3
    go_wp2_with fail
    go_ret
    refine ⟨congrArg (fun b => Ending.returned (Value.bool b)) ?_, HT3.out⟩
    rw [← HR.out, Bool.eq_iff_iff]
    simp
    try omega
end Go.Proofs.YtljgifbnmgpdbaaGreatDoor

namespace Go.Proofs.YtljgifbnmgpdbaaGreatDoor
open Go Go.RowKit


set_option maxRecDepth 100000 in
set_option maxHeartbeats 4000000 in
theorem carries_ok (w : World) (m : MsgM) (kv : Value) (hk : KeysAt w kv m.keys) (hl : m.keys.length ≤ 1000) :
    Calls Tryz.prog 242 #[msgV m kv] w fun e w' => e = .returned (.bool (carriesB m)) ∧ Touch [] w w' := by
  obtain ⟨a, cp, rfl, hk⟩ := hk
  have HK := Lib.hid hk
  have HL := Lib.hid hl
  have htop := fun (W : World) => topic_ok W m.topic
  have htag := fun (W : World) => tag_ok W m.tag
  obtain ⟨bt, hbt⟩ : ∃ b, b = topicB m.topic := ⟨_, rfl⟩
  obtain ⟨bg, hbg⟩ : ∃ b, b = tagB m.tag := ⟨_, rfl⟩
  obtain ⟨ba, hba⟩ : ∃ b, b = m.keys.all keyB := ⟨_, rfl⟩
  obtain ⟨bu, hbu⟩ : ∃ b, b = decide m.keys.Nodup := ⟨_, rfl⟩
  have hB : carriesB m = (bt && decide (0 ≤ m.queue) && decide (m.queue < 3) && decide (0 ≤ m.retry) && decide (m.retry ≤ 4) && bg && decide (m.keys.length ≤ 3) && ba && bu && decide (m.body.size ≤ 200)) := by
    rw [hbt, hbg, hba, hbu]; rfl
  rw [← hbt] at htop
  rw [← hbg] at htag
  have HTOP := Lib.hid htop
  have HTAG := Lib.hid htag
  have HAL := Lib.hid hba
  have HUN := Lib.hid hbu
  clear hk hl htop htag hbt hbg hba hbu
  unfold msgV
  cases bt with
  | false =>
    have HB := Lib.hid (show carriesB m = false by rw [hB]; simp)
    clear hB
    go_enter Tryz.func242, Tryz.ntmps242
    go_wp2_with fail
    refine (HTOP.out _).mono ?_
    rintro e w1 ⟨rfl, hT1⟩
    have hb1 := hT1.heap (heap_alloc_at w _) (by simp)
    have q1 := cell_of hb1 1 _ rfl
    have q3 := cell_of hb1 3 _ rfl
    have q7 := cell_of hb1 7 _ rfl
    have HB1 := Lib.hid hb1
    have HT1 := Lib.hid (((Touch.refl [] w).alloc _).trans' hT1)
    clear hT1 hb1
    go_wp2_with fail
    go_ret
    rw [HB.out]
    exact ⟨rfl, HT1.out⟩
  | true =>
  by_cases h1 : 0 ≤ m.queue
  rotate_left
  · have hd1 : decide (0 ≤ m.queue) = false := by simpa using h1
    have HB := Lib.hid (show carriesB m = false by rw [hB]; simp [hd1])
    clear hB h1
    go_enter Tryz.func242, Tryz.ntmps242
    go_wp2_with fail
    refine (HTOP.out _).mono ?_
    rintro e w1 ⟨rfl, hT1⟩
    have hb1 := hT1.heap (heap_alloc_at w _) (by simp)
    have q1 := cell_of hb1 1 _ rfl
    have q3 := cell_of hb1 3 _ rfl
    have q7 := cell_of hb1 7 _ rfl
    have HB1 := Lib.hid hb1
    have HT1 := Lib.hid (((Touch.refl [] w).alloc _).trans' hT1)
    clear hT1 hb1
    go_wp2_with fail
    go_ret
    rw [HB.out]
    exact ⟨rfl, HT1.out⟩
  have hd1 : decide (0 ≤ m.queue) = true := by simpa using h1
  by_cases h2 : m.queue < 3
  rotate_left
  · have hd2 : decide (m.queue < 3) = false := by simpa using h2
    have HB := Lib.hid (show carriesB m = false by rw [hB]; simp [hd2])
    clear hB h2
    go_enter Tryz.func242, Tryz.ntmps242
    go_wp2_with fail
    refine (HTOP.out _).mono ?_
    rintro e w1 ⟨rfl, hT1⟩
    have hb1 := hT1.heap (heap_alloc_at w _) (by simp)
    have q1 := cell_of hb1 1 _ rfl
    have q3 := cell_of hb1 3 _ rfl
    have q7 := cell_of hb1 7 _ rfl
    have HB1 := Lib.hid hb1
    have HT1 := Lib.hid (((Touch.refl [] w).alloc _).trans' hT1)
    clear hT1 hb1
    go_wp2_with fail
    go_ret
    rw [HB.out]
    exact ⟨rfl, HT1.out⟩
  have hd2 : decide (m.queue < 3) = true := by simpa using h2
  by_cases h3 : 0 ≤ m.retry
  rotate_left
  · have hd3 : decide (0 ≤ m.retry) = false := by simpa using h3
    have HB := Lib.hid (show carriesB m = false by rw [hB]; simp [hd3])
    clear hB h3
    go_enter Tryz.func242, Tryz.ntmps242
    go_wp2_with fail
    refine (HTOP.out _).mono ?_
    rintro e w1 ⟨rfl, hT1⟩
    have hb1 := hT1.heap (heap_alloc_at w _) (by simp)
    have q1 := cell_of hb1 1 _ rfl
    have q3 := cell_of hb1 3 _ rfl
    have q7 := cell_of hb1 7 _ rfl
    have HB1 := Lib.hid hb1
    have HT1 := Lib.hid (((Touch.refl [] w).alloc _).trans' hT1)
    clear hT1 hb1
    go_wp2_with fail
    go_ret
    rw [HB.out]
    exact ⟨rfl, HT1.out⟩
  have hd3 : decide (0 ≤ m.retry) = true := by simpa using h3
  by_cases h4 : m.retry ≤ 4
  rotate_left
  · have hd4 : decide (m.retry ≤ 4) = false := by simpa using h4
    have HB := Lib.hid (show carriesB m = false by rw [hB]; simp [hd4])
    clear hB h4
    go_enter Tryz.func242, Tryz.ntmps242
    go_wp2_with fail
    refine (HTOP.out _).mono ?_
    rintro e w1 ⟨rfl, hT1⟩
    have hb1 := hT1.heap (heap_alloc_at w _) (by simp)
    have q1 := cell_of hb1 1 _ rfl
    have q3 := cell_of hb1 3 _ rfl
    have q7 := cell_of hb1 7 _ rfl
    have HB1 := Lib.hid hb1
    have HT1 := Lib.hid (((Touch.refl [] w).alloc _).trans' hT1)
    clear hT1 hb1
    go_wp2_with fail
    go_ret
    rw [HB.out]
    exact ⟨rfl, HT1.out⟩
  have hd4 : decide (m.retry ≤ 4) = true := by simpa using h4
  cases bg with
  | false =>
    have HB := Lib.hid (show carriesB m = false by rw [hB]; simp)
    clear hB
    go_enter Tryz.func242, Tryz.ntmps242
    go_wp2_with fail
    refine (HTOP.out _).mono ?_
    rintro e w1 ⟨rfl, hT1⟩
    have hb1 := hT1.heap (heap_alloc_at w _) (by simp)
    have q1 := cell_of hb1 1 _ rfl
    have q3 := cell_of hb1 3 _ rfl
    have q7 := cell_of hb1 7 _ rfl
    have HB1 := Lib.hid hb1
    have HT1 := Lib.hid (((Touch.refl [] w).alloc _).trans' hT1)
    clear hT1 hb1
    go_wp2_with fail
    refine (HTAG.out _).mono ?_
    rintro e w2 ⟨rfl, hT2⟩
    have hb2 := hT2.heap HB1.out (by simp)
    have q8 := cell_of hb2 8 _ rfl
    have q9 := cell_of hb2 9 _ rfl
    have HB2 := Lib.hid hb2
    have HT2 := Lib.hid (HT1.out.trans' hT2)
    clear hT2 hb2 q1 q3 q7
    go_wp2_with fail
    go_ret
    rw [HB.out]
    exact ⟨rfl, HT2.out⟩
  | true =>
  by_cases h5 : m.keys.length ≤ 3
  rotate_left
  · have hd5 : decide ((m.keys.length : Int) ≤ 3) = false := by simp; omega
    have hd5' : decide (m.keys.length ≤ 3) = false := by simpa using h5
    have HB := Lib.hid (show carriesB m = false by rw [hB]; simp [hd5'])
    clear hB h5
    go_enter Tryz.func242, Tryz.ntmps242
    go_wp2_with fail
    refine (HTOP.out _).mono ?_
    rintro e w1 ⟨rfl, hT1⟩
    have hb1 := hT1.heap (heap_alloc_at w _) (by simp)
    have q1 := cell_of hb1 1 _ rfl
    have q3 := cell_of hb1 3 _ rfl
    have q7 := cell_of hb1 7 _ rfl
    have HB1 := Lib.hid hb1
    have HT1 := Lib.hid (((Touch.refl [] w).alloc _).trans' hT1)
    clear hT1 hb1
    go_wp2_with fail
    refine (HTAG.out _).mono ?_
    rintro e w2 ⟨rfl, hT2⟩
    have hb2 := hT2.heap HB1.out (by simp)
    have q8 := cell_of hb2 8 _ rfl
    have q9 := cell_of hb2 9 _ rfl
    have HB2 := Lib.hid hb2
    have HT2 := Lib.hid (HT1.out.trans' hT2)
    clear hT2 hb2 q1 q3 q7
    go_wp2_with fail
    go_ret
    rw [HB.out]
    exact ⟨rfl, HT2.out⟩
  have hd5 : decide ((m.keys.length : Int) ≤ 3) = true := by simp; omega
  have hd5' : decide (m.keys.length ≤ 3) = true := by simpa using h5
  cases ba with
  | false =>
    have HB := Lib.hid (show carriesB m = false by rw [hB]; simp)
    clear hB
    go_enter Tryz.func242, Tryz.ntmps242
    go_wp2_with fail
    refine (HTOP.out _).mono ?_
    rintro e w1 ⟨rfl, hT1⟩
    have hb1 := hT1.heap (heap_alloc_at w _) (by simp)
    have q1 := cell_of hb1 1 _ rfl
    have q3 := cell_of hb1 3 _ rfl
    have q7 := cell_of hb1 7 _ rfl
    have HB1 := Lib.hid hb1
    have HT1 := Lib.hid (((Touch.refl [] w).alloc _).trans' hT1)
    clear hT1 hb1
    go_wp2_with fail
    refine (HTAG.out _).mono ?_
    rintro e w2 ⟨rfl, hT2⟩
    have hb2 := hT2.heap HB1.out (by simp)
    have q8 := cell_of hb2 8 _ rfl
    have q9 := cell_of hb2 9 _ rfl
    have HB2 := Lib.hid hb2
    have HT2 := Lib.hid (HT1.out.trans' hT2)
    clear hT2 hb2 q1 q3 q7
    go_wp2_with fail
    refine (nall_ok w2 m.keys a cp (HK.out.quiet HT2.out) (by have := HL.out; omega)).mono ?_
    rintro e w' ⟨he, rfl⟩
    rw [← HAL.out] at he
    subst he
    go_wp2_with fail
    go_ret
    rw [HB.out]
    exact ⟨rfl, HT2.out⟩
  | true =>
  cases bu with
  | false =>
    have HB := Lib.hid (show carriesB m = false by rw [hB]; simp)
    clear hB
    go_enter Tryz.func242, Tryz.ntmps242
    go_wp2_with fail
    refine (HTOP.out _).mono ?_
    rintro e w1 ⟨rfl, hT1⟩
    have hb1 := hT1.heap (heap_alloc_at w _) (by simp)
    have q1 := cell_of hb1 1 _ rfl
    have q3 := cell_of hb1 3 _ rfl
    have q7 := cell_of hb1 7 _ rfl
    have HB1 := Lib.hid hb1
    have HT1 := Lib.hid (((Touch.refl [] w).alloc _).trans' hT1)
    clear hT1 hb1
    go_wp2_with fail
    refine (HTAG.out _).mono ?_
    rintro e w2 ⟨rfl, hT2⟩
    have hb2 := hT2.heap HB1.out (by simp)
    have q8 := cell_of hb2 8 _ rfl
    have q9 := cell_of hb2 9 _ rfl
    have HB2 := Lib.hid hb2
    have HT2 := Lib.hid (HT1.out.trans' hT2)
    clear hT2 hb2 q1 q3 q7
    go_wp2_with fail
    refine (nall_ok w2 m.keys a cp (HK.out.quiet HT2.out) (by have := HL.out; omega)).mono ?_
    rintro e w' ⟨he, rfl⟩
    rw [← HAL.out] at he
    subst he
    go_wp2_with fail
    refine (unlike_ok w2 m.keys a cp (HK.out.quiet HT2.out) (by have := HL.out; omega)).mono ?_
    rintro e w3 ⟨he, hT3⟩
    rw [← HUN.out] at he
    subst he
    have hb3 := hT3.heap HB2.out (by simp)
    have r8 := cell_of hb3 8 _ rfl
    have HT3 := Lib.hid (HT2.out.trans' hT3)
    clear hT3 hb3 q8 q9
    go_wp2_with fail
    go_ret
    rw [HB.out]
    exact ⟨rfl, HT3.out⟩
  | true =>
    have HB := Lib.hid (show carriesB m = decide (m.body.size ≤ 200) by rw [hB]; simp [h1, h2, h3, h4, h5])
    have hcast : ((m.body.size : Int) ≤ 200) = (m.body.size ≤ 200) := by simp only [eq_iff_iff]; omega
    clear hB
    go_enter Tryz.func242, Tryz.ntmps242
    go_wp2_with fail
    refine (HTOP.out _).mono ?_
    rintro e w1 ⟨rfl, hT1⟩
    have hb1 := hT1.heap (heap_alloc_at w _) (by simp)
    have q1 := cell_of hb1 1 _ rfl
    have q3 := cell_of hb1 3 _ rfl
    have q7 := cell_of hb1 7 _ rfl
    have HB1 := Lib.hid hb1
    have HT1 := Lib.hid (((Touch.refl [] w).alloc _).trans' hT1)
    clear hT1 hb1
    go_wp2_with fail
    refine (HTAG.out _).mono ?_
    rintro e w2 ⟨rfl, hT2⟩
    have hb2 := hT2.heap HB1.out (by simp)
    have q8 := cell_of hb2 8 _ rfl
    have q9 := cell_of hb2 9 _ rfl
    have HB2 := Lib.hid hb2
    have HT2 := Lib.hid (HT1.out.trans' hT2)
    clear hT2 hb2 q1 q3 q7
    go_wp2_with fail
    refine (nall_ok w2 m.keys a cp (HK.out.quiet HT2.out) (by have := HL.out; omega)).mono ?_
    rintro e w' ⟨he, rfl⟩
    rw [← HAL.out] at he
    subst he
    go_wp2_with fail
    refine (unlike_ok w2 m.keys a cp (HK.out.quiet HT2.out) (by have := HL.out; omega)).mono ?_
    rintro e w3 ⟨he, hT3⟩
    rw [← HUN.out] at he
    subst he
    have hb3 := hT3.heap HB2.out (by simp)
    have r8 := cell_of hb3 8 _ rfl
    have HT3 := Lib.hid (HT2.out.trans' hT3)
    clear hT3 hb3 q8 q9
    go_wp2_with fail
    go_ret
    rw [HB.out]
    refine ⟨?_, HT3.out⟩
    first | rfl | (simp only [hcast]) | (congr 2; simp)
end Go.Proofs.YtljgifbnmgpdbaaGreatDoor
