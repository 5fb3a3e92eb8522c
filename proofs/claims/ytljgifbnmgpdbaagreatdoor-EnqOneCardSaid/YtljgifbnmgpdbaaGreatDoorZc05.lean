/- Layer 1 (octet): the reader's List, where all is well. (Here too: Layer 5 (seg): Append. Layer 5 (seg): Left, Read. Layer 5 (seg): Sync. Layer 5 (seg): Open, on a disk that has none of a head's files. Texts built by strings.Builder: WriteString. Layer 1 (octet): numbers as bytes: put, get. Layer 1 (octet): numbers as bytes: get. Layer 1 (octet): Num. Layer 1 (octet): Text, List. Layer 1 (octet): the reader, where all is well.) -/
import Derived.Test.YtljgifbnmgpdbaaGreatDoorZc04
import Derived.Laws.OwnMore
import Derived.Laws.BitsAllLaws
set_option linter.unusedSimpArgs false
set_option linter.unusedVariables false
set_option linter.unnecessarySimpa false
namespace Go.Proofs.YtljgifbnmgpdbaaGreatDoor
open Go Go.RowKit

/-- fresh, at any row. -/
theorem fresh_ok {w : World} {r d : Nat} {pv : Value} {R : RowM} {F : List Nat} {V : ByteArray → Option ByteArray} {cap tot q : Nat} {data : ByteArray} (h : RowIn w r d pv R) (hD : DiskV w d F V cap tot q) (hdis : ∀ b ∈ rowFoot r pv, b ∉ F) (hg : Glob w) (hS : SegsIn R data V) (hq : q < 1000000) :
    Calls Tryz.prog 133 #[.pointer (some ⟨r, 0, none⟩)] w fun e w' => e = .returned (.int .i64 0) ∧
      ∃ pv' F' V', RowIn w' r d pv' R.freshed ∧ DiskV w' d F' V' cap tot (q + 1) ∧ SegsIn R.freshed data V' ∧ Touch (rowFoot r pv ++ F) w w' ∧ Grew w.heap.size F F' ∧ Grew w.heap.size (rowFoot r pv) (rowFoot r pv') ∧ (∀ b ∈ rowFoot r pv', b ∉ F') ∧ (∀ s, ¬ IsSeg R.head s → V' s = V s) := by
  by_cases e : R.fin = R.begin + R.places.length * R.size
  · refine (fresh_do h hD hdis hg hS hq e).mono ?_
    rintro e' w' ⟨rfl, pv', F', a1, a2, a3, a4, a5, a6⟩
    refine ⟨rfl, pv', F', _, a1, a2, freshed_segs h.ok hS e, a3, a4, a5, a6, ?_⟩
    intro s hs
    have := h.ok.fin2
    exact setV_ne _ _ fun e2 => hs ⟨R.fin, by omega, e2⟩
  · refine (fresh_not w r d pv R h e).mono ?_
    rintro e' w' ⟨rfl, hT⟩
    refine ⟨rfl, pv, F, V, ?_, (hD.quiet hT).mono (by omega), ?_, hT.nil, Grew.refl _ _, Grew.refl _ _, hdis, fun _ _ => rfl⟩
    · rw [RowM.freshed_not e]; exact h.touch hT (by simp)
    · rw [RowM.freshed_not e]; exact hS

set_option maxRecDepth 100000 in
set_option maxHeartbeats 1600000 in
theorem append_ok {w : World} {r d : Nat} {pv : Value} {R : RowM} {F : List Nat} {V : ByteArray → Option ByteArray} {cap tot q : Nat} {data : ByteArray} (h : RowIn w r d pv R) (hD : DiskV w d F V cap tot q) (hdis : ∀ b ∈ rowFoot r pv, b ∉ F) (hg : Glob w) (hS : SegsIn R data V) (hq : q + 1 < 1000000)
    (s : ByteArray) (h0 : 0 < s.size) (hn : s.size ≤ R.room) (hb : R.fin + s.size ≤ 20000000) (hcap : tot + s.size ≤ cap) :
    Calls Tryz.prog 77 #[.pointer (some ⟨r, 0, none⟩), .string s] w fun e w' => e = .returned (.tuple #[.int .i64 R.fin, .int .i64 0]) ∧
      ∃ pv' F' V', RowIn w' r d pv' (R.more s.size) ∧ DiskV w' d F' V' cap (tot + s.size) (q + 2) ∧ SegsIn (R.more s.size) (data ++ s) V' ∧ Touch (rowFoot r pv ++ F) w w' ∧ Grew w.heap.size F F' ∧ Grew w.heap.size (rowFoot r pv) (rowFoot r pv') ∧ (∀ b ∈ rowFoot r pv', b ∉ F') ∧ (∀ s, ¬ IsSeg R.head s → V' s = V s) := by
  obtain ⟨c0, -, -, -, -, -⟩ := h.six
  have hne : s.toList.isEmpty = false := by simpa using bytes_not_nil (by omega : s.size ≠ 0)
  have hle := hD.le
  have hd1 : decide (R.room < s.size) = false := by simp; omega
  have hd2 : decide (cap - tot < s.size) = false := by simp; omega
  have HH := Lib.hid h
  have HD := Lib.hid hD
  have HX := Lib.hid (And.intro hdis (And.intro hg (And.intro hS (And.intro hq (And.intro h0 (And.intro hn (And.intro hb (And.intro hcap hle))))))))
  clear h hD hdis hg hS hq h0 hn hb hcap hle
  generalize hrm : R.room = room at hd1
  have HRM := Lib.hid hrm
  clear hrm
  go_enter Tryz.func77, Tryz.ntmps77
  go_wp2_with fail
  have hroom := room_row w r d pv R HH.out
  rw [HRM.out] at hroom
  refine hroom.mono ?_
  rintro e w1 ⟨rfl, hT1⟩
  have HT1 := Lib.hid hT1
  have c0 := hT1.cell c0 (by simp)
  clear hroom hT1
  go_wp2_with fail
  refine (roomV_ok (HD.out.quiet HT1.out)).mono ?_
  rintro e w2 ⟨rfl, hT2⟩
  have HT2 := Lib.hid (HT1.out.trans' hT2)
  have c0 := hT2.cell c0 (by simp)
  clear hT2
  go_wp2_with fail
  refine (fresh_ok (HH.out.touch HT2.out (by simp)) (HD.out.quiet HT2.out) HX.out.1 (HX.out.2.1.touch HT2.out (by simp)) HX.out.2.2.1 (by have := HX.out.2.2.2.1; omega)).mono ?_
  rintro e w3 ⟨rfl, pv3, F3, V3, h3, hD3, hS3, hT3, hG3, hG3', hdis3, hV3⟩
  obtain ⟨p1, p2, p3, p4, p5, p6⟩ := freshed_pos HH.out.ok
  have hbe := freshed_begin HH.out.ok
  obtain ⟨hseg, hlo⟩ := last_seg h3.ok hS3 p1
  rw [hbe, p3, p2] at hseg hlo
  rw [p4] at hseg
  obtain ⟨m, hm⟩ : ∃ m, R.freshed.places.length = m + 1 := ⟨R.freshed.places.length - 1, by omega⟩
  obtain ⟨last, hl⟩ : ∃ last, last = R.begin + (R.freshed.places.length - 1) * R.size := ⟨_, rfl⟩
  rw [← hl] at hseg hlo
  have hpl := h3.ok.get (i := m) (by omega)
  rw [hbe, p3] at hpl
  have hlm : R.begin + m * R.size = last := by rw [hl, hm, Nat.add_sub_cancel]
  rw [hlm] at hpl
  have hmle : m ≤ m * R.size := Nat.le_mul_of_pos_right _ (by have := HH.out.ok.size1; omega)
  have hf2 := HH.out.ok.fin2
  obtain ⟨g, cp, rfl, hc⟩ : ∃ g cp, pv3 = .slice (some ⟨g, 0, none⟩) (m + 1) cp ∧ w3.cell? ⟨g, m, none⟩ = some (.int .i64 (last : Nat)) := by
    rcases h3.pv with ⟨rfl, h0⟩ | ⟨g, cp, rfl, hc⟩
    · rw [h0] at hm; simp at hm
    · exact ⟨g, cp, by rw [hm], hc m _ hpl⟩
  obtain ⟨d0, -, -, d3, d4, -⟩ := h3.six
  have d4f := free_of h3.cells 4
  rw [p2] at d4
  have B1 : (R.fin : Int) ≤ 20000000 := by omega
  have B2 : (last : Int) ≤ R.fin := by omega
  have B3 : (m : Int) ≤ 20000000 := by omega
  have hsub : IntKind.i64.wrap ((R.fin : Int) - last) = ((R.fin - last : Nat) : Int) := by rw [IntWalk.i64_in _ (by omega)]; omega
  have hw1 : IntKind.i64.wrap (m : Int) = m := IntWalk.i64_in _ (by omega)
  have hm0 : (0 : Int) ≤ m := by omega
  have hmt : ((m : Int)).toNat = m := by omega
  have HA := Lib.hid (And.intro hseg (And.intro hl (And.intro hlo (And.intro hm (And.intro p4 hlm)))))
  have H3 := Lib.hid (And.intro h3 (And.intro hD3 (And.intro hS3 (And.intro hT3 (And.intro hG3 (And.intro hG3' (And.intro hdis3 hV3)))))))
  have hgr3 : g ∈ rowFoot r (Value.slice (some ⟨g, 0, none⟩) (m + 1) cp) := by simp [rowFoot, Value.ownBlock]
  clear hseg hl hlo hm p1 p2 p3 p4 p5 p6 hbe hpl hlm hmle hf2 h3 hD3 hS3 hT3 hG3 hG3' hdis3 hV3 c0 hgr3
  clear hne hd1 hd2
  go_wp2_with fail
  go_quiet (fail)
  go_wp2_with fail
  have hTq : Touch [] w3 (w3.drewN nq) := (Touch.refl _ _).drewN _
  have e0 := hTq.cell d0 (by simp)
  have e4 := hTq.cell d4 (by simp)
  have e4f : (w3.drewN nq).frozen? ⟨r, 4, none⟩ = false := d4f
  generalize w3.drewN nq = wq at *
  have HTQ := Lib.hid hTq
  clear d0 d3 d4 d4f hc hTq
  have hname : ∀ w', Touch [] w3 w' → Calls Tryz.prog 134 #[.pointer (some ⟨r, 0, none⟩), .int .i64 last] w' fun e w'' => e = .returned (.string (segName R.head last)) ∧ Touch [] w' w'' := by
    intro w' hT
    have h1 := sname_ok w' r d _ R.freshed (H3.out.1.touch hT (by simp)) (((HX.out.2.1.touch HT2.out (by simp)).touch H3.out.2.2.2.1 ?_).touch hT (by simp)) (by rw [HA.out.2.2.2.2.1]; exact HX.out.2.2.1.head) last (by omega)
    · rw [HA.out.2.2.2.2.1] at h1; exact h1
    · intro b hb
      rcases List.mem_append.1 hb with hb | hb
      · exact HH.out.low b hb
      · exact HD.out.low b hb
  have HN := Lib.hid hname
  have hsz : (data.extract last R.fin).size = R.fin - last := by
    rw [ByteArray.size_extract]
    have := HX.out.2.2.1.len
    omega
  have HSZ := Lib.hid hsz
  clear hname hsz
  go_region_held3 (fun w' => w'.cell? ⟨r, 0, none⟩ = some (.pointer (some ⟨d, 0, none⟩)))
    (first
      | exact e0
      | exact hT4.cell (by assumption) (by simp)
      | exact hT5.cell (by assumption) (H3.out.2.2.2.2.2.2.1 r (by simp [rowFoot])))
    (first
      | (go_at_call 134; refine (HN.out _ HTQ.out.drew).mono ?_; rintro e w4 ⟨rfl, hT4⟩)
      | (go_at_call 124; refine (writeV_ok (H3.out.2.1.quiet (HTQ.out.drew.trans' hT4)) (segName R.head last) s (data.extract last R.fin) (R.fin - last) HA.out.1 (by rw [HSZ.out]; exact Nat.le_refl _) (by have := HX.out.2.2.2.2.1; omega) (by rw [HSZ.out]; have := HX.out; omega) (by have := HX.out.2.2.2.1; omega)).mono ?_; rintro e w5 ⟨rfl, F5, hD5, hT5, hG5⟩))
  have h5 := ((H3.out.1.touch HTQ.out (by simp)).touch (hT4.of_drew) (by simp)).touch hT5 H3.out.2.2.2.2.2.2.1
  have hadd : IntKind.i64.wrap ((R.fin : Int) + s.size) = ((R.fin + s.size : Nat) : Int) := by
    have h1 := HX.out.2.2.2.2.2.2.1
    rw [IntWalk.i64_in _ (by omega)]; omega
  have g4 := (h5.six).2.2.2.2.1
  rw [(freshed_pos HH.out.ok).2.1] at g4
  have g4f := free_of h5.cells 4
  have H5 := Lib.hid (And.intro h5 (And.intro hD5 (And.intro hT4 (And.intro hT5 hG5))))
  clear h5 hD5 hT4 hT5 hG5 e0 e4 e4f
  go_wp2
  go_ret2
  obtain ⟨h5, hD5, hT4, hT5, hG5⟩ := H5.out
  obtain ⟨-, hD3, hS3, hT3, hG3, hG3', hdis3, hV3⟩ := H3.out
  obtain ⟨hseg, hl, hlo, hm, hhd, hlm⟩ := HA.out
  obtain ⟨hdis, hg, hS, hq, h0, hn, hb, hcap, -⟩ := HX.out
  have hsz := HSZ.out
  have e1 : R.fin - last = (data.extract last R.fin).size := hsz.symm
  rw [e1, laid_end] at hD5
  have e2 : tot + (max (data.extract last R.fin).size ((data.extract last R.fin).size + s.size) - (data.extract last R.fin).size) = tot + s.size := by omega
  rw [e2] at hD5
  have hTw3 : Touch (rowFoot r pv ++ F) w w3 := (HT2.out.nil).trans' hT3
  have s2 : w.heap.size ≤ w2.heap.size := HT2.out.size
  have s3 : w2.heap.size ≤ w3.heap.size := hT3.size
  have s4 : w3.heap.size ≤ w4.heap.size := Nat.le_trans HTQ.out.size hT4.size
  have hF3 : Grew w.heap.size F F3 := fun b hb => by
    rcases hG3 b hb with h1 | h1
    · exact .inl h1
    · exact .inr (by omega)
  have hT45 : Touch (rowFoot r pv ++ F) w w5 := ((hTw3.trans' HTQ.out.nil).trans' hT4.of_drew.nil).trans hT5 (by
    intro b hb
    rcases hF3 b hb with h1 | h1
    · exact .inl (by simp [h1])
    · exact .inr h1)
  have hdis5 : ∀ b ∈ rowFoot r (.slice (some ⟨g, 0, none⟩) (m + 1) cp), b ∉ F5 := hG5.apart (fun b hb => Nat.lt_of_lt_of_le (H3.out.1.lt b hb) s4) hdis3
  have hrr : r ∈ rowFoot r pv := by simp [rowFoot]
  refine ⟨rfl, _, F5, _, ⟨?_, ?_, h5.apart, h5.low, more_ok HH.out.ok h0 hn hb⟩, hD5.touch ((Touch.refl [r] _).setCell _ _ _ _ (by simp)) ?_, ?_, hT45.setCell _ _ _ _ (.inl (by simp [rowFoot])), ?_, ?_, hdis5, ?_⟩
  · have := heap_setCell_at h5.cells 4 (.int .i64 ((R.fin : Int) + s.size))
    rw [this]
    show _ = some (Obj.cells #[.pointer (some ⟨d, 0, none⟩), .string R.freshed.head, .int .i64 R.freshed.size, .slice (some ⟨g, 0, none⟩) (m + 1) cp, .int .i64 ((R.fin + s.size : Nat) : Int), .int .i64 R.freshed.synced] 138 (0, 0))
    rw [Int.natCast_add]
    rfl
  · have hpl := h5.places
    refine ownsRow_other hpl fun b hb => heap_setCell_ne _ _ _ _ _ _ ?_
    exact h5.apart_pv b hb
  · intro b hb hb2
    simp at hb2; subst hb2
    exact hdis5 b (by simp [rowFoot]) hb
  · have := more_segs HH.out.ok hS3 h0 hn hb
    rw [← hl] at this
    exact this
  · intro b hb
    rcases hG5 b hb with h1 | h1
    · exact hF3 b h1
    · exact .inr (by omega)
  · intro b hb
    rcases hG3' b hb with h1 | h1
    · exact .inl h1
    · exact .inr (by omega)
  · intro t ht
    have hf2 := HH.out.ok.fin2
    rw [setV_ne _ _ (fun e => ht ⟨last, by omega, e⟩)]
    exact hV3 t ht
end Go.Proofs.YtljgifbnmgpdbaaGreatDoor

namespace Go.Proofs.YtljgifbnmgpdbaaGreatDoor
open Go Go.RowKit

set_option maxRecDepth 100000 in
set_option maxHeartbeats 1600000 in
theorem left_ok (w : World) (r d : Nat) (pv : Value) (R : RowM) (h : RowIn w r d pv R) (at_ : Nat) (h1 : R.begin ≤ at_) (h2 : at_ < R.fin) :
    Calls Tryz.prog 136 #[.pointer (some ⟨r, 0, none⟩), .int .i64 at_] w fun e w' => e = .returned (.int .i64 ((min (at_ / R.size * R.size + R.size) R.fin - at_ : Nat) : Int)) ∧ Touch [] w w' := by
  obtain ⟨-, -, c2, -, c4, -⟩ := h.six
  have hs1 := h.ok.size1
  have hs2 := h.ok.size2
  have hf2 := h.ok.fin2
  have hle : at_ / R.size * R.size ≤ at_ := Nat.div_mul_le_self _ _
  have hlt : at_ < at_ / R.size * R.size + R.size := by
    have := Nat.div_add_mod at_ R.size
    have h3 := Nat.mod_lt at_ (show R.size > 0 by omega)
    rw [Nat.mul_comm] at this
    omega
  have hof : ∀ w', Touch [] w w' → Calls Tryz.prog 137 #[.pointer (some ⟨r, 0, none⟩), .int .i64 at_] w' fun e w'' => e = .returned (.int .i64 (at_ / R.size * R.size : Nat)) ∧ Touch [] w' w'' := by
    intro w' hT
    refine (of_ok w' r d pv R (h.touch hT (by simp)) at_ (by omega)).mono ?_
    rintro e w2 ⟨rfl, n, rfl⟩
    exact ⟨rfl, (Touch.refl _ _).drewN _⟩
  have hbeg := fun w' (hT : Touch [] w w') => begin_ok w' r d pv R (h.touch hT (by simp))
  generalize at_ / R.size * R.size = seg at *
  generalize R.begin = beg at *
  have HO := Lib.hid hof
  have HB := Lib.hid hbeg
  have hd1 : decide (at_ < beg) = false := by simp; omega
  have hd2 : decide (R.fin ≤ at_) = false := by simp; omega
  have B1 : (R.fin : Int) ≤ 20000000 := by omega
  have B2 : (R.size : Int) ≤ 4096 := by omega
  have B3 : (at_ : Int) ≤ R.fin := by omega
  have B4 : (seg : Int) ≤ at_ := by omega
  have hw1 : IntKind.i64.wrap ((seg : Int) + R.size) = (seg : Int) + R.size := IntWalk.i64_in _ (by omega)
  have HV : Hid (min ((seg : Int) + R.size) R.fin - at_ = ((min (seg + R.size) R.fin - at_ : Nat) : Int)) := by
    show _ = _
    omega
  clear hof hbeg h h1 h2 hs1 hs2 hf2 hle hlt
  go_enter Tryz.func136, Tryz.ntmps136
  go_wp2_with fail
  refine (HB.out w (Touch.refl _ _)).mono ?_
  rintro e w1 ⟨rfl, rfl⟩
  go_wp2_with fail
  refine region_class (fun w' => w'.cell? ⟨r, 2, none⟩ = some (.int .i64 R.size) ∧ w'.cell? ⟨r, 4, none⟩ = some (.int .i64 R.fin) ∧ Touch [] w w') (by kernel_rfl) (by kernel_rfl) ⟨c2, c4, (Touch.refl _ _).drew⟩ ?_
  repeat (first | go_big_quiet_skip | (go_big_quiet_want; go_big_quiet_op; first | go_big_quiet_on | (refine Exists.intro _ ⟨fun _ _ => rfl, ?_⟩; go_big_quiet_on) | (refine Exists.intro _ ⟨fun w' hC => by (first | rw [hC.out.1] | rw [hC.out.2.1] | rw [hC.out.2.2.1] | rw [hC.out.2.2.2.1]); exact ⟨rfl, rfl⟩, ?_⟩; go_big_quiet_on) | (refine Exists.intro _ ⟨fun w' hC => (HO.out w' hC.out.2.2).mono fun e w2 hh => ⟨hh.1, hh.2.cell hC.out.1 (by simp), hh.2.cell hC.out.2.1 (by simp), hC.out.2.2.trans' hh.2⟩, ?_⟩; go_big_quiet_on)))
  refine wpQuiet_nil ?_
  rintro w2 ⟨-, -, hT⟩
  have HT := Lib.hid hT
  clear hT
  go_wp2
  go_ret
  exact ⟨ret_int HV.out, HT.out⟩

/-- The segment in which a byte lies. -/
theorem find_seg {R : RowM} (h : RowOk R) {at_ : Nat} (h1 : R.begin ≤ at_) (h2 : at_ < R.fin) : ∃ i < R.places.length, at_ / R.size * R.size = R.begin + i * R.size := by
  have hs1 := h.size1
  have hhi := h.hi
  have hw := h.whole
  obtain ⟨k, hk⟩ : ∃ k, R.begin = k * R.size := ⟨R.begin / R.size, by rw [Nat.mul_comm, Nat.mul_div_cancel' (Nat.dvd_of_mod_eq_zero hw)]⟩
  have hkq : k ≤ at_ / R.size := (Nat.le_div_iff_mul_le (by omega)).2 (by omega)
  refine ⟨at_ / R.size - k, ?_, ?_⟩
  · have hq : at_ / R.size * R.size ≤ at_ := Nat.div_mul_le_self _ _
    have : at_ / R.size < k + R.places.length := by
      apply (Nat.div_lt_iff_lt_mul (by omega)).2
      rw [Nat.add_mul]
      omega
    omega
  · rw [hk, ← Nat.add_mul]
    congr 1
    omega

set_option maxRecDepth 100000 in
set_option maxHeartbeats 1600000 in
theorem rread_ok {w : World} {r d : Nat} {pv : Value} {R : RowM} {F : List Nat} {V : ByteArray → Option ByteArray} {cap tot q : Nat} {data : ByteArray} (h : RowIn w r d pv R) (hD : DiskV w d F V cap tot q) (hg : Glob w) (hS : SegsIn R data V)
    (at_ n : Nat) (h1 : R.begin ≤ at_) (h2 : at_ < R.fin) (hn : 0 < n) (hn2 : at_ + n ≤ min (at_ / R.size * R.size + R.size) R.fin) :
    Calls Tryz.prog 81 #[.pointer (some ⟨r, 0, none⟩), .int .i64 at_, .int .i64 n] w fun e w' => e = .returned (.tuple #[.string (data.extract at_ (at_ + n)), .int .i64 0]) ∧ Touch [] w w' := by
  obtain ⟨c0, -, -, -, -, -⟩ := h.six
  have hs1 := h.ok.size1
  have hf2 := h.ok.fin2
  have hleft : ∀ w', Touch [] w w' → Calls Tryz.prog 136 #[.pointer (some ⟨r, 0, none⟩), .int .i64 at_] w' fun e w'' => e = .returned (.int .i64 ((min (at_ / R.size * R.size + R.size) R.fin - at_ : Nat) : Int)) ∧ Touch [] w' w'' := fun w' hT => left_ok w' r d pv R (h.touch hT (by simp)) at_ h1 h2
  have hof : ∀ w', Touch [] w w' → Calls Tryz.prog 137 #[.pointer (some ⟨r, 0, none⟩), .int .i64 at_] w' fun e w'' => e = .returned (.int .i64 (at_ / R.size * R.size : Nat)) ∧ Touch [] w' w'' := by
    intro w' hT
    refine (of_ok w' r d pv R (h.touch hT (by simp)) at_ (by omega)).mono ?_
    rintro e w2 ⟨rfl, n, rfl⟩
    exact ⟨rfl, (Touch.refl _ _).drewN _⟩
  have hname : ∀ w', Touch [] w w' → Calls Tryz.prog 134 #[.pointer (some ⟨r, 0, none⟩), .int .i64 (at_ / R.size * R.size : Nat)] w' fun e w'' => e = .returned (.string (segName R.head (at_ / R.size * R.size))) ∧ Touch [] w' w'' := by
    intro w' hT
    exact sname_ok w' r d pv R (h.touch hT (by simp)) (hg.touch hT (by simp)) hS.head _ (by have := Nat.div_mul_le_self at_ R.size; omega)
  obtain ⟨i, hi, hseg⟩ := find_seg h.ok h1 h2
  have hx := hS.seg i hi
  have hdl : data.data.toList.length = R.fin := hS.len
  have hle : at_ / R.size * R.size ≤ at_ := Nat.div_mul_le_self _ _
  have e1 : R.begin + (i + 1) * R.size = at_ / R.size * R.size + R.size := by rw [hseg, Nat.succ_mul]; omega
  rw [e1, ← hseg] at hx
  clear hi hseg e1
  generalize at_ / R.size * R.size = seg at *
  generalize hlv : min (seg + R.size) R.fin - at_ = left at *
  have hxs : at_ - seg + n ≤ (data.extract seg (seg + R.size)).size := by
    rw [ByteArray.size_extract]
    have : data.size = R.fin := hdl
    omega
  have hres : (data.extract seg (seg + R.size)).extract (at_ - seg) (at_ - seg + n) = data.extract at_ (at_ + n) := by
    apply bytes_ext
    simp only [ByteArray.data_extract, Array.toList_extract, List.extract_eq_take_drop]
    rw [List.drop_take, List.drop_drop, List.take_take]
    have f1 : at_ - seg + n - (at_ - seg) = n := by omega
    have f2 : seg + (at_ - seg) = at_ := by omega
    have f3 : at_ + n - at_ = n := by omega
    rw [f1, f2, f3, Nat.min_eq_left (by omega)]
  have hread : ∀ w', Touch [] w w' → Calls Tryz.prog 138 #[.pointer (some ⟨d, 0, none⟩), .string (segName R.head seg), .int .i64 ((at_ - seg : Nat) : Int), .int .i64 n] w' fun e w'' =>
      e = .returned (.tuple #[.string (data.extract at_ (at_ + n)), .int .i64 0]) ∧ Touch [] w' w'' := by
    intro w' hT
    have := readV_ok (hD.quiet hT) (segName R.head seg) _ hx (at_ - seg) n hxs
    rw [hres] at this
    exact this
  have hdown := fun w' (hT : Touch [] w w') => downV_ok (hD.quiet hT)
  have HC := Lib.hid (And.intro hleft (And.intro hof (And.intro hname (And.intro hread hdown))))
  have hd0 : ((n : Int) == 0) = false := by simp; omega
  have hd1 : decide ((n : Int) < 1) = false := by simp; omega
  have hd2 : decide (left < n) = false := by simp; omega
  have B1 : (at_ : Int) ≤ 20000000 := by omega
  have B2 : (seg : Int) ≤ at_ := by omega
  have hsub : IntKind.i64.wrap ((at_ : Int) - seg) = ((at_ - seg : Nat) : Int) := by rw [IntWalk.i64_in _ (by omega)]; omega
  clear hleft hof hname hread hdown hx hxs hres hdl hle hlv h hD hg hS h1 h2 hs1 hf2 hn2
  go_enter Tryz.func81, Tryz.ntmps81
  go_wp2_with fail
  refine (HC.out.2.2.2.2 w (Touch.refl _ _)).mono ?_
  rintro e w1 ⟨rfl, rfl⟩
  go_wp2_with fail
  refine (HC.out.1 w (Touch.refl _ _)).mono ?_
  rintro e w1 ⟨rfl, hT1⟩
  have c0 := hT1.cell c0 (by simp)
  have HT1 := Lib.hid hT1
  clear hT1
  go_wp2_with fail
  refine (HC.out.2.1 w1 HT1.out).mono ?_
  rintro e w2 ⟨rfl, hT2⟩
  have c0 := hT2.cell c0 (by simp)
  have HT2 := Lib.hid (HT1.out.trans' hT2)
  clear hT2
  go_wp2_with fail
  refine region_class (fun w' => w'.cell? ⟨r, 0, none⟩ = some (.pointer (some ⟨d, 0, none⟩)) ∧ Touch [] w w') (by kernel_rfl) (by kernel_rfl) ⟨c0, HT2.out.drew⟩ ?_
  repeat (first | go_big_quiet_skip | (go_big_quiet_want; go_big_quiet_op; first | go_big_quiet_on | (refine Exists.intro _ ⟨fun _ _ => rfl, ?_⟩; go_big_quiet_on) | (refine Exists.intro _ ⟨fun w' hC => by (first | rw [hC.out.1] | rw [hC.out.2.1] | rw [hC.out.2.2.1] | rw [hC.out.2.2.2.1]); exact ⟨rfl, rfl⟩, ?_⟩; go_big_quiet_on) | (refine Exists.intro _ ⟨fun w' hC => (HC.out.2.2.1 w' hC.out.2).mono fun e w2 hh => ⟨hh.1, hh.2.cell hC.out.1 (by simp), hC.out.2.trans' hh.2⟩, ?_⟩; go_big_quiet_on) | (refine Exists.intro _ ⟨fun w' hC => (HC.out.2.2.2.1 w' hC.out.2).mono fun e w2 hh => ⟨hh.1, hh.2.cell hC.out.1 (by simp), hC.out.2.trans' hh.2⟩, ?_⟩; go_big_quiet_on)))
  refine wpQuiet_nil ?_
  rintro w3 ⟨-, hT3⟩
  go_wp2
  go_ret2
  exact ⟨rfl, hT3⟩
end Go.Proofs.YtljgifbnmgpdbaaGreatDoor

namespace Go.Proofs.YtljgifbnmgpdbaaGreatDoor
open Go Go.RowKit

/-- What a value looks like that owns a row. -/
theorem ownsRow_form {w : World} {base e s n : Nat} {v : Value} {xs : List Value} (h : w.ownsRow base e s v n xs) : ∃ a cp, v = .slice a n cp ∧ (0 < n → ∃ g, a = some ⟨g, 0, none⟩ ∧ g < w.heap.size) := by
  rcases h.2 with ⟨rfl, h0⟩ | ⟨g, cap, cur, rfl, hb, hg, _⟩
  · exact ⟨none, 0, by rw [h0], fun h => by omega⟩
  · exact ⟨_, _, rfl, fun _ => ⟨g, rfl, lt_of_heap hg⟩⟩

theorem text1 (s : ByteArray) : [Value.string s].length = 1 := rfl
theorem row_text {w : World} {g n cap : Nat} {ss : List ByteArray} (h : w.ownsRow 0 9 1 (.slice (some ⟨g, 0, none⟩) n cap) n (ss.map .string)) : ∀ i s, ss[i]? = some s → w.cell? ⟨g, 0 + i, none⟩ = some (.string s) := by
  intro i s hi
  have h' : w.ownsRow 0 9 1 (.slice (some ⟨g, 0, none⟩) n cap) n (ss.flatMap fun s => [Value.string s]) := by rw [flat_one]; exact h
  have := row_cell? (f := fun s => [Value.string s]) text1 h' hi (i := 0) (by omega) rfl
  simpa using this

set_option maxRecDepth 100000 in
set_option maxHeartbeats 1600000 in
theorem rsync_ok {w : World} {r d : Nat} {pv : Value} {R : RowM} {F : List Nat} {V : ByteArray → Option ByteArray} {cap tot q : Nat} {data : ByteArray} (h : RowIn w r d pv R) (hD : DiskV w d F V cap tot q) (hdis : ∀ b ∈ rowFoot r pv, b ∉ F) (hg : Glob w) (hS : SegsIn R data V) (hq : q < 1000000) :
    Calls Tryz.prog 79 #[.pointer (some ⟨r, 0, none⟩)] w fun e w' => e = .returned (.int .i64 0) ∧
      ∃ F', RowIn w' r d pv { R with synced := R.fin } ∧ DiskV w' d F' V cap tot q ∧ Touch (rowFoot r pv ++ F) w w' ∧ Grew w.heap.size F F' ∧ ∀ b ∈ rowFoot r pv, b ∉ F' := by
  obtain ⟨c0, -, c2, c3, c4, c5⟩ := h.six
  have hs1 := h.ok.size1
  have hs2 := h.ok.size2
  have hf2 := h.ok.fin2
  have hsy := h.ok.syn
  have hplb : R.places.length ≤ 2000000 ∧ R.begin ≤ 20000000 := by
    rcases Nat.eq_zero_or_pos R.places.length with h0 | h0
    · have : R.begin = 0 := by simp [RowM.begin, List.eq_nil_of_length_eq_zero h0]
      omega
    · have h1 := h.ok.lo h0
      have h2 : (R.places.length - 1) * 16 ≤ (R.places.length - 1) * R.size := Nat.mul_le_mul_left _ hs1
      omega
  have hpl : ∀ i < R.places.length, R.begin + i * R.size ≤ R.fin := fun i hi => seg_lt h.ok hi
  have hlast : 0 < R.places.length → R.fin ≤ R.begin + (R.places.length - 1) * R.size + R.size := by
    intro h0
    have h1 := h.ok.hi
    obtain ⟨m, hm⟩ : ∃ m, R.places.length = m + 1 := ⟨R.places.length - 1, by omega⟩
    rw [hm, Nat.succ_mul] at h1
    rw [hm, Nat.add_sub_cancel]; omega
  have hnone := h.ok.none
  have hcells : ∃ (a : Option Addr) (cp : Nat), pv = .slice a R.places.length cp ∧ ∀ i < R.places.length, ∃ g, a = some ⟨g, 0, none⟩ ∧ w.cell? ⟨g, i, none⟩ = some (.int .i64 ((R.begin + i * R.size : Nat) : Int)) := by
    rcases h.pv with ⟨rfl, h0⟩ | ⟨g, cp, rfl, hc⟩
    · exact ⟨none, 0, by rw [h0]; rfl, fun i hi => by rw [h0] at hi; simp at hi⟩
    · exact ⟨_, cp, rfl, fun i hi => ⟨g, rfl, hc i _ (h.ok.get hi)⟩⟩
  obtain ⟨a, cp, rfl, hcells⟩ := hcells
  have hname : ∀ w' p, Touch [] w w' → p ≤ 20000000 → Calls Tryz.prog 134 #[.pointer (some ⟨r, 0, none⟩), .int .i64 (p : Nat)] w' fun e w'' => e = .returned (.string (segName R.head p)) ∧ Touch [] w' w'' := by
    intro w' p hT hp
    exact sname_ok w' r d _ R (h.touch hT (by simp)) (hg.touch hT (by simp)) hS.head _ (by omega)
  have hdown := fun w' (hT : Touch [] w w') => downV_ok (hD.quiet hT)
  have HC := Lib.hid (And.intro hname (And.intro hdown hcells))
  have HP := Lib.hid (And.intro hpl (And.intro hlast (And.intro hplb (And.intro hs1 (And.intro hs2 (And.intro hf2 (And.intro hsy hnone)))))))
  have HH := Lib.hid (And.intro h (And.intro hD (And.intro hdis (And.intro hg (And.intro hS hq)))))
  clear hname hdown hcells hpl hlast hplb hs1 hs2 hf2 hsy hnone h hD hdis hg hS hq
  go_enter Tryz.func79, Tryz.ntmps79
  go_wp2_with fail
  refine (HC.out.2.1 w (Touch.refl _ _)).mono ?_
  rintro e w1 ⟨rfl, rfl⟩
  go_wp2_with fail
  go_loopg [3, 21] R.places.length (fun k vn vi wr => ∃ (j : Nat) (ss : List ByteArray) (a2 : Option Addr) (cp2 : Nat), j + k = R.places.length ∧ vi = .int .i64 j ∧ vn = .slice a2 ss.length cp2 ∧ wr.ownsRow 0 9 1 (.slice a2 ss.length cp2) ss.length (ss.map .string) ∧
    (∀ b, (Value.slice a2 ss.length cp2).ownBlock = some b → w.heap.size ≤ b) ∧ Touch [] w wr ∧ (∀ s ∈ ss, ∃ i < R.places.length, s = segName R.head (R.begin + i * R.size)) ∧ ss.length ≤ j ∧ (ss = [] ↔ ∀ i < j, ¬ (R.synced < R.begin + i * R.size + R.size ∧ R.synced < R.fin)))
  case atStart => exact ⟨0, [], none, 0, by omega, by go_num, rfl, World.ownsRow_nil _ _ _ _, (fun b hb => by cases hb), Touch.refl _ _, (fun s hs => by cases hs), Nat.le_refl _, by simp⟩
  case round =>
    obtain ⟨j, ss, a2, cp2, hj, rfl, rfl, hown, hfresh, hT, hin, hlen, hemp⟩ := hrel
    have HO := Lib.hid (And.intro hown (And.intro hfresh (And.intro hin (And.intro hlen hemp))))
    have HJ := Lib.hid hj
    have HT := Lib.hid hT
    clear hown hfresh hin hlen hemp hj
    have d0 := hT.cell c0 (by simp)
    have d2 := hT.cell c2 (by simp)
    have d4 := hT.cell c4 (by simp)
    have d5 := hT.cell c5 (by simp)
    by_cases hlt : j < R.places.length
    · obtain ⟨g, rfl, hp⟩ := HC.out.2.2 j hlt
      have hp := hT.cell hp (by simp)
      have hpb : R.begin + j * R.size ≤ 20000000 := Nat.le_trans (HP.out.1 j hlt) HP.out.2.2.2.2.2.1
      generalize hpe : R.begin + j * R.size = p at hp hpb
      have HPE := Lib.hid hpe
      have B1 : (p : Int) ≤ 20000000 := by omega
      have BJ : (j : Int) ≤ 2000000 := by have := HP.out.2.2.1; omega
      have B2 : (R.size : Int) ≤ 4096 := by have := HP.out.2.2.2.2.1; omega
      have hw1 : IntKind.i64.wrap ((p : Int) + R.size) = (p : Int) + R.size := IntWalk.i64_in _ (by omega)
      clear hpe hT
      by_cases hc : R.synced < p + R.size ∧ R.synced < R.fin
      · have hd1 : decide ((R.synced : Int) < (p : Int) + R.size) = true := by simp; omega
        have hd2 : decide (R.synced < R.fin) = true := by simp; omega
        have HC2 := Lib.hid hc
        clear hc
        go_wp2_with fail
        go_quiet (fail)
        have hTq := HT.out.drewN nq
        have HOq : Hid (wr.drewN nq |>.ownsRow 0 9 1 (.slice a2 ss.length cp2) ss.length (ss.map .string)) := Lib.hid HO.out.1
        generalize wr.drewN nq = wq at *
        have HTQ := Lib.hid hTq
        clear d0 d2 d4 d5 hp hTq HT
        go_wp2_with fail
        refine (HC.out.1 wq p HTQ.out hpb).mono ?_
        rintro e w4 ⟨rfl, hT4⟩
        have hown4 := ownsRow_other HOq.out (fun b hb => hT4.block b (HOq.out.lt b hb).2 (by simp))
        obtain ⟨g5, cp5, w5, hrun, hown5, hgr, hlies, hlt5⟩ := push_string (w := w4) (ty := 44) hown4 (segName R.head p) (by have := HO.out.2.2.2.1; have := HP.out.2.2.1; omega)
        have HR := Lib.hid hrun
        have H5 := Lib.hid (And.intro hown5 (And.intro hgr (And.intro hlies (And.intro hlt5 hT4))))
        clear hown4 hrun hown5 hgr hlies hlt5 hT4
        generalize hnm : segName R.head p = nm at *
        have HNM := Lib.hid hnm
        clear hnm
        go_wp2_with (at_builtin; refine wpList_append_run rfl _ _ _ _ rfl rfl rfl HR.out ?_)
        go_roundg (R.places.length - (j + 1))
        case measure => have := HJ.out; omega
        case rel =>
          obtain ⟨hown5, hgr, hlies, hlt5, hT4⟩ := H5.out
          obtain ⟨-, hfresh, hin, hlen, hemp⟩ := HO.out
          have hTw4 := HTQ.out.trans' hT4
          refine ⟨j + 1, ss ++ [nm], some ⟨g5, 0, none⟩, cp5, by have := HJ.out; omega, by go_num, by simp, by simpa using hown5, ?_, ?_, ?_, by simp; omega, ?_⟩
          · intro b hb
            have hb : b = g5 := by injection hb with hb; exact hb.symm
            subst hb
            rcases hlies with h1 | h1
            · exact hfresh _ h1
            · have := hTw4.size; omega
          · exact hTw4.grown hgr fun b hb => .inr (hfresh b hb)
          · intro s hs
            rcases List.mem_append.1 hs with hs | hs
            · exact hin s hs
            · simp at hs; subst hs
              exact ⟨j, hlt, by rw [HPE.out]; exact HNM.out.symm⟩
          · constructor
            · intro e; simp at e
            · intro hh
              have := hh j (by omega)
              rw [HPE.out] at this
              exact (this HC2.out).elim
      · have HC2 := Lib.hid hc
        have HTT := HT
        by_cases hc1 : R.synced < p + R.size
        · have hd1 : decide ((R.synced : Int) < (p : Int) + R.size) = true := by simp; omega
          have hd2 : decide (R.synced < R.fin) = false := by simp; omega
          clear hc hc1
          go_wp2_with fail
          go_quiet (fail)
          go_wp2_with fail
          go_roundg (R.places.length - (j + 1))
          case measure => have := HJ.out; omega
          case rel =>
            obtain ⟨hown, hfresh, hin, hlen, hemp⟩ := HO.out
            refine ⟨j + 1, ss, a2, cp2, by have := HJ.out; omega, by go_num, rfl, hown, hfresh, HTT.out.drewN _, hin, by omega, ?_⟩
            rw [hemp]
            constructor
            · intro hh i hi
              by_cases e : i = j
              · subst e; rw [HPE.out]; exact HC2.out
              · exact hh i (by omega)
            · intro hh i hi
              exact hh i (by omega)
        · have hd1 : decide ((R.synced : Int) < (p : Int) + R.size) = false := by simp; omega
          clear hc hc1
          go_wp2_with fail
          go_quiet (fail)
          go_wp2_with fail
          go_roundg (R.places.length - (j + 1))
          case measure => have := HJ.out; omega
          case rel =>
            obtain ⟨hown, hfresh, hin, hlen, hemp⟩ := HO.out
            refine ⟨j + 1, ss, a2, cp2, by have := HJ.out; omega, by go_num, rfl, hown, hfresh, HTT.out.drewN _, hin, by omega, ?_⟩
            rw [hemp]
            constructor
            · intro hh i hi
              by_cases e : i = j
              · subst e; rw [HPE.out]; exact HC2.out
              · exact hh i (by omega)
            · intro hh i hi
              exact hh i (by omega)
    · have hjl : j = R.places.length := by have := HJ.out; omega
      subst hjl
      by_cases hss : ss = []
      · have hnc := HO.out.2.2.2.2.1 hss
        have heq : R.synced = R.fin := by
          have h1 := HP.out.2.2.2.2.2.2.1
          rcases Nat.eq_zero_or_pos R.places.length with h0 | h0
          · have := HP.out.2.2.2.2.2.2.2 h0; omega
          · have h2 := HP.out.2.1 h0
            have h3 := hnc (R.places.length - 1) (by omega)
            omega
        have HEQ := Lib.hid heq
        subst hss
        clear hnc heq hlt
        simp only [List.length_nil] at HO ⊢
        go_wp2_with fail
        go_ret
        refine ⟨rfl, F, ?_, HH.out.2.1.quiet HT.out, HT.out.nil, Grew.refl _ _, HH.out.2.2.1⟩
        have e1 : ({ R with synced := R.fin } : RowM) = R := by
          have := HEQ.out
          cases R
          simp only at this ⊢
          rw [this]
        rw [e1]
        exact HH.out.1.touch HT.out (by simp)
      · have hne : ((ss.length : Int) == 0) = false := by
          have : ss.length ≠ 0 := fun e => hss (List.eq_nil_of_length_eq_zero e)
          simp; omega
        have hpos : 0 < ss.length := by
          rcases Nat.eq_zero_or_pos ss.length with e | e
          · exact (hss (List.eq_nil_of_length_eq_zero e)).elim
          · exact e
        obtain ⟨a3, cp3, e3, hg3⟩ := ownsRow_form HO.out.1
        injection e3 with e3 _ e4
        obtain ⟨g3, e5, hg4⟩ := hg3 hpos
        subst e4; subst e3; subst e5
        have HG := Lib.hid (And.intro hpos hg4)
        clear hss hpos hg3 hg4 hlt
        go_wp2_with fail
        refine (syncV_ok (HH.out.2.1.quiet HT.out) g3 0 _ ss (row_text HO.out.1) (by have := HO.out.2.2.2.1; have := HP.out.2.2.1; omega) ?_ HG.out.2 ?_ HH.out.2.2.2.2.2).mono ?_
        · intro hb
          have h1 := HO.out.2.1 g3 rfl
          have h2 := HH.out.2.1.lt g3 hb
          omega
        · intro s hs
          obtain ⟨i, hi, rfl⟩ := HO.out.2.2.1 s hs
          exact ⟨_, HH.out.2.2.2.2.1.seg i hi⟩
        rintro e w5 ⟨rfl, F5, hD5, hT5, hG5⟩
        have hsz : w.heap.size ≤ wr.heap.size := HT.out.size
        have h5 := (HH.out.1.touch HT.out (by simp)).touch hT5 HH.out.2.2.1
        obtain ⟨-, -, -, -, g4, g5⟩ := h5.six
        have g5f := free_of h5.cells 5
        have H5 := Lib.hid (And.intro h5 (And.intro hD5 (And.intro hT5 (And.intro hG5 hsz))))
        clear d0 d2 d4 d5 h5 hD5 hT5 hG5 hsz
        go_wp2_with fail
        go_ret
        obtain ⟨h5, hD5, hT5, hG5, hsz⟩ := H5.out
        have hdis5 : ∀ b ∈ rowFoot r (.slice a R.places.length cp), b ∉ F5 := hG5.apart (fun b hb => Nat.lt_of_lt_of_le (HH.out.1.lt b hb) hsz) HH.out.2.2.1
        refine ⟨rfl, F5, ⟨?_, ?_, h5.apart, h5.low, ?_⟩, hD5.touch ((Touch.refl [r] _).setCell _ _ _ _ (by simp)) ?_, ((HT.out.nil).trans (hT5.mono (G := rowFoot r (.slice a R.places.length cp) ++ F) (by intro b hb; simp [hb])) (fun b hb => .inl hb)).setCell _ _ _ _ (.inl (by simp [rowFoot])), ?_, hdis5⟩
        · have := heap_setCell_at h5.cells 5 (.int .i64 (R.fin : Int))
          rw [this]
          rfl
        · exact ownsRow_other h5.places fun b hb => heap_setCell_ne _ _ _ _ _ _ (h5.apart_pv b hb)
        · obtain ⟨k1, k2, k3, k4, k5, k6, k7, k8, k9⟩ := HH.out.1.ok
          exact ⟨k1, k2, k3, Nat.le_refl _, k5, k6, k7, k8, k9⟩
        · intro b hb hb2
          simp at hb2; subst hb2
          exact hdis5 b (by simp [rowFoot]) hb
        · intro b hb
          rcases hG5 b hb with h1 | h1
          · exact .inl h1
          · exact .inr (by omega)
end Go.Proofs.YtljgifbnmgpdbaaGreatDoor

namespace Go.Proofs.YtljgifbnmgpdbaaGreatDoor
open Go Go.RowKit

/-- No text of the disk has a name with the head. -/
def Free (V : ByteArray → Option ByteArray) (head : ByteArray) : Prop := ∀ s x, V s = some x → Lib.hasPrefix s.data.toList head.data.toList = false

set_option maxRecDepth 100000 in
set_option maxHeartbeats 1600000 in
theorem found_none {w : World} {r d : Nat} {F : List Nat} {V : ByteArray → Option ByteArray} {cap tot q : Nat} {head : ByteArray} (hD : DiskV w d F V cap tot q) (hq : q ≤ 1000000) (hf : Free V head)
    (c0 : w.cell? ⟨r, 0, none⟩ = some (.pointer (some ⟨d, 0, none⟩))) (c1 : w.cell? ⟨r, 1, none⟩ = some (.string head)) :
    Calls Tryz.prog 167 #[.pointer (some ⟨r, 0, none⟩)] w fun e w' => e = .returned (.slice none 0 0) ∧ Touch [] w w' := by
  have HD := Lib.hid (And.intro hD (And.intro hq hf))
  clear hD hq hf
  go_enter Tryz.func167, Tryz.ntmps167
  go_wp2_with fail
  go_region_held3 (fun w' => w'.cell? ⟨r, 0, none⟩ = some (.pointer (some ⟨d, 0, none⟩)) ∧ w'.cell? ⟨r, 1, none⟩ = some (.string head))
    (first
      | exact ⟨c0, c1⟩
      | exact ⟨hT4.cell c0 (by simp), hT4.cell c1 (by simp)⟩)
    (first
      | (go_at_call 121; refine (listV_none (HD.out.1.quiet ((Touch.refl [] w).drew)) HD.out.2.1 head HD.out.2.2).mono ?_; rintro e w4 ⟨a, cp, rfl, hT4⟩))
  have HT := Lib.hid (Touch.of_drew hT4)
  clear hT4 c0 c1
  go_wp2_with fail
  go_loopg [3, 21] 0 (fun k o i wr => o = .slice none 0 0 ∧ i = .int .i64 0 ∧ Touch [] w wr)
  case atStart => exact ⟨rfl, rfl, HT.out⟩
  case round =>
    obtain ⟨rfl, rfl, hT⟩ := hrel
    go_wp2
    go_ret
    exact ⟨rfl, hT⟩
def emptyRow (head : ByteArray) (size : Nat) : RowM := ⟨head, size, [], 0, 0⟩

theorem hasPrefix_append : ∀ (p s : List UInt8), Lib.hasPrefix (p ++ s) p = true
  | [], s => by cases s <;> rfl
  | a :: p, s => by
    have := hasPrefix_append p s
    simpa [Lib.hasPrefix] using this

theorem free_segs {V : ByteArray → Option ByteArray} {head : ByteArray} (hf : Free V head) (hh : head.size ≤ 900) (size : Nat) : SegsIn (emptyRow head size) ⟨#[]⟩ V := by
  refine ⟨rfl, hh, fun i hi => by simp [emptyRow] at hi, ?_⟩
  intro p _ _
  cases hv : V (segName head p) with
  | none => exact hv
  | some x =>
    have := hf _ x hv
    have h2 : Lib.hasPrefix (segName head p).data.toList head.data.toList = true := by
      show Lib.hasPrefix (head.data.toList ++ digits8 p).toArray.toList _ = true
      exact hasPrefix_append _ _
    rw [h2] at this
    cases this

theorem empty_ok {head : ByteArray} {size : Nat} (h1 : 16 ≤ size) (h2 : size ≤ 4096) : RowOk (emptyRow head size) :=
  ⟨h1, h2, by show 0 ≤ _; omega, Nat.le_refl _, rfl, by show 0 % _ = 0; simp, fun _ => rfl, fun h => by simp [emptyRow] at h, by show 0 ≤ _; omega⟩

set_option maxRecDepth 100000 in
set_option maxHeartbeats 1600000 in
theorem open_none {w : World} {d : Nat} {F : List Nat} {V : ByteArray → Option ByteArray} {cap tot q : Nat} (head : ByteArray) (size : Nat) (hD : DiskV w d F V cap tot q) (hq : q ≤ 1000000) (hf : Free V head) (h1 : 16 ≤ size) (h2 : size ≤ 4096) (h8 : 8 ≤ w.heap.size) :
    Calls Tryz.prog 117 #[.pointer (some ⟨d, 0, none⟩), .string head, .int .i64 size] w fun e w' => ∃ r, e = .returned (.tuple #[.pointer (some ⟨r, 0, none⟩), .int .i64 0]) ∧ w.heap.size ≤ r ∧ RowIn w' r d (.slice none 0 0) (emptyRow head size) ∧ Touch [] w w' := by
  have hd1 : decide ((size : Int) < 16) = false := by simp; omega
  have hd2 : decide ((4096 : Int) < size) = false := by simp; omega
  have HD := Lib.hid (And.intro hD (And.intro hq (And.intro hf (And.intro h1 (And.intro h2 h8)))))
  clear hD hq hf h1 h2 h8
  go_enter Tryz.func117, Tryz.ntmps117
  go_wp2_with fail
  refine (downV_ok HD.out.1).mono ?_
  rintro e w1 ⟨rfl, rfl⟩
  go_wp2_with fail
  obtain ⟨r, hr⟩ : ∃ r, r = w.heap.size := ⟨_, rfl⟩
  have hat := heap_alloc_at w (.cells #[.pointer (some ⟨d, 0, none⟩), .string head, .int .i64 size, .slice none 0 0, .int .i64 0, .int .i64 0] 138)
  have hT1 : Touch [] w (w.alloc (.cells #[.pointer (some ⟨d, 0, none⟩), .string head, .int .i64 size, .slice none 0 0, .int .i64 0, .int .i64 0] 138)) := (Touch.refl _ _).alloc _
  generalize w.alloc (.cells #[.pointer (some ⟨d, 0, none⟩), .string head, .int .i64 size, .slice none 0 0, .int .i64 0, .int .i64 0] 138) = w1 at *
  rw [← hr] at hat ⊢
  have HR := Lib.hid (And.intro hr (And.intro hat hT1))
  clear hr
  refine (found_none (HD.out.1.quiet hT1) HD.out.2.1 HD.out.2.2.1 (cell_of hat 0 _ rfl) (cell_of hat 1 _ rfl)).mono ?_
  rintro e w2 ⟨rfl, hT2⟩
  have hat2 := hT2.heap hat (by simp)
  have HT2 := Lib.hid (And.intro (hT1.trans' hT2) hat2)
  have hrow : RowIn w2 r d (.slice none 0 0) (emptyRow head size) := ⟨hat2, World.ownsRow_nil _ _ _ _, by simp [rowFoot, Value.ownBlock], by
    intro b hb
    simp [rowFoot, Value.ownBlock] at hb
    have := HD.out.2.2.2.2.2
    have := HR.out.1
    omega, empty_ok HD.out.2.2.2.1 HD.out.2.2.2.2.1⟩
  have HROW := Lib.hid hrow
  have e5 := cell_of hat2 5 _ rfl
  have e5f := free_of hat2 5
  clear hat hT1 hT2 hat2 hrow
  go_wp2_with fail
  refine (begin_ok w2 r d _ _ HROW.out).mono ?_
  rintro e w3 ⟨rfl, rfl⟩
  go_wp2_with fail
  go_ret2
  refine ⟨r, rfl, by have := HR.out.1; omega, ⟨?_, World.ownsRow_nil _ _ _ _, HROW.out.apart, HROW.out.low, HROW.out.ok⟩, HT2.out.1.setCell _ _ _ _ (.inr (by have := HR.out.1; omega))⟩
  have := heap_setCell_at HROW.out.cells 5 (.int .i64 ((emptyRow head size).begin : Int))
  rw [this]; rfl
end Go.Proofs.YtljgifbnmgpdbaaGreatDoor

namespace Go.Proofs.YtljgifbnmgpdbaaGreatDoor
open Go Go.RowKit

theorem size_builder : (Tryz.prog.info? 317).map (fun i => (i.size)) = some 2 := by kernel_rfl

set_option maxRecDepth 100000 in
set_option maxHeartbeats 1000000 in
theorem copyCheck_used (b : Nat) (w : World) (h0 : w.cell? ⟨b, 0, none⟩ = some (.pointer (some ⟨b, 0, none⟩))) :
    Calls Tryz.prog 273 #[.pointer (some ⟨b, 0, none⟩)] w fun e w' => e = .returned (.tuple #[]) ∧ w' = w := by
  obtain ⟨j, hj, _⟩ := Option.map_eq_some_iff.1 size_builder
  go_enter Tryz.func273, Tryz.ntmps273
  go_wp2
  rw [Lib.run_neq_ptr_same w _ Tryz.underlying315 hj]
  go_wp2
  go_end0
  exact ⟨rfl, rfl⟩

set_option maxRecDepth 100000 in
set_option maxHeartbeats 1000000 in
theorem copyCheck_fresh (b : Nat) (w : World) (h0 : w.cell? ⟨b, 0, none⟩ = some (.pointer none)) (hsh : w.shape? b = some (317, 2)) (hfz : w.frozen? ⟨b, 0, none⟩ = false) :
    Calls Tryz.prog 273 #[.pointer (some ⟨b, 0, none⟩)] w fun e w' => e = .returned (.tuple #[]) ∧ w' = w.setCell ⟨b, 0, none⟩ (.pointer (some ⟨b, 0, none⟩)) := by
  obtain ⟨j, hj, hjs⟩ := Option.map_eq_some_iff.1 size_builder
  go_enter Tryz.func273, Tryz.ntmps273
  go_wp2
  rw [Lib.run_to_unsafe w ⟨b, 0, none⟩ Tryz.underlying315 Tryz.underlying378 hj (by rw [hjs]; decide) hsh (Nat.zero_lt_succ 1)]
  simp only [Result.andThen]
  rw [Oper.upon_value]
  go_wp2
  rw [run_callFunc_extern Tryz.func306 (by kernel_rfl) (by kernel_rfl) (by kernel_rfl) (e := Extern.AbiNoEscape.same) (by kernel_rfl)]
  rw [Lib.run_noEscape]
  simp only [Result.andThen]
  rw [Oper.upon_value]
  go_wp2
  rw [Lib.run_from_unsafe w ⟨b, 0, none⟩ Tryz.underlying378 Tryz.underlying315 hj hsh (by kernel_rfl)]
  simp only [Result.andThen]
  rw [Oper.upon_value]
  go_wp2
  go_end0
  exact ⟨rfl, rfl⟩

theorem copyCheck_ok (B b : Nat) (bs : List Value) (w : World) (h : Lib.IsBuilder 317 5 B b bs w) :
    Calls Tryz.prog 273 #[.pointer (some ⟨b, 0, none⟩)] w fun e w' => e = .returned (.tuple #[]) ∧ (Lib.BuilderAt 317 5 B b (.pointer (some ⟨b, 0, none⟩)) bs w' ∧ Below B w w') := by
  rcases h with h | h
  · refine (copyCheck_fresh b w h.cell0 h.shape h.frozen0).mono ?_
    rintro e w' ⟨rfl, rfl⟩
    exact ⟨rfl, h.used _, (Below.refl B w).setCell (p := ⟨b, 0, none⟩) h.1 _⟩
  · refine (copyCheck_used b w h.cell0).mono ?_
    rintro e w' ⟨rfl, rfl⟩
    exact ⟨rfl, h, Below.refl B _⟩

set_option maxRecDepth 100000 in
set_option maxHeartbeats 2000000 in
theorem writeString_ok (B b : Nat) (bs : List Value) (s : ByteArray) (w : World) (h : Lib.IsBuilder 317 5 B b bs w) (hlen : bs.length + s.size ≤ 140737488355328) (hBw : B ≤ w.heap.size) :
    Calls Tryz.prog 238 #[.pointer (some ⟨b, 0, none⟩), .string s] w fun e w' => e = .returned (.tuple #[.int .i64 s.size, .nilIface]) ∧ (Lib.BuilderAt 317 5 B b (.pointer (some ⟨b, 0, none⟩)) (bs ++ Lib.strCells s) w' ∧ Below B w w') := by
  obtain ⟨i0, hi, hz0, hz1, hz2⟩ := info_parts info_u8
  go_enter Tryz.func238, Tryz.ntmps238
  go_wp2_with (go_at_call 273; refine (copyCheck_ok B b bs _ h).mono ?_)
  rintro e w1 ⟨rfl, h1, hb1⟩
  obtain ⟨hB, v, hbk, hown, hne⟩ := h1
  have c0 : w1.cell? ⟨b, 0, none⟩ = some (.pointer (some ⟨b, 0, none⟩)) := by rw [Lib.cell_of_heap hbk]; rfl
  have c1 : w1.cell? ⟨b, 1, none⟩ = some v := by rw [Lib.cell_of_heap hbk]; rfl
  go_wp2_with (at_builtin; refine Lib.wpList_append_own_string _ rfl _ _ 94 9 rfl B 5 i0 Tryz.underlying94 Tryz.underlying9 hi hz0 hz1 hz2 _ _ _ rfl hown s rfl ?c3 ?c4 ?c5 ?_)
  case c3 => unfold maxLen; omega
  case c4 => omega
  case c5 => have := hb1.size; omega
  intro v' w2 hown' hgrow _
  have hlt : b < w1.heap.size := lt_of_heap hbk
  have hb2 : w2.heap[b]? = some (.cells #[.pointer (some ⟨b, 0, none⟩), v] 317 (0, 0)) := by
    rw [hgrow.block b hlt (fun e => hne e.symm)]
    exact hbk
  have d0 : w2.cell? ⟨b, 0, none⟩ = some (.pointer (some ⟨b, 0, none⟩)) := by rw [Lib.cell_of_heap hb2]; rfl
  have d1 : w2.cell? ⟨b, 1, none⟩ = some v := by rw [Lib.cell_of_heap hb2]; rfl
  have f1 : w2.frozen? ⟨b, 1, none⟩ = false := Lib.frozen_of_heap hb2 1
  obtain ⟨ao, n', cap, rfl⟩ : ∃ ao n' cap, v' = .slice ao n' cap := by
    rcases hown'.2 with ⟨hv, _⟩ | ⟨g, cap, cur, hv, _⟩
    · exact ⟨_, _, _, hv⟩
    · exact ⟨_, _, _, hv⟩
  go_wp2
  go_ret2
  refine ⟨rfl, ?_, ?_⟩
  · exact Lib.BuilderAt.put (T := 317) (e := 5) hB hb2 (bs' := bs ++ Lib.strCells s) (by simpa [Lib.strCells_length] using hown') (by decide)
  · exact (hb1.grown hgrow (by have := hb1.size; omega) (fun k hk => (hown.lt k hk).1)).setCell (p := ⟨b, 1, none⟩) hB _
end Go.Proofs.YtljgifbnmgpdbaaGreatDoor

namespace Go.Proofs.YtljgifbnmgpdbaaGreatDoor
open Go Go.RowKit

/-- The last n bytes of a number, the first ahead. -/
def be : Nat → Nat → List UInt8
  | 0, _ => []
  | n + 1, x => UInt8.ofNat (x / 256 ^ n) :: be n x

theorem be_len : ∀ n x, (be n x).length = n
  | 0, _ => rfl
  | n + 1, x => by simp [be, be_len n x]

/-- Zeros are laid. -/
theorem make_bytes (w : World) (n : Nat) (hn : n ≤ 1000000) :
    ∃ w', (Instr.makeSlice 94 (.int .i64 (n : Int)) (.int .i64 (n : Int))).run Tryz.prog w = .ok (.slice (some ⟨w.heap.size, 0, none⟩) n n) w' ∧
      w'.ownsRow 0 5 1 (.slice (some ⟨w.heap.size, 0, none⟩) n n) n (bcells (List.replicate n 0)) ∧ Touch [] w w' := by
  obtain ⟨i0, hi, hz0, hz1, hz2⟩ := info_parts info_u8
  obtain ⟨w', h1, h2, h3⟩ := run_makeSlice_full (P := Tryz.prog) w 0 94 5 i0 _ 1 Tryz.underlying94 hi hz0 hz1 .i64 .i64 n (by omega) (by rw [hz2]; omega) (by simp only [maxLen]; omega) (Nat.zero_le _)
  refine ⟨w', h1, ?_, (Touch.refl [] w).grown h3 (by simp)⟩
  have : (madeCells (Value.int .u8 0).cells (n * 1)).toList = bcells (List.replicate n 0) := by
    simp [madeCells, bcells, Value.cells, Nat.mod_one]
    apply List.ext_getElem
    · simp
    · intro i h1 h2; simp
  rw [this] at h2
  exact h2

theorem be_set {n j x : Nat} (hj : j < n) : (bcells (List.replicate (n - j) 0 ++ be j x)).set (n - 1 - j) (.int .u8 ((x / 256 ^ j % 256 : Nat) : Int)) = bcells (List.replicate (n - (j + 1)) 0 ++ be (j + 1) x) := by
  obtain ⟨m, rfl⟩ : ∃ m, n = m + j + 1 := ⟨n - j - 1, by omega⟩
  have e1 : m + j + 1 - j = m + 1 := by omega
  have e2 : m + j + 1 - 1 - j = m := by omega
  have e3 : m + j + 1 - (j + 1) = m := by omega
  rw [e1, e2, e3, List.replicate_succ', List.append_assoc, bcells_append, bcells_append]
  have hl : (bcells (List.replicate m 0)).length = m := by rw [length_bcells]; simp
  rw [List.set_append_right _ _ (by rw [hl]; exact Nat.le_refl _), hl, Nat.sub_self]
  have : (UInt8.ofNat (x / 256 ^ j)).toNat = x / 256 ^ j % 256 := by rw [UInt8.toNat_ofNat']
  simp [bcells, be, this]

/-- A row of bytes, as a text. -/
theorem back_of_row {w : World} {g cap : Nat} {l : List UInt8} (h : w.ownsRow 0 5 1 (.slice (some ⟨g, 0, none⟩) l.length cap) l.length (bcells l)) :
    (convert 94 9 (.slice (some ⟨g, 0, none⟩) l.length cap)).run Tryz.prog w = .ok (.string ⟨l.toArray⟩) w := by
  refine run_convert_bytes_back (P := Tryz.prog) w 94 9 5 ⟨g, 0, none⟩ cap l Tryz.underlying94 Tryz.underlying5 Tryz.underlying9 fun j hj => ?_
  refine h.cells (g := g) rfl j _ ?_
  simp [bcells, hj]

set_option maxRecDepth 100000 in
set_option maxHeartbeats 1000000 in
theorem put_ok (w : World) (n x : Nat) (hn : n ≤ 7) (hx : x < 9223372036854775808) :
    Calls Tryz.prog 239 #[.int .i64 n, .int .i64 x] w fun e w' => e = .returned (.string ⟨(be n x).toArray⟩) ∧ Touch [] w w' := by
  have B1 : (n : Int) ≤ 7 := by omega
  obtain ⟨w1, hmk, hrow, hT1⟩ := make_bytes w n (by omega)
  obtain ⟨g, hg⟩ : ∃ g, g = w.heap.size := ⟨_, rfl⟩
  rw [← hg] at hmk hrow
  have HR := Lib.hid (And.intro hrow (And.intro hT1 hg))
  have HX := Lib.hid (And.intro hn hx)
  clear hrow hT1 hg hx hn
  go_enter Tryz.func239, Tryz.ntmps239
  go_wp2_with fail
  go_loopg [1, 11] n (fun k vx vi wr => ∃ j : Nat, j + k = n ∧ vi = .int .i64 j ∧ vx = .int .i64 ((x / 256 ^ j : Nat) : Int) ∧ wr.ownsRow 0 5 1 (.slice (some ⟨g, 0, none⟩) n n) n (bcells (List.replicate (n - j) 0 ++ be j x)) ∧ Touch [] w wr)
  case atStart => exact ⟨0, by omega, by go_num, by simp, by simpa [be] using HR.out.1, HR.out.2.1⟩
  case round =>
    obtain ⟨j, hj, rfl, rfl, hown, hT⟩ := hrel
    have HO := Lib.hid (And.intro hown (And.intro hT hj))
    clear hown hT hj
    by_cases hlt : j < n
    · have BJ : (j : Int) ≤ 7 := by omega
      have hlen : (bcells (List.replicate (n - j) 0 ++ be j x)).length = n := by rw [length_bcells, List.length_append, be_len]; simp; omega
      have hc : ∃ v, wr.cell? ⟨g, n - 1 - j, none⟩ = some v := by
        have h0 : n - 1 - j < (bcells (List.replicate (n - j) 0 ++ be j x)).length := by rw [hlen]; omega
        have := HO.out.1.cells (g := g) rfl (n - 1 - j) _ (List.getElem?_eq_getElem h0)
        rw [addr_add, Nat.zero_add] at this
        exact ⟨_, this⟩
      obtain ⟨v0, hc⟩ := hc
      have hf := row_free HO.out.1 (n - 1 - j)
      obtain ⟨y, hy⟩ : ∃ y, y = x / 256 ^ j := ⟨_, rfl⟩
      rw [← hy]
      have HY := Lib.hid hy
      have BY : (y : Int) ≤ 9223372036854775807 := by
        have h1 := HX.out.2
        have h2 : y ≤ x := by rw [hy]; exact Nat.div_le_self _ _
        omega
      have hdj : n - 1 - j < n := by omega
      clear hlen hy
      go_wp2_with fail
      go_roundg (n - (j + 1))
      case measure => have := HO.out.2.2; omega
      case rel =>
        refine ⟨j + 1, by omega, by go_num, ?_, ?_, HO.out.2.1.setCell _ _ _ _ (.inr ?_)⟩
        · rw [Nat.pow_succ, ← Nat.div_div_eq_div_mul, ← HY.out]; rfl
        · have := row_set HO.out.1 (n - 1 - j) (.int .u8 ((x / 256 ^ j % 256 : Nat) : Int))
          rw [be_set hlt, ← HY.out] at this
          exact this
        · have := HR.out.2.2; omega
    · have hjn : j = n := by have := HO.out.2.2; omega
      subst hjn
      have hown := HO.out.1
      rw [Nat.sub_self, List.replicate_zero, List.nil_append] at hown
      have hl := be_len j x
      have hback := back_of_row (l := be j x) (cap := j) (by rw [hl]; exact hown)
      rw [hl] at hback
      have HT := Lib.hid HO.out.2.1
      clear hown hl HO
      go_wp2_with fail
      go_ret
      exact ⟨rfl, HT.out⟩
end Go.Proofs.YtljgifbnmgpdbaaGreatDoor

namespace Go.Proofs.YtljgifbnmgpdbaaGreatDoor
open Go Go.RowKit

/-- The number of bytes. -/
def beVal (l : List UInt8) : Nat := l.foldl (fun a b => a * 256 + b.toNat) 0

theorem beVal_snoc (l : List UInt8) (b : UInt8) : beVal (l ++ [b]) = beVal l * 256 + b.toNat := by simp [beVal]
theorem beVal_lt (l : List UInt8) : beVal l < 256 ^ l.length := by
  have key : ∀ n, ∀ l : List UInt8, l.length = n → beVal l < 256 ^ n := by
    intro n
    induction n with
    | zero => intro l hl; rw [List.eq_nil_of_length_eq_zero hl]; simp [beVal]
    | succ n ih =>
      intro l hl
      obtain ⟨m, b, rfl⟩ : ∃ m b, l = m ++ [b] := by
        have hne : l ≠ [] := fun e => by rw [e] at hl; cases hl
        exact ⟨l.dropLast, l.getLast hne, (List.dropLast_concat_getLast hne).symm⟩
      have h1 := ih m (by simpa using hl)
      rw [beVal_snoc, Nat.pow_succ]
      have := b.toNat_lt
      omega
  exact key _ l rfl

theorem beVal_go (a : Nat) : ∀ l : List UInt8, l.foldl (fun a b => a * 256 + b.toNat) a = a * 256 ^ l.length + beVal l
  | [] => by simp [beVal]
  | b :: l => by
    show l.foldl _ (a * 256 + b.toNat) = _
    have h1 := beVal_go (a * 256 + b.toNat) l
    have h2 := beVal_go (0 * 256 + b.toNat) l
    have h3 : beVal (b :: l) = (0 * 256 + b.toNat) * 256 ^ l.length + beVal l := h2
    rw [h1, h3, List.length_cons, Nat.pow_succ]
    simp only [Nat.zero_mul, Nat.zero_add, Nat.add_mul, Nat.mul_assoc, Nat.mul_comm 256]
    omega

theorem beVal_be : ∀ n x, x < 256 ^ n → beVal (be n x) = x
  | 0, x, h => by simp at h; simp [be, beVal, h]
  | n + 1, x, h => by
    have h1 : x / 256 ^ n < 256 := Nat.div_lt_of_lt_mul (by rw [Nat.pow_succ] at h; exact h)
    have h2 : beVal (be n x) = x % 256 ^ n := by
      have h3 : be n x = be n (x % 256 ^ n) := by
        clear h h1
        have key : ∀ m ≤ n, be m x = be m (x % 256 ^ n) := by
          intro m hm
          induction m with
          | zero => rfl
          | succ m ih =>
            simp only [be]
            rw [ih (by omega)]
            congr 1
            have e1 : (256 : Nat) ^ n = 256 ^ m * 256 ^ (n - m) := by rw [← Nat.pow_add]; congr 1; omega
            rw [e1, Nat.mod_mul_right_div_self]
            have e2 : (256 : Nat) ^ (n - m) = 256 ^ (n - m - 1) * 256 := by rw [← Nat.pow_succ]; congr 1; omega
            have e3 : x / 256 ^ m % 256 ^ (n - m) % 256 = x / 256 ^ m % 256 := by rw [e2, Nat.mul_comm, Nat.mod_mul_right_mod]
            apply UInt8.toNat_inj.1
            rw [UInt8.toNat_ofNat', UInt8.toNat_ofNat']
            exact e3.symm
        exact key n (Nat.le_refl _)
      rw [h3]
      exact beVal_be n _ (Nat.mod_lt _ (Nat.pow_pos (by omega)))
    show List.foldl _ (0 * 256 + (UInt8.ofNat (x / 256 ^ n)).toNat) (be n x) = x
    rw [beVal_go, h2, be_len, UInt8.toNat_ofNat', Nat.zero_mul, Nat.zero_add, Nat.mod_eq_of_lt h1, Nat.mul_comm]
    exact Nat.div_add_mod x (256 ^ n)

theorem i64_or_mul (y b : Nat) (hy : y < 281474976710656) (hb : b < 256) : bits BinOp.or IntKind.i64 ((y : Int) * 256) (b : Int) = ((y * 256 + b : Nat) : Int) := by
  have e : ((y : Int) * 256) = ((y * 256 : Nat) : Int) := by omega
  have h1 : (BitVec.ofInt 64 ((y * 256 : Nat) : Int)).toNat = y * 256 := by
    rw [BitVec.toNat_ofInt]; omega
  have h2 : (BitVec.ofInt 64 ((b : Nat) : Int)).toNat = b := by
    rw [BitVec.toNat_ofInt]; omega
  have h3 : y * 256 ||| b = y * 256 + b := by
    have := Nat.shiftLeft_add_eq_or_of_lt (i := 8) (b := b) (by simpa using hb) y
    rw [Nat.shiftLeft_eq] at this
    exact this.symm
  rw [e]
  show IntKind.i64.wrap ((BitVec.ofInt 64 ((y * 256 : Nat) : Int) ||| BitVec.ofInt 64 (b : Int)).toNat : Int) = _
  rw [BitVec.toNat_or, h1, h2, h3, IntKind.wrap_i64]
  omega

set_option maxRecDepth 100000 in
set_option maxHeartbeats 1000000 in
theorem get_ok (w : World) (s : ByteArray) (hs : s.size ≤ 7) :
    Calls Tryz.prog 194 #[.string s] w fun e w' => e = .returned (.int .i64 (beVal s.data.toList)) ∧ w = w' := by
  have HS := Lib.hid hs
  have hl : s.data.toList.length = s.size := rfl
  have BS : (s.size : Int) ≤ 7 := by omega
  clear hs
  go_enter Tryz.func194, Tryz.ntmps194
  go_wp2_with fail
  go_loopg [3, 7] s.size (fun k vx vi wr => ∃ j : Nat, j + k = s.size ∧ vi = .int .i64 j ∧ vx = .int .i64 (beVal (s.data.toList.take j) : Nat) ∧ w = wr)
  case atStart => exact ⟨0, by omega, by go_num, by simp [beVal], rfl⟩
  case round =>
    obtain ⟨j, hj, rfl, rfl, rfl⟩ := hrel
    have HJ := Lib.hid hj
    clear hj
    by_cases hlt : j < s.size
    · have BJ : (j : Int) ≤ 7 := by omega
      obtain ⟨y, hy⟩ : ∃ y, y = beVal (s.data.toList.take j) := ⟨_, rfl⟩
      rw [← hy]
      have BY : y < 281474976710656 := by
        have h1 := beVal_lt (s.data.toList.take j)
        rw [← hy] at h1
        have h2 : 256 ^ (s.data.toList.take j).length ≤ 256 ^ 6 := Nat.pow_le_pow_right (by omega) (by rw [List.length_take]; have := HS.out; omega)
        omega
      have BY2 : (y : Int) < 281474976710656 := by omega
      have HY := Lib.hid hy
      have hbl : s[j].toNat < 256 := s[j].toNat_lt
      obtain ⟨b, hb⟩ : ∃ b : Nat, b = s[j].toNat := ⟨_, rfl⟩
      have hor := i64_or_mul y b BY (by rw [hb]; exact hbl)
      have hwb : wrap64 (b : Int) = b := wrap64_small (by omega) (by omega)
      have HB := Lib.hid (And.intro hb (And.intro hor hwb))
      clear hy BY hb hor hwb hbl
      go_wp2_with fail
      go_roundg (s.size - (j + 1))
      case measure => have := HJ.out; omega
      case rel =>
        refine ⟨j + 1, by have := HJ.out; omega, by go_num, ?_, rfl⟩
        obtain ⟨h1, h2, h3⟩ := HB.out
        rw [← h1, h3, h2, HY.out]
        have e1 : s.data.toList.take (j + 1) = s.data.toList.take j ++ [s[j]] := by
          rw [List.take_succ_eq_append_getElem (by exact hlt)]
          rfl
        rw [e1, beVal_snoc, h1]
    · have hjn : j = s.size := by have := HJ.out; omega
      subst hjn
      have HL := Lib.hid hl
      clear hl
      go_wp2_with fail
      go_ret
      rw [List.take_of_length_le (by rw [HL.out]; exact Nat.le_refl _)]
      exact ⟨rfl, rfl⟩
end Go.Proofs.YtljgifbnmgpdbaaGreatDoor

namespace Go.Proofs.YtljgifbnmgpdbaaGreatDoor
open Go Go.RowKit

theorem builder_new (w : World) (B : Nat) (hB : B ≤ w.heap.size) : Lib.IsBuilder 317 5 B w.heap.size [] (w.alloc (.cells #[.pointer none, .slice none 0 0] 317)) :=
  .inl ⟨hB, .slice none 0 0, heap_alloc_at w _, World.ownsRow_nil _ _ _ _, by simp [Value.ownBlock]⟩

theorem builder_below {B b : Nat} {bs : List Value} {w w' : World} (h : Lib.IsBuilder 317 5 B b bs w) (hb : Below w.heap.size w w') : Lib.IsBuilder 317 5 B b bs w' := by
  have key : ∀ p, Lib.BuilderAt 317 5 B b p bs w → Lib.BuilderAt 317 5 B b p bs w' := by
    rintro p ⟨h1, v, h2, h3, h4⟩
    refine ⟨h1, v, (hb.block b (lt_of_heap h2)).trans h2, ?_, h4⟩
    obtain ⟨k1, k2⟩ := h3
    refine ⟨k1, ?_⟩
    rcases k2 with k2 | ⟨g, cap, cur, rfl, k3, k4, k5⟩
    · exact .inl k2
    · exact .inr ⟨g, cap, cur, rfl, k3, (hb.block g (lt_of_heap k4)).trans k4, k5⟩
  rcases h with h | h
  · exact .inl (key _ h)
  · exact .inr (key _ h)

theorem Touch.to_below {B : Nat} {w w' : World} (h : Touch [] w w') (hB : B ≤ w.heap.size) : Below B w w' := h.below.mono hB

theorem strCells_eq (s : ByteArray) : Lib.strCells s = bcells s.data.toList := rfl

set_option maxRecDepth 100000 in
set_option maxHeartbeats 1000000 in
theorem num_ok (w : World) (n : Nat) (h1 : 1 ≤ n) (h7 : n ≤ 7) (l : List Nat) (b off cap : Nat) (hc : ∀ i x, l[i]? = some x → w.cell? ⟨b, off + i, none⟩ = some (.int .i64 (x : Nat))) (hl : l.length ≤ 1000) (hx : ∀ x ∈ l, x < 256 ^ n) :
    Calls Tryz.prog 187 #[.int .i64 n, .slice (some ⟨b, off, none⟩) l.length cap] w fun e w' => e = .returned (.tuple #[.string ⟨(l.flatMap (be n)).toArray⟩, .int .i64 0]) ∧ Touch [] w w' := by
  have B1 : (1 : Int) ≤ n := by omega
  have B2 : (n : Int) ≤ 7 := by omega
  have hd1 : decide ((n : Int) < 1) = false := by simp; omega
  have hd2 : decide ((7 : Int) < n) = false := by simp; omega
  have HX := Lib.hid (And.intro hc (And.intro hl hx))
  clear hc hl hx
  go_enter Tryz.func187, Tryz.ntmps187
  go_wp2_with fail
  obtain ⟨B, hB⟩ : ∃ B, B = w.heap.size := ⟨_, rfl⟩
  have hbl := builder_new w B (by omega)
  have hbe : Below B w (w.alloc (.cells #[.pointer none, .slice none 0 0] 317)) := ((Touch.refl [] w).alloc _).to_below (by omega)
  rw [← hB] at hbl ⊢
  have HB := Lib.hid (And.intro hB (And.intro hbl hbe))
  clear hB hbl hbe
  go_loopg [17] l.length (fun k vi wr => ∃ j : Nat, j + k = l.length ∧ vi = .int .i64 j ∧ Lib.IsBuilder 317 5 B B (bcells ((l.take j).flatMap (be n))) wr ∧ Below B w wr)
  case atStart => exact ⟨0, by omega, by go_num, by simpa [bcells] using HB.out.2.1, HB.out.2.2⟩
  case round =>
    obtain ⟨j, hj, rfl, hbl, hbe⟩ := hrel
    have HJ := Lib.hid (And.intro hj (And.intro hbl hbe))
    clear hj hbl hbe
    by_cases hlt : j < l.length
    · have BJ : (j : Int) ≤ 1000 := by have := HX.out.2.1; omega
      have hT : Touch [] w wr := Touch.of_below (HB.out.1 ▸ HJ.out.2.2)
      have hcx := hT.cell (HX.out.1 j _ (List.getElem?_eq_getElem hlt)) (by simp)
      obtain ⟨x, hx⟩ : ∃ x, x = l[j] := ⟨_, rfl⟩
      rw [← hx] at hcx
      have hxl : x < 256 ^ n := by rw [hx]; exact HX.out.2.2 _ (List.getElem_mem hlt)
      have hxb : x < 72057594037927936 := Nat.lt_of_lt_of_le hxl (Nat.le_trans (Nat.pow_le_pow_right (by omega) h7) (by decide))
      have BX : (x : Int) < 72057594037927936 := by omega
      have HXX := Lib.hid (And.intro hx (And.intro hxl hT))
      have HXB := Lib.hid (And.intro hxb BX)
      clear hx hxl hT hxb BX
      have hq : ((x : Int) / 2 ^ (8 * n)) = 0 := by
        have e1 : (2 : Nat) ^ (8 * n) = 256 ^ n := by rw [Nat.pow_mul]
        have e2 : ((2 : Int) ^ (8 * n)) = ((256 ^ n : Nat) : Int) := by rw [← e1]; simp
        have hlt' := HXX.out.2.1
        rw [e2]
        exact Int.ediv_eq_zero_of_lt (by omega) (by omega)
      have hd3 : decide ((x : Int) < 0) = false := by simp
      go_wp2_with fail
      refine (put_ok wr n x h7 (by have := HXB.out.1; omega)).mono ?_
      rintro e w2 ⟨rfl, hT2⟩
      have HT2 := Lib.hid (And.intro (builder_below HJ.out.2.1 hT2.below) (HJ.out.2.2.trans (hT2.to_below (by have := HJ.out.2.2.size; have := HB.out.1; omega))))
      clear hT2
      go_wp2_with fail
      refine (writeString_ok B B _ ⟨(be n x).toArray⟩ w2 HT2.out.1 ?_ (by have := HT2.out.2.size; have := HB.out.1; omega)).mono ?_
      · have h3 := HX.out.2.1
        rw [length_bcells]
        have h4 : ((l.take j).flatMap (be n)).length ≤ j * 7 := by
          have h5 : ∀ m : List Nat, (m.flatMap (be n)).length = m.length * n := fun m => by
            induction m with
            | nil => simp
            | cons a m ih => simp only [List.flatMap_cons, List.length_append, be_len, ih, List.length_cons, Nat.succ_mul]; omega
          rw [h5]
          have h6 : (l.take j).length ≤ j := by rw [List.length_take]; omega
          exact Nat.mul_le_mul h6 h7
        have h5 : (ByteArray.mk (be n x).toArray).size = n := by show (be n x).toArray.size = n; simp [be_len]
        rw [h5]
        omega
      rintro e w3 ⟨rfl, hbl3, hbe3⟩
      have H3 := Lib.hid (And.intro hbl3 hbe3)
      clear hbl3 hbe3
      go_wp2_with fail
      go_roundg (l.length - (j + 1))
      case measure => have := HJ.out.1; omega
      case rel =>
        refine ⟨j + 1, by have := HJ.out.1; omega, by go_num, ?_, HT2.out.2.trans H3.out.2⟩
        have := H3.out.1
        rw [strCells_eq, ← bcells_append] at this
        rw [List.take_succ_eq_append_getElem hlt, List.flatMap_append, ← HXX.out.1]
        refine .inr ?_
        simpa using this
    · have hjn : j = l.length := by have := HJ.out.1; omega
      subst hjn
      have hb := HJ.out.2.1
      rw [List.take_length] at hb
      have HBB := Lib.hid (And.intro hb HJ.out.2.2)
      clear hb
      go_wp2_with fail
      refine (Tryz.Builder_String_any B B (l.flatMap (be n)) wr HBB.out.1 (by have := HBB.out.2.size; have := HB.out.1; omega)).mono ?_
      rintro e w2 ⟨rfl, hbe2⟩
      go_wp2_with fail
      go_ret2
      exact ⟨rfl, Touch.of_below (HB.out.1 ▸ HBB.out.2.trans hbe2)⟩
end Go.Proofs.YtljgifbnmgpdbaaGreatDoor

namespace Go.Proofs.YtljgifbnmgpdbaaGreatDoor
open Go Go.RowKit

/-- Texts that lie in a row, or in none. -/
def StrsAt (w : World) (a : Option Addr) (ss : List ByteArray) : Prop := ∀ i s, ss[i]? = some s → ∃ b off, a = some ⟨b, off, none⟩ ∧ w.cell? ⟨b, off + i, none⟩ = some (.string s)

theorem StrsAt.touch {w w' : World} {a : Option Addr} {ss : List ByteArray} {F : List Nat} (h : StrsAt w a ss) (hT : Touch F w w') (hF : ∀ b off, a = some ⟨b, off, none⟩ → b ∉ F) : StrsAt w' a ss := by
  intro i s hi
  obtain ⟨b, off, ha, hc⟩ := h i s hi
  exact ⟨b, off, ha, hT.cell hc (hF b off ha)⟩
theorem StrsAt.quiet {w w' : World} {a : Option Addr} {ss : List ByteArray} (h : StrsAt w a ss) (hT : Touch [] w w') : StrsAt w' a ss := h.touch hT (by simp)

def textB (ss : List ByteArray) : List UInt8 := ss.flatMap fun s => be 2 s.size ++ s.data.toList

theorem textB_len : ∀ (ss : List ByteArray), (∀ s ∈ ss, s.size ≤ 65535) → (textB ss).length ≤ ss.length * 65537
  | [], _ => by simp [textB]
  | s :: ss, h => by
    have h1 := h s (by simp)
    have h2 := textB_len ss fun x hx => h x (by simp [hx])
    unfold textB at *
    simp only [List.flatMap_cons, List.length_append, be_len, bytes_len, List.length_cons, Nat.succ_mul]
    omega

set_option maxRecDepth 100000 in
set_option maxHeartbeats 1000000 in
theorem text_ok (w : World) (ss : List ByteArray) (a : Option Addr) (cap : Nat) (hc : StrsAt w a ss) (hl : ss.length ≤ 255) (hx : ∀ s ∈ ss, s.size ≤ 65535) :
    Calls Tryz.prog 244 #[.slice a ss.length cap] w fun e w' => e = .returned (.tuple #[.string ⟨(textB ss).toArray⟩, .int .i64 0]) ∧ Touch [] w w' := by
  have HX := Lib.hid (And.intro hc (And.intro hl hx))
  clear hc hl hx
  go_enter Tryz.func244, Tryz.ntmps244
  go_wp2_with fail
  obtain ⟨B, hB⟩ : ∃ B, B = w.heap.size := ⟨_, rfl⟩
  have hbl := builder_new w B (by omega)
  have hbe : Below B w (w.alloc (.cells #[.pointer none, .slice none 0 0] 317)) := ((Touch.refl [] w).alloc _).to_below (by omega)
  rw [← hB] at hbl ⊢
  have HB := Lib.hid (And.intro hB (And.intro hbl hbe))
  clear hB hbl hbe
  go_loopg [9] ss.length (fun k vi wr => ∃ j : Nat, j + k = ss.length ∧ vi = .int .i64 j ∧ Lib.IsBuilder 317 5 B B (bcells (textB (ss.take j))) wr ∧ Below B w wr)
  case atStart => exact ⟨0, by omega, by go_num, by simpa [bcells, textB] using HB.out.2.1, HB.out.2.2⟩
  case round =>
    obtain ⟨j, hj, rfl, hbl, hbe⟩ := hrel
    have HJ := Lib.hid (And.intro hj (And.intro hbl hbe))
    clear hj hbl hbe
    by_cases hlt : j < ss.length
    · have BJ : (j : Int) ≤ 255 := by have := HX.out.2.1; omega
      have hT : Touch [] w wr := Touch.of_below (HB.out.1 ▸ HJ.out.2.2)
      obtain ⟨b, off, rfl, hcx⟩ := HX.out.1 j _ (List.getElem?_eq_getElem hlt)
      have hcx := hT.cell hcx (by simp)
      obtain ⟨x, hx⟩ : ∃ x, x = ss[j] := ⟨_, rfl⟩
      rw [← hx] at hcx
      have hxl : x.size ≤ 65535 := by rw [hx]; exact HX.out.2.2 _ (List.getElem_mem hlt)
      have hd : decide ((65535 : Int) < x.size) = false := by simp; omega
      have HXX := Lib.hid (And.intro hx (And.intro hxl hT))
      clear hx hxl hT
      go_wp2_with fail
      refine (put_ok wr 2 x.size (by omega) (by have := HXX.out.2.1; omega)).mono ?_
      rintro e w2 ⟨rfl, hT2⟩
      have HT2 := Lib.hid (And.intro (builder_below HJ.out.2.1 hT2.below) (HJ.out.2.2.trans (hT2.to_below (by have := HJ.out.2.2.size; have := HB.out.1; omega))))
      clear hT2
      obtain ⟨p, hp⟩ : ∃ p : ByteArray, p = ⟨(be 2 x.size).toArray⟩ := ⟨_, rfl⟩
      rw [← hp]
      have hps : p.size = 2 := by rw [hp]; show (be 2 x.size).toArray.size = 2; simp [be_len]
      have HP := Lib.hid (And.intro hp hps)
      have BP : (p.size : Int) ≤ 2 := by omega
      have BX : (x.size : Int) ≤ 65535 := by have := HXX.out.2.1; omega
      clear hp hps
      go_wp2_with fail
      refine (writeString_ok B B _ (p ++ x) w2 HT2.out.1 ?_ (by have := HT2.out.2.size; have := HB.out.1; omega)).mono ?_
      · have h3 := HX.out.2.1
        rw [length_bcells]
        have h4 := textB_len (ss.take j) fun s hs => HX.out.2.2 s (List.mem_of_mem_take hs)
        have h6 : (ss.take j).length ≤ 255 := by rw [List.length_take]; omega
        have h7 : (ss.take j).length * 65537 ≤ 255 * 65537 := Nat.mul_le_mul h6 (Nat.le_refl _)
        rw [ByteArray.size_append]
        have := HP.out.2
        have := HXX.out.2.1
        omega
      rintro e w3 ⟨rfl, hbl3, hbe3⟩
      have H3 := Lib.hid (And.intro hbl3 hbe3)
      clear hbl3 hbe3
      go_wp2_with fail
      go_roundg (ss.length - (j + 1))
      case measure => have := HJ.out.1; omega
      case rel =>
        refine ⟨j + 1, by have := HJ.out.1; omega, by go_num, ?_, HT2.out.2.trans H3.out.2⟩
        have := H3.out.1
        rw [strCells_eq, ← bcells_append] at this
        have e1 : textB (ss.take (j + 1)) = textB (ss.take j) ++ (p ++ x).data.toList := by
          rw [List.take_succ_eq_append_getElem hlt]
          unfold textB
          rw [List.flatMap_append, ← HXX.out.1, ByteArray.data_append, HP.out.1]
          simp
        rw [e1]
        exact .inr this
    · have hjn : j = ss.length := by have := HJ.out.1; omega
      subst hjn
      have hb := HJ.out.2.1
      rw [List.take_length] at hb
      have HBB := Lib.hid (And.intro hb HJ.out.2.2)
      clear hb
      go_wp2_with fail
      refine (Tryz.Builder_String_any B B (textB ss) wr HBB.out.1 (by have := HBB.out.2.size; have := HB.out.1; omega)).mono ?_
      rintro e w2 ⟨rfl, hbe2⟩
      go_wp2_with fail
      go_ret2
      exact ⟨rfl, Touch.of_below (HB.out.1 ▸ HBB.out.2.trans hbe2)⟩

def listB (ss : List ByteArray) : List UInt8 := be 1 ss.length ++ textB ss

set_option maxRecDepth 100000 in
set_option maxHeartbeats 1000000 in
theorem list_ok (w : World) (ss : List ByteArray) (a : Option Addr) (cap : Nat) (hc : StrsAt w a ss) (hl : ss.length ≤ 255) (hx : ∀ s ∈ ss, s.size ≤ 65535) :
    Calls Tryz.prog 245 #[.slice a ss.length cap] w fun e w' => e = .returned (.tuple #[.string ⟨(listB ss).toArray⟩, .int .i64 0]) ∧ Touch [] w w' := by
  have HX := Lib.hid (And.intro hc (And.intro hl hx))
  have hd : decide ((255 : Int) < ss.length) = false := by simp; omega
  clear hc hl hx
  go_enter Tryz.func245, Tryz.ntmps245
  go_wp2_with fail
  refine (text_ok w ss a cap HX.out.1 HX.out.2.1 HX.out.2.2).mono ?_
  rintro e w1 ⟨rfl, hT1⟩
  obtain ⟨t, ht⟩ : ∃ t : ByteArray, t = ⟨(textB ss).toArray⟩ := ⟨_, rfl⟩
  rw [← ht]
  have HT := Lib.hid (And.intro ht hT1)
  have hts : t.size ≤ 255 * 65537 := by
    rw [ht]
    show (textB ss).toArray.size ≤ _
    have h1 := textB_len ss HX.out.2.2
    have h2 : ss.length * 65537 ≤ 255 * 65537 := Nat.mul_le_mul HX.out.2.1 (Nat.le_refl _)
    rw [List.size_toArray]
    exact Nat.le_trans h1 h2
  have BT : (t.size : Int) ≤ 16711935 := by omega
  clear ht hT1 hts
  go_wp2_with fail
  refine (put_ok w1 1 ss.length (by omega) (by have := HX.out.2.1; omega)).mono ?_
  rintro e w2 ⟨rfl, hT2⟩
  obtain ⟨p, hp⟩ : ∃ p : ByteArray, p = ⟨(be 1 ss.length).toArray⟩ := ⟨_, rfl⟩
  rw [← hp]
  have hps : p.size = 1 := by rw [hp]; show (be 1 ss.length).toArray.size = 1; simp [be_len]
  have BP : (p.size : Int) ≤ 1 := by omega
  have HP := Lib.hid (And.intro hp hT2)
  clear hp hps hT2
  go_wp2_with fail
  go_ret2
  refine ⟨?_, HT.out.2.trans' HP.out.2⟩
  have : p ++ t = ⟨(listB ss).toArray⟩ := by
    apply bytes_ext
    rw [ByteArray.data_append, HT.out.1, HP.out.1]
    simp [listB]
  rw [← this]
  rfl
end Go.Proofs.YtljgifbnmgpdbaaGreatDoor

namespace Go.Proofs.YtljgifbnmgpdbaaGreatDoor
open Go Go.RowKit

/-- A reader that has met no error. -/
def RdAt (w : World) (r : Nat) (s : ByteArray) : Prop := w.heap[r]? = some (.cells #[.string s, .int .i64 0] 281 (0, 0))

theorem RdAt.touch {w w' : World} {r : Nat} {s : ByteArray} {F : List Nat} (h : RdAt w r s) (hT : Touch F w w') (hF : r ∉ F) : RdAt w' r s := hT.heap h hF

theorem extract_left (p q : ByteArray) : (p ++ q).extract 0 p.size = p := by
  apply bytes_ext
  rw [ByteArray.data_extract, ByteArray.data_append]
  simp only [Array.toList_extract, Array.toList_append, List.extract_eq_take_drop, List.drop_zero]
  have : p.size - 0 = p.data.toList.length := rfl
  rw [this, List.take_left]

theorem extract_right (p q : ByteArray) : (p ++ q).extract p.size (p ++ q).size = q := by
  apply bytes_ext
  rw [ByteArray.data_extract, ByteArray.data_append]
  simp only [Array.toList_extract, Array.toList_append, List.extract_eq_take_drop]
  have h1 : p.size = p.data.toList.length := rfl
  have h2 : q.size = q.data.toList.length := rfl
  rw [ByteArray.size_append, h1, List.drop_left]
  rw [List.take_of_length_le (by omega)]

set_option maxRecDepth 100000 in
set_option maxHeartbeats 1000000 in
theorem rnew_ok (w : World) (s : ByteArray) : Calls Tryz.prog 139 #[.string s] w fun e w' => e = .returned (.pointer (some ⟨w.heap.size, 0, none⟩)) ∧ RdAt w' w.heap.size s ∧ Touch [] w w' := by
  go_enter Tryz.func139, Tryz.ntmps139
  go_wp2
  go_ret
  exact ⟨rfl, heap_alloc_at w _, (Touch.refl _ _).alloc _⟩

set_option maxRecDepth 100000 in
set_option maxHeartbeats 1000000 in
theorem rerr_ok (w : World) (r : Nat) (s : ByteArray) (h : RdAt w r s) : Calls Tryz.prog 142 #[.pointer (some ⟨r, 0, none⟩)] w fun e w' => e = .returned (.int .i64 0) ∧ w = w' := by
  have c1 := cell_of h 1 _ rfl
  clear h
  go_enter Tryz.func142, Tryz.ntmps142
  go_wp2
  go_ret
  exact ⟨rfl, rfl⟩

set_option maxRecDepth 100000 in
set_option maxHeartbeats 1000000 in
theorem rleft_ok (w : World) (r : Nat) (s : ByteArray) (h : RdAt w r s) : Calls Tryz.prog 253 #[.pointer (some ⟨r, 0, none⟩)] w fun e w' => e = .returned (.int .i64 s.size) ∧ w = w' := by
  have c0 := cell_of h 0 _ rfl
  clear h
  go_enter Tryz.func253, Tryz.ntmps253
  go_wp2
  go_ret
  exact ⟨rfl, rfl⟩

set_option maxRecDepth 100000 in
set_option maxHeartbeats 1000000 in
theorem rend_ok (w : World) (r : Nat) (h : RdAt w r ⟨#[]⟩) : Calls Tryz.prog 200 #[.pointer (some ⟨r, 0, none⟩)] w fun e w' => e = .returned (.int .i64 0) ∧ w = w' := by
  go_enter Tryz.func200, Tryz.ntmps200
  go_wp2_with fail
  refine (rerr_ok w r _ h).mono ?_
  rintro e w' ⟨rfl, rfl⟩
  go_wp2_with fail
  refine (rleft_ok w r _ h).mono ?_
  rintro e w' ⟨rfl, rfl⟩
  go_wp2_with fail
  go_ret
  exact ⟨rfl, rfl⟩

set_option maxRecDepth 100000 in
set_option maxHeartbeats 1000000 in
theorem rtake_ok (w : World) (r : Nat) (p q : ByteArray) (h : RdAt w r (p ++ q)) (hb : (p ++ q).size ≤ 100000000) :
    Calls Tryz.prog 140 #[.pointer (some ⟨r, 0, none⟩), .int .i64 p.size] w fun e w' => e = .returned (.string p) ∧ RdAt w' r q ∧ Touch [r] w w' := by
  have c0 := cell_of h 0 _ rfl
  have c1 := cell_of h 1 _ rfl
  have f0 := free_of h 0
  have hl := extract_left p q
  have hr := extract_right p q
  have hps : p.size ≤ (p ++ q).size := by rw [ByteArray.size_append]; omega
  have HH := Lib.hid h
  generalize p ++ q = s at *
  have B1 : (p.size : Int) ≤ s.size := by omega
  have B2 : (s.size : Int) ≤ 100000000 := by omega
  have hd1 : decide ((p.size : Int) < 0) = false := by simp
  have hd2 : decide (s.size < p.size) = false := by simp; omega
  have HL := Lib.hid (And.intro hl hr)
  clear h hb hl hr
  go_enter Tryz.func140, Tryz.ntmps140
  go_wp2_with fail
  refine (rerr_ok w r _ HH.out).mono ?_
  rintro e w' ⟨rfl, rfl⟩
  go_wp2_with fail
  go_ret
  rw [HL.out.1, HL.out.2]
  refine ⟨rfl, ?_, (Touch.refl _ _).setCell _ _ _ _ (by simp)⟩
  have := heap_setCell_at HH.out 0 (.string q)
  unfold RdAt
  rw [this]; rfl

set_option maxRecDepth 100000 in
set_option maxHeartbeats 1000000 in
theorem rnum_ok (w : World) (r n : Nat) (p q : ByteArray) (h : RdAt w r (p ++ q)) (hb : (p ++ q).size ≤ 100000000) (hn : p.size = n) (h1 : 1 ≤ n) (h7 : n ≤ 7) :
    Calls Tryz.prog 141 #[.pointer (some ⟨r, 0, none⟩), .int .i64 n] w fun e w' => e = .returned (.int .i64 (beVal p.data.toList)) ∧ RdAt w' r q ∧ Touch [r] w w' := by
  have hd1 : decide ((n : Int) < 1) = false := by simp; omega
  have hd2 : decide ((7 : Int) < n) = false := by simp; omega
  have HH := Lib.hid (And.intro h (And.intro hb (And.intro hn (And.intro h1 h7))))
  have htake := rtake_ok w r p q h hb
  rw [hn] at htake
  clear h hb hn h1 h7
  go_enter Tryz.func141, Tryz.ntmps141
  go_wp2_with fail
  refine (rerr_ok w r _ HH.out.1).mono ?_
  rintro e w' ⟨rfl, rfl⟩
  go_wp2_with fail
  refine htake.mono ?_
  rintro e w1 ⟨rfl, h1, hT1⟩
  have H1 := Lib.hid (And.intro h1 hT1)
  clear h1 hT1 htake
  go_wp2_with fail
  refine (get_ok w1 p (by have := HH.out; omega)).mono ?_
  rintro e w2 ⟨rfl, rfl⟩
  go_wp2_with fail
  go_ret
  exact ⟨rfl, H1.out⟩

/-- A number that was laid in n bytes. -/
theorem rnum_be (w : World) (r n x : Nat) (q : ByteArray) (h : RdAt w r (⟨(be n x).toArray⟩ ++ q)) (hb : q.size ≤ 99999000) (h1 : 1 ≤ n) (h7 : n ≤ 7) (hx : x < 256 ^ n) :
    Calls Tryz.prog 141 #[.pointer (some ⟨r, 0, none⟩), .int .i64 n] w fun e w' => e = .returned (.int .i64 x) ∧ RdAt w' r q ∧ Touch [r] w w' := by
  have hs : (ByteArray.mk (be n x).toArray).size = n := by show (be n x).toArray.size = n; simp [be_len]
  have := rnum_ok w r n ⟨(be n x).toArray⟩ q h (by rw [ByteArray.size_append, hs]; omega) hs h1 h7
  have e1 : beVal (ByteArray.mk (be n x).toArray).data.toList = x := by
    show beVal (be n x).toArray.toList = x
    simp [beVal_be n x hx]
  rw [e1] at this
  exact this

theorem append_assocB (a b c : ByteArray) : a ++ b ++ c = a ++ (b ++ c) := by
  apply bytes_ext
  simp only [ByteArray.data_append, Array.toList_append, List.append_assoc]

set_option maxRecDepth 100000 in
set_option maxHeartbeats 1000000 in
theorem rtext_ok (w : World) (r most : Nat) (s q : ByteArray) (h : RdAt w r (⟨(be 2 s.size).toArray⟩ ++ (s ++ q))) (hb : q.size ≤ 99000000) (hm : s.size ≤ most) (hs : s.size ≤ 65535) :
    Calls Tryz.prog 198 #[.pointer (some ⟨r, 0, none⟩), .int .i64 most] w fun e w' => e = .returned (.string s) ∧ RdAt w' r q ∧ Touch [r] w w' := by
  have hd : decide (most < s.size) = false := by simp; omega
  have c0 := cell_of h 0 _ rfl
  have hnum := rnum_be w r 2 s.size (s ++ q) h (by rw [ByteArray.size_append]; omega) (by omega) (by omega) (by omega)
  have HH := Lib.hid (And.intro h (And.intro hb (And.intro hm hs)))
  have HN := Lib.hid hnum
  clear h hb hm hs hnum
  go_enter Tryz.func198, Tryz.ntmps198
  go_wp2_with fail
  refine (rerr_ok w r _ HH.out.1).mono ?_
  rintro e w' ⟨rfl, rfl⟩
  go_wp2_with fail
  refine HN.out.mono ?_
  rintro e w1 ⟨rfl, h1, hT1⟩
  have d1 := cell_of h1 1 _ rfl
  have H1 := Lib.hid (And.intro h1 hT1)
  clear h1 hT1 c0
  go_wp2_with fail
  refine (rtake_ok w1 r s q H1.out.1 (by rw [ByteArray.size_append]; have := HH.out; omega)).mono ?_
  rintro e w2 ⟨rfl, h2, hT2⟩
  have e1 := cell_of h2 1 _ rfl
  have H2 := Lib.hid (And.intro h2 (H1.out.2.trans' hT2))
  clear h2 hT2 d1
  go_wp2_with fail
  go_ret
  exact ⟨rfl, H2.out⟩
end Go.Proofs.YtljgifbnmgpdbaaGreatDoor

namespace Go.Proofs.YtljgifbnmgpdbaaGreatDoor
open Go Go.RowKit

def bytesOf (l : List UInt8) : ByteArray := ⟨l.toArray⟩
theorem bytesOf_append (a b : List UInt8) : bytesOf (a ++ b) = bytesOf a ++ bytesOf b := by
  apply bytes_ext; simp [bytesOf, ByteArray.data_append]
theorem bytesOf_size (l : List UInt8) : (bytesOf l).size = l.length := by show l.toArray.size = _; simp
theorem bytesOf_self (s : ByteArray) : bytesOf s.data.toList = s := by apply bytes_ext; simp [bytesOf]

theorem textB_cons (s : ByteArray) (ss : List ByteArray) (q : ByteArray) : bytesOf (textB (s :: ss)) ++ q = ⟨(be 2 s.size).toArray⟩ ++ (s ++ (bytesOf (textB ss) ++ q)) := by
  have : textB (s :: ss) = be 2 s.size ++ s.data.toList ++ textB ss := rfl
  rw [this, bytesOf_append, bytesOf_append, bytesOf_self, append_assocB, append_assocB]
  rfl

set_option maxRecDepth 100000 in
set_option maxHeartbeats 1000000 in
theorem rlist_ok (w : World) (r many most : Nat) (ss : List ByteArray) (q : ByteArray) (h : RdAt w r (bytesOf (listB ss) ++ q)) (hb : q.size ≤ 9000000) (hm : ss.length ≤ many) (hl : ss.length ≤ 255) (hs : ∀ s ∈ ss, s.size ≤ most ∧ s.size ≤ 65535) :
    Calls Tryz.prog 199 #[.pointer (some ⟨r, 0, none⟩), .int .i64 many, .int .i64 most] w fun e w' => ∃ a cp, e = .returned (.slice a ss.length cp) ∧ w'.ownsRow 0 9 1 (.slice a ss.length cp) ss.length (ss.map .string) ∧
      (∀ b, (Value.slice a ss.length cp).ownBlock = some b → w.heap.size ≤ b) ∧ RdAt w' r q ∧ Touch [r] w w' := by
  have hd : decide (many < ss.length) = false := by simp; omega
  have c0 := cell_of h 0 _ rfl
  have hrl := lt_of_heap h
  have htl : (bytesOf (textB ss)).size ≤ 255 * 65537 := by
    rw [bytesOf_size]
    exact Nat.le_trans (textB_len ss fun s hs' => (hs s hs').2) (Nat.mul_le_mul hl (Nat.le_refl _))
  have hcons : bytesOf (listB ss) ++ q = ⟨(be 1 ss.length).toArray⟩ ++ (bytesOf (textB ss) ++ q) := by
    have : listB ss = be 1 ss.length ++ textB ss := rfl
    rw [this, bytesOf_append, append_assocB]; rfl
  have hnum := rnum_be w r 1 ss.length (bytesOf (textB ss) ++ q) (by rw [← hcons]; exact h) (by rw [ByteArray.size_append]; omega) (by omega) (by omega) (by omega)
  have HH := Lib.hid (And.intro h (And.intro hb (And.intro hm (And.intro hl (And.intro hs hrl)))))
  have HN := Lib.hid hnum
  clear h hb hm hl hs hnum htl hcons hrl
  go_enter Tryz.func199, Tryz.ntmps199
  go_wp2_with fail
  refine (rerr_ok w r _ HH.out.1).mono ?_
  rintro e w' ⟨rfl, rfl⟩
  go_wp2_with fail
  refine HN.out.mono ?_
  rintro e w1 ⟨rfl, h1, hT1⟩
  have d1 := cell_of h1 1 _ rfl
  have H1 := Lib.hid (And.intro h1 hT1)
  clear h1 hT1 c0
  go_wp2_with fail
  go_loopg [9, 33] ss.length (fun k vl vi wr => ∃ (j : Nat) (a : Option Addr) (cp : Nat), j + k = ss.length ∧ vi = .int .i64 j ∧ vl = .slice a j cp ∧ wr.ownsRow 0 9 1 (.slice a j cp) j ((ss.take j).map .string) ∧ (∀ b, (Value.slice a j cp).ownBlock = some b → w.heap.size ≤ b) ∧ RdAt wr r (bytesOf (textB (ss.drop j)) ++ q) ∧ Touch [r] w wr)
  case atStart => exact ⟨0, none, 0, by omega, by go_num, rfl, World.ownsRow_nil _ _ _ _, (fun b hb => by cases hb), by simpa using H1.out.1, H1.out.2⟩
  case round =>
    obtain ⟨j, a, cp, hj, rfl, rfl, hown, hfr, hrd, hT⟩ := hrel
    have HJ := Lib.hid (And.intro hj (And.intro hown (And.intro hfr (And.intro hrd hT))))
    have e1 := cell_of hrd 1 _ rfl
    clear hj hown hfr hrd hT d1
    by_cases hlt : j < ss.length
    · have BJ : (j : Int) ≤ 255 := by have := HH.out; omega
      obtain ⟨s, hs⟩ : ∃ s, s = ss[j] := ⟨_, rfl⟩
      have hsm : s ∈ ss := by rw [hs]; exact List.getElem_mem hlt
      have hdrop : ss.drop j = s :: ss.drop (j + 1) := by rw [hs]; exact List.drop_eq_getElem_cons hlt
      have hrd' := HJ.out.2.2.2.1
      rw [hdrop, textB_cons] at hrd'
      have htl : (bytesOf (textB (ss.drop (j + 1)))).size ≤ 255 * 65537 := by
        rw [bytesOf_size]
        exact Nat.le_trans (textB_len _ fun s hs' => (HH.out.2.2.2.2.1 s (List.mem_of_mem_drop hs')).2) (Nat.mul_le_mul (by rw [List.length_drop]; have := HH.out; omega) (Nat.le_refl _))
      have htext := rtext_ok wr r most s (bytesOf (textB (ss.drop (j + 1))) ++ q) hrd' (by rw [ByteArray.size_append]; have := HH.out; omega) (HH.out.2.2.2.2.1 s hsm).1 (HH.out.2.2.2.2.1 s hsm).2
      have HS := Lib.hid (And.intro hs htext)
      clear hs hsm hdrop hrd' htl htext
      go_wp2_with fail
      refine HS.out.2.mono ?_
      rintro e w2 ⟨rfl, h2, hT2⟩
      have hown2 := ownsRow_other HJ.out.2.1 (fun b hb => hT2.block b (HJ.out.2.1.lt b hb).2 (by
        intro hbr; simp at hbr; subst hbr
        have h3 := HJ.out.2.2.1 b hb
        have h4 := HH.out.2.2.2.2.2
        omega))
      obtain ⟨g5, cp5, w5, hrun, hown5, hgr, hlies, hlt5⟩ := push_string (w := w2) (ty := 44) hown2 s (by have := HH.out; omega)
      have hTw2 := HJ.out.2.2.2.2.trans' hT2
      have H5 := Lib.hid (And.intro hown5 (And.intro hgr (And.intro hlies (And.intro hlt5 (And.intro h2 hTw2)))))
      have HR := Lib.hid hrun
      clear hown2 hrun hown5 hgr hlies hlt5 h2 hT2 hTw2
      go_wp2_with (at_builtin; refine wpList_append_run rfl _ _ _ _ rfl rfl rfl HR.out ?_)
      go_roundg (ss.length - (j + 1))
      case measure => have := HJ.out.1; omega
      case rel =>
        obtain ⟨hown5, hgr, hlies, hlt5, h2, hTw2⟩ := H5.out
        obtain ⟨hj, hown, hfr, hrd, hT⟩ := HJ.out
        have hrow : ∀ b, (Value.slice a j cp).ownBlock = some b → b ≠ r := by
          intro b hb e
          have h3 := hfr b hb
          have h4 := HH.out.2.2.2.2.2
          omega
        refine ⟨j + 1, some ⟨g5, 0, none⟩, cp5, by omega, by go_num, rfl, ?_, ?_, ?_, ?_⟩
        · rw [List.take_succ_eq_append_getElem hlt, List.map_append, ← HS.out.1]
          exact hown5
        · intro b hb
          have hb : b = g5 := by injection hb with hb; exact hb.symm
          subst hb
          rcases hlies with h1 | h1
          · exact hfr _ h1
          · have := hTw2.size; omega
        · exact (hgr.block r (lt_of_heap h2) (fun e => hrow r e.symm rfl)).trans h2
        · exact hTw2.grown hgr fun b hb => .inr (hfr b hb)
    · have hjn : j = ss.length := by have := HJ.out.1; omega
      subst hjn
      go_wp2_with fail
      go_ret
      obtain ⟨hj, hown, hfr, hrd, hT⟩ := HJ.out
      rw [List.take_length] at hown
      refine ⟨_, _, rfl, hown, hfr, ?_, hT⟩
      have : bytesOf (textB (ss.drop ss.length)) ++ q = q := by
        rw [List.drop_length]
        apply bytes_ext
        simp [bytesOf, textB, ByteArray.data_append]
      rw [this] at hrd
      exact hrd
end Go.Proofs.YtljgifbnmgpdbaaGreatDoor
