/- The law of layer 20: DeqNone. -/
import Derived.Test.YtljgifbnmgpdbaaGreatDoorZd14
set_option linter.unusedSimpArgs false
set_option linter.unusedVariables false
set_option linter.unnecessarySimpa false
namespace Go.Proofs.YtljgifbnmgpdbaaGreatDoor
open Go Go.RowKit

theorem keys_old {w w' : World} {kv : Value} {ks : List ByteArray} {F : List Nat} (h : KeysAt w kv ks) (hT : Touch F w w') (hF : ∀ b ∈ F, w.heap.size ≤ b) : KeysAt w' kv ks := by
  obtain ⟨a, cp, rfl, h⟩ := h
  refine ⟨a, cp, rfl, fun i s hi => ?_⟩
  obtain ⟨b, off, e, hc⟩ := h i s hi
  refine ⟨b, off, e, hT.cell hc (fun hm => ?_)⟩
  have h1 : b < w.heap.size := World.block_lt_of_cell? w _ hc
  have h2 := hF b hm
  omega


set_option maxRecDepth 100000 in
set_option maxHeartbeats 8000000 in
theorem deqNone_ok (w : World) (hg : Glob w) (f0 f1 f2 : Bool) (v : Value) (ids : List Int) (hv : IntsAt w v ids) (hil : ids.length ≤ 9223372036854775807) (m : MsgM) (kv : Value) (hk : KeysAt w kv m.keys) (hl : m.keys.length ≤ 9223372036854775807)
    (hsz : m.body.size ≤ 9223372036854775807 ∧ m.topic.size ≤ 9223372036854775807 ∧ m.tag.size ≤ 9223372036854775807) :
    Calls Tryz.prog 6 #[.agg #[.bool f0, .bool f1, .bool f2], v, msgV m kv] w fun e w' => e = .returned (.bool true) ∧ Touch [] w w' := by
  obtain ⟨a0, cp0, rfl, hst⟩ := hk
  have hvf : ∃ a c, v = .slice a ids.length c := by
    rcases hv with ⟨a, c, rfl, rfl⟩ | ⟨b, o, c, rfl, -⟩ <;> exact ⟨_, _, rfl⟩
  obtain ⟨a1, cc1, rfl⟩ := hvf
  obtain ⟨n, hn⟩ : ∃ n, n = ids.length := ⟨_, rfl⟩
  obtain ⟨w0, hw0⟩ : ∃ w0, w0 = (w.alloc (.cells #[.bool f0, .bool f1, .bool f2] 22 (0, 0))).alloc (msgObj m (.slice a0 m.keys.length cp0)) := ⟨_, rfl⟩
  have hT0 : Touch [] w w0 := by rw [hw0]; exact ((Touch.refl _ _).alloc _).alloc _
  have hA0 : w0.heap[w.heap.size]? = some (.cells #[.bool f0, .bool f1, .bool f2] 22 (0, 0)) := by rw [hw0]; exact heap_alloc_lt (heap_alloc_at _ _) _
  have hM0 : w0.heap[w.heap.size + 1]? = some (msgObj m (.slice a0 m.keys.length cp0)) := by rw [hw0]; exact heap_at _ _ _ (by simp)
  have HI := Lib.hid (And.intro hv (And.intro hst (And.intro hl (And.intro hsz hn))))
  have H0 := Lib.hid (And.intro hT0 (And.intro hA0 (And.intro hM0 hg)))
  unfold msgObj at hw0
  have HW0 := Lib.hid hw0
  have BN : (n : Int) ≤ 9223372036854775807 := by omega
  rw [← hn]
  clear hg hil hw0 hT0 hA0 hM0 hv hst hl hsz hn
  unfold msgV
  go_enter Tryz.func6, Tryz.ntmps6
  go_upto_region 1 with fail
  rw [← HW0.out]
  go_wp2_with fail
  refine (awake20_ok w0 (H0.out.2.2.2.touch H0.out.1 (by simp))).mono ?_
  rintro e w1 ⟨rfl, hT1⟩
  have hM1 := hT1.heap H0.out.2.2.1 (by simp)
  have H1 := Lib.hid (And.intro (H0.out.1.trans' hT1) (And.intro (hT1.heap H0.out.2.1 (by simp)) hM1))
  unfold msgObj at hM1
  have c0 := cell_of hM1 0 _ rfl
  have c1 := cell_of hM1 1 _ rfl
  have c2 := cell_of hM1 2 _ rfl
  have c3 := cell_of hM1 3 _ rfl
  have c4 := cell_of hM1 4 _ rfl
  have c5 := cell_of hM1 5 _ rfl
  have c6 := cell_of hM1 6 _ rfl
  have c7 := cell_of hM1 7 _ rfl
  have c8 := cell_of hM1 8 _ rfl
  have c9 := cell_of hM1 9 _ rfl
  clear hM1 hT1
  by_cases g1 : (60 : Int) < n
  · have d1 : decide ((60 : Int) < n) = true := by simpa using g1
    go_wp2_with fail
    go_ret
    exact ⟨rfl, H1.out.1⟩
  · have d1 : decide ((60 : Int) < n) = false := by simpa using g1
    go_wp2_with fail
    have hT1a : Touch [] w1 (w1.alloc (msgObj m (.slice a0 m.keys.length cp0))) := (Touch.refl _ _).alloc _
    have hgr := great_ok (w1.alloc (msgObj m (.slice a0 m.keys.length cp0))) m a0 cp0 (HI.out.2.1.touch (H1.out.1.trans' hT1a) (by simp)) HI.out.2.2.1 w1.heap.size (heap_alloc_at _ _) HI.out.2.2.2.1
    unfold msgObj at hgr hT1a
    refine hgr.mono ?_
    rintro e w2 ⟨g, rfl, hgf, hT2⟩
    have hT2 := hT1a.trans' hT2
    cases g with
    | true =>
      have HT2 := Lib.hid (H1.out.1.trans' hT2)
      clear hgf hT2 hgr hT1a
      go_wp2_with fail
      go_ret
      exact ⟨rfl, HT2.out⟩
    | false =>
      obtain ⟨hk10, -⟩ := hgf rfl
      have H2 := Lib.hid (And.intro (H1.out.1.trans' hT2) (And.intro (hT2.heap H1.out.2.1 (by simp)) (And.intro (hT2.heap H1.out.2.2 (by simp)) hk10)))
      clear hgf hT2 hgr hT1a hk10 c0 c1 c2 c3 c4 c5 c6 c7 c8 c9
      go_wp2_with fail
      refine (made20_ok w2 (H0.out.2.2.2.touch H2.out.1 (by simp)) 10000 (by omega) 0 (by omega) (by omega)).mono ?_
      rintro e w3 ⟨q, X, rfl, hd, hcap, -, -, hT3, hge⟩
      have h4 := RigIn.made hd hcap hT3 hge
      obtain ⟨B, hB⟩ : ∃ B, B = w3.heap.size := ⟨_, rfl⟩
      obtain ⟨w4, hw4⟩ : ∃ w4, w4 = w3.alloc (rigObj X.t X.s X.l q) := ⟨_, rfl⟩
      rw [← hw4, ← hB] at h4
      have HW4 := Lib.hid (show w4 = w3.alloc (.cells #[.pointer (some ⟨X.t, 0, none⟩), .pointer (some ⟨X.s, 0, none⟩), .pointer (some ⟨X.l, 0, none⟩), .pointer (some ⟨q, 0, none⟩)] 68) from hw4)
      have HB := Lib.hid hB
      have H4 := Lib.hid h4
      clear hd hcap hT3 hge hw4 hB h4
      unfold rigV
      go_upto_region 8 with fail
      rw [← HW4.out]
      rw [← HB.out]
      have hR4 := H4.out.rig
      unfold rigObj at hR4
      have r3 := cell_of hR4 3 _ rfl
      clear hR4
      go_wp2_with fail
      have hv4 : IntsAt w4 (.slice a1 n cc1) ids := by
        have h := (HI.out.1.touch H2.out.1 (by simp)).touch H4.out.touch (by simp)
        rw [← HI.out.2.2.2.2] at h
        exact h
      refine (deqadd_ok w4 q X _ _ _ [] H4.out.at_ _ ids hv4 (by have := HI.out.2.2.2.2; simp; omega)).mono ?_
      rintro e w5 ⟨rfl, hto⟩
      obtain ⟨X5, h5⟩ := H4.out.to hto
      rw [List.nil_append] at h5
      have hR5 := h5.rig
      unfold rigObj at hR5
      have H5 := Lib.hid h5
      clear r3 h5 hto hv4
      have r3 := cell_of hR5 3 _ rfl
      clear hR5
      go_wp2_with fail
      refine (deqdue_ok w5 q X5 _ _ _ ids H5.out.at_ (by have := HI.out.2.2.2.2; omega)).mono ?_
      rintro e w6 ⟨dv, rfl, hown, hT6⟩
      have hdv : IntsAt w6 dv ids := by
        rcases hown.2 with ⟨rfl, h0⟩ | ⟨g, cp, cur, hv, hbg, hg, -⟩
        · exact .inl ⟨_, _, rfl, List.eq_nil_of_length_eq_zero h0⟩
        · refine .inr ⟨g, 0, cp, hv, fun j x hj => ?_⟩
          have := hown.cells (g := g) (by rw [hv]; rfl) j (.int .i64 x) (by simp [hj])
          rw [addr_add] at this; exact this
      have hvs : ∃ a3 n3 c3, dv = .slice a3 n3 c3 := by
        rcases hdv with ⟨a, c, rfl, -⟩ | ⟨b, o, c, rfl, -⟩ <;> exact ⟨_, _, _, rfl⟩
      obtain ⟨a3, n3, c3, rfl⟩ := hvs
      have H6 := Lib.hid (And.intro hdv (H5.out.quiet hT6))
      clear hown hdv hT6 r3
      go_wp2_with fail
      have hv6 : IntsAt w6 (.slice a1 n cc1) ids := by
        have h := (HI.out.1.touch H2.out.1 (by simp)).touch H6.out.2.touch (by simp)
        rw [← HI.out.2.2.2.2] at h
        exact h
      refine (refints_ok w6 _ _ ids H6.out.1 hv6 (by have := HI.out.2.2.2.2; omega)).mono ?_
      rintro e w7 ⟨rfl, hT7⟩
      have H7 := Lib.hid (H6.out.2.quiet hT7)
      clear hv6 hT7
      go_wp2_with fail
      go_loopg [47] n (fun k va wr => ∃ (j : Nat) (X' : DeqX), j + k = n ∧ va = .int .i64 j ∧ RigIn w2 wr q B X.t X.s X.l 10000 X' ⟨[], 0, 0⟩ [] ⟨0, List.replicate 16 0, []⟩ (ids.drop j))
      case atStart => exact ⟨0, X5, by omega, by go_num, H7.out⟩
      case round =>
        obtain ⟨j, X8, hj, rfl, h8⟩ := hrel
        have hR8 := h8.rig
        unfold rigObj at hR8
        have r3 := cell_of hR8 3 _ rfl
        have HJ := Lib.hid (And.intro hj h8)
        by_cases hjn : j < n
        · have hjk : j < ids.length := by rw [← HI.out.2.2.2.2]; exact hjn
          have hd := h8.at_
          rw [List.drop_eq_getElem_cons hjk] at hd
          have hstep := deqstep_over wr q X8 _ _ _ ids[j] (ids.drop (j + 1)) hd 0 (by have := HI.out.2.2.2.2; simp; omega) (by simp [pendGet])
          have HS := Lib.hid hstep
          have BJ : (j : Int) < n := by omega
          clear hR8 hd hstep hj h8
          go_wp2_with fail
          refine HS.out.mono ?_
          rintro e w9 ⟨rfl, hto⟩
          obtain ⟨X9, h9⟩ := HJ.out.2.to hto
          have H9 := Lib.hid h9
          clear hto h9 r3
          go_wp2_with fail
          go_roundg (n - (j + 1))
          case measure => have := HJ.out.1; omega
          case rel => exact ⟨j + 1, X9, by have := HJ.out.1; omega, by go_num, H9.out⟩
        · have hjn' : (j : Int) = n := by omega
          have hdj : decide ((j : Int) < n) = false := by simp; omega
          have hnil : ids.drop j = [] := by rw [List.drop_eq_nil_iff]; have := HI.out.2.2.2.2; omega
          rw [hnil] at h8
          have hR8b := hR8
          have r0 := cell_of hR8b 0 _ rfl
          have hbusy := deqbusy_ok wr q X8 _ _ _ [] h8.at_ 0
          have e0 : (decide (0 < ([] : List Int).length) || decide ((0 : Int) < 0)) = false := by decide
          have hbusy2 : Calls Tryz.prog 42 #[.pointer (some ⟨q, 0, none⟩), .int .i64 0] wr fun e w' => e = .returned (.bool false) ∧ wr = w' := by
            rw [← e0]; exact hbusy
          have hids := tids_ok wr _ _ _ _ h8.at_.tape (by simp) 0
          rw [h8.ids.1] at hids
          have HBU := Lib.hid hbusy2
          have HID := Lib.hid hids
          have H8 := Lib.hid h8
          clear hR8 hR8b hbusy hbusy2 hids h8 hj hnil e0
          go_wp2_with fail
          refine HBU.out.mono ?_
          rintro e w' ⟨rfl, rfl⟩
          go_wp2_with fail
          refine HID.out.mono ?_
          rintro e w9 ⟨iv, rfl, hown, hT9⟩
          have hiv : ∃ a3 c3, iv = .slice a3 0 c3 := by
            rcases hown.2 with ⟨e, -⟩ | ⟨g, cp, cur, e, -⟩
            · exact ⟨_, _, e⟩
            · exact ⟨_, _, e⟩
          obtain ⟨a3, c3, rfl⟩ := hiv
          have h9 := H8.out.quiet hT9
          have hA9 := (hT9.heap (H8.out.touch.heap H2.out.2.1 (by simp)) (by simp))
          have hM9 := (hT9.heap (H8.out.touch.heap H2.out.2.2.1 (by simp)) (by simp))
          have hks9 : KeysAt w9 (.slice a0 m.keys.length cp0) m.keys := KeysAt.quiet ⟨a0, cp0, rfl, (HI.out.2.1.touch H2.out.1 (by simp)).touch H8.out.touch (by simp)⟩ hT9
          have H9 := Lib.hid (And.intro h9 (And.intro hA9 (And.intro hM9 hks9)))
          clear hown hT9 r0 r3 h9 hM9 hks9
          have a0' := cell_of hA9 0 _ rfl
          have a1' := cell_of hA9 1 _ rfl
          have a2' := cell_of hA9 2 _ rfl
          clear hA9
          have hR9 := H9.out.1.rig
          unfold rigObj at hR9
          have r0 := cell_of hR9 0 _ rfl
          have r1 := cell_of hR9 1 _ rfl
          have r2 := cell_of hR9 2 _ rfl
          have y0 := free_of hR9 0
          have y1 := free_of hR9 1
          have y2 := free_of hR9 2
          have hAB : w.heap.size ∉ [B] ∧ w.heap.size + 1 ∉ [B] := by
            have h1 := lt_of_heap H2.out.2.1
            have h2 := lt_of_heap H2.out.2.2.1
            have h3 := H9.out.1.bge
            simp; omega
          have HAB := Lib.hid hAB
          clear hR9 hAB
          go_upto_region 19 with fail
          cases f0 <;> cases f1 <;> cases f2
          ·
            skip
            go_wp2_with fail
            refine (deqnew_t _ none _ _).mono ?_
            rintro e w10 ⟨rfl, hw10⟩
            have hT10 : Touch [B] w9 w10 := by
              subst hw10
              repeat (first | with_reducible refine Touch.alloc ?_ _ | with_reducible refine Touch.setCell ?_ _ _ _ _ (Or.inl (List.mem_singleton.2 rfl)))
              exact Touch.refl _ _
            have hA10 := hT10.heap H9.out.2.1 HAB.out.1
            have hM10 := hT10.heap H9.out.2.2.1 HAB.out.2
            have hk10 : KeysAt w10 (.slice a0 m.keys.length cp0) m.keys := keys_old ⟨a0, cp0, rfl, HI.out.2.1⟩ ((H2.out.1.nil.trans' H9.out.1.touch.nil).trans' hT10) (fun b hb => by have h1 := H9.out.1.bge; have h2 := H2.out.1.size; simp at hb; omega)
            have HT10 := Lib.hid ((H2.out.1.trans' H9.out.1.touch).trans hT10 (fun b hb => by have h1 := H9.out.1.bge; have h2 := H2.out.1.size; simp at hb; omega))
            have H10 := Lib.hid (And.intro hA10 (And.intro hM10 hk10))
            clear hT10 hM10 hk10 hw10 r0 r1 r2 y0 y1 y2 a0' a1' a2'
            have a0' := cell_of hA10 0 _ rfl
            have a1' := cell_of hA10 1 _ rfl
            have a2' := cell_of hA10 2 _ rfl
            clear hA10
            go_wp2_with fail
            refine (deqadd_none _ _).mono ?_
            rintro e w11 ⟨rfl, hw11⟩
            have hT11 : Touch [] w10 w11 := by rw [← hw11]; exact (Touch.refl _ _).alloc _
            have hM11 := hT11.heap H10.out.2.1 (by simp)
            have hk11 := H10.out.2.2.quiet hT11
            have HT11 := Lib.hid (HT10.out.trans' hT11)
            have H11 := Lib.hid (And.intro hM11 hk11)
            clear hT11 hM11 hk11 hw11 a0' a1' a2'
            go_wp2_with fail
            refine (deqstep_none w11 5).mono ?_
            rintro e w' ⟨rfl, rfl⟩
            have hM11 := H11.out.1
            unfold msgObj at hM11
            have c0 := cell_of hM11 0 _ rfl
            have c1 := cell_of hM11 1 _ rfl
            have c2 := cell_of hM11 2 _ rfl
            have c3 := cell_of hM11 3 _ rfl
            have c4 := cell_of hM11 4 _ rfl
            have c5 := cell_of hM11 5 _ rfl
            have c6 := cell_of hM11 6 _ rfl
            have c7 := cell_of hM11 7 _ rfl
            have c8 := cell_of hM11 8 _ rfl
            have c9 := cell_of hM11 9 _ rfl
            clear hM11
            go_wp2_with fail
            have hde := delivered_ok w11 7 m 9 _ H11.out.2 (by have := H2.out.2.2.2; omega)
            refine hde.mono ?_
            rintro e w12 ⟨kv2, rfl, hk12, hfr, hT12⟩
            obtain ⟨a4, cp4, rfl, hst4⟩ := hk12
            have hM12 := hT12.heap H11.out.1 (by simp)
            have hk12 := H11.out.2.quiet hT12
            have HT12 := Lib.hid (HT11.out.trans' hT12)
            have H12 := Lib.hid (And.intro (show KeysAt w12 (.slice a4 m.keys.length cp4) m.keys from ⟨a4, cp4, rfl, hst4⟩) hk12)
            clear c0 c1 c2 c3 c4 c5 c6 c7 c8 c9 hde hfr hT12 hk12 hst4
            unfold msgObj at hM12
            have HM12 := Lib.hid hM12
            have c0 := cell_of hM12 0 _ rfl
            have c1 := cell_of hM12 1 _ rfl
            have c2 := cell_of hM12 2 _ rfl
            have c3 := cell_of hM12 3 _ rfl
            have c4 := cell_of hM12 4 _ rfl
            have c5 := cell_of hM12 5 _ rfl
            have c6 := cell_of hM12 6 _ rfl
            have c7 := cell_of hM12 7 _ rfl
            have c8 := cell_of hM12 8 _ rfl
            have c9 := cell_of hM12 9 _ rfl
            clear hM12
            unfold msgV
            simp only [deliveredM]
            go_upto_region 31 with fail
            obtain ⟨w13, hw13⟩ : ∃ w13, w13 = w12.alloc (.cells #[.int .i64 3, .int .i64 m.queue, .int .i64 m.due, .int .i64 m.retry, .int .i64 7, .int .i64 9, .string m.topic, .string m.tag, .string m.body, .slice a4 m.keys.length cp4] 46) := ⟨_, rfl⟩
            have hT13 : Touch [] w12 w13 := by rw [hw13]; exact (Touch.refl _ _).alloc _
            have hD13 : w13.heap[w12.heap.size]? = some (msgObj (deliveredM 7 m 9) (.slice a4 m.keys.length cp4)) := by rw [hw13]; exact heap_alloc_at _ _
            have hM13 := hT13.heap HM12.out (by simp)
            rw [← hw13]
            obtain ⟨D, hD⟩ : ∃ D, D = w12.heap.size := ⟨_, rfl⟩
            rw [← hD] at hD13 ⊢
            have H13 := Lib.hid (And.intro hT13 hD13)
            clear c0 c1 c2 c3 c4 c5 c6 c7 c8 c9 hw13 hT13 hD13 hD
            have c0 := cell_of hM13 0 _ rfl
            have c1 := cell_of hM13 1 _ rfl
            have c2 := cell_of hM13 2 _ rfl
            have c3 := cell_of hM13 3 _ rfl
            have c4 := cell_of hM13 4 _ rfl
            have c5 := cell_of hM13 5 _ rfl
            have c6 := cell_of hM13 6 _ rfl
            have c7 := cell_of hM13 7 _ rfl
            have c8 := cell_of hM13 8 _ rfl
            have c9 := cell_of hM13 9 _ rfl
            clear hM13
            go_upto_region 32 with fail
            go_upto_region 33 with fail
            obtain ⟨w14, hw14⟩ : ∃ w14, w14 = w13.alloc (.cells #[.int .i64 3, .int .i64 m.queue, .int .i64 m.due, .int .i64 m.retry, .int .i64 7, .int .i64 9, .string m.topic, .string m.tag, .string m.body, .slice a0 m.keys.length cp0] 46) := ⟨_, rfl⟩
            have hT14 : Touch [] w13 w14 := by rw [hw14]; exact (Touch.refl _ _).alloc _
            have hE14 : w14.heap[w13.heap.size]? = some (msgObj (deliveredM 7 m 9) (.slice a0 m.keys.length cp0)) := by rw [hw14]; exact heap_alloc_at _ _
            have hD14 := hT14.heap H13.out.2 (by simp)
            rw [← hw14]
            obtain ⟨E, hE⟩ : ∃ E, E = w13.heap.size := ⟨_, rfl⟩
            rw [← hE] at hE14 ⊢
            have hsame := ref06same_ok w14 (deliveredM 7 m 9) _ _ ((H12.out.1.quiet H13.out.1).quiet hT14) ((H12.out.2.quiet H13.out.1).quiet hT14) (by have := H2.out.2.2.2; show m.keys.length ≤ _; omega)
            unfold msgV at hsame
            simp only [deliveredM] at hsame
            have HT14 := Lib.hid (HT12.out.trans' (H13.out.1.trans' hT14))
            have HSA := Lib.hid hsame
            unfold msgObj at hE14 hD14
            simp only [deliveredM] at hE14 hD14
            clear c0 c1 c2 c3 c4 c5 c6 c7 c8 c9 hw14 hT14 hE hsame
            have x0 := cell_of hD14 0 _ rfl
            have x1 := cell_of hD14 1 _ rfl
            have x2 := cell_of hD14 2 _ rfl
            have x3 := cell_of hD14 3 _ rfl
            have x4 := cell_of hD14 4 _ rfl
            have x5 := cell_of hD14 5 _ rfl
            have x6 := cell_of hD14 6 _ rfl
            have x7 := cell_of hD14 7 _ rfl
            have x8 := cell_of hD14 8 _ rfl
            have x9 := cell_of hD14 9 _ rfl
            have y0 := cell_of hE14 0 _ rfl
            have y1 := cell_of hE14 1 _ rfl
            have y2 := cell_of hE14 2 _ rfl
            have y3 := cell_of hE14 3 _ rfl
            have y4 := cell_of hE14 4 _ rfl
            have y5 := cell_of hE14 5 _ rfl
            have y6 := cell_of hE14 6 _ rfl
            have y7 := cell_of hE14 7 _ rfl
            have y8 := cell_of hE14 8 _ rfl
            have y9 := cell_of hE14 9 _ rfl
            clear hE14 hD14
            go_wp2_with fail
            refine (deqdue_none _).mono ?_
            rintro e w' ⟨rfl, rfl⟩
            go_wp2_with fail
            refine (deqbusy_none _ _).mono ?_
            rintro e w' ⟨rfl, rfl⟩
            go_wp2_with fail
            refine HSA.out.mono ?_
            rintro e w15 ⟨rfl, hT15⟩
            have HT15 := Lib.hid (HT14.out.trans' hT15)
            clear hT15
            clear x0 x1 x2 x3 x4 x5 x6 x7 x8 x9 y0 y1 y2 y3 y4 y5 y6 y7 y8 y9
            go_wp2_with fail
            go_ret
            exact ⟨rfl, HT15.out⟩
          ·
            skip
            go_wp2_with fail
            refine (deqnew_t _ none _ _).mono ?_
            rintro e w10 ⟨rfl, hw10⟩
            have hT10 : Touch [B] w9 w10 := by
              subst hw10
              repeat (first | with_reducible refine Touch.alloc ?_ _ | with_reducible refine Touch.setCell ?_ _ _ _ _ (Or.inl (List.mem_singleton.2 rfl)))
              exact Touch.refl _ _
            have hA10 := hT10.heap H9.out.2.1 HAB.out.1
            have hM10 := hT10.heap H9.out.2.2.1 HAB.out.2
            have hk10 : KeysAt w10 (.slice a0 m.keys.length cp0) m.keys := keys_old ⟨a0, cp0, rfl, HI.out.2.1⟩ ((H2.out.1.nil.trans' H9.out.1.touch.nil).trans' hT10) (fun b hb => by have h1 := H9.out.1.bge; have h2 := H2.out.1.size; simp at hb; omega)
            have HT10 := Lib.hid ((H2.out.1.trans' H9.out.1.touch).trans hT10 (fun b hb => by have h1 := H9.out.1.bge; have h2 := H2.out.1.size; simp at hb; omega))
            have H10 := Lib.hid (And.intro hA10 (And.intro hM10 hk10))
            clear hT10 hM10 hk10 hw10 r0 r1 r2 y0 y1 y2 a0' a1' a2'
            have a0' := cell_of hA10 0 _ rfl
            have a1' := cell_of hA10 1 _ rfl
            have a2' := cell_of hA10 2 _ rfl
            clear hA10
            go_wp2_with fail
            refine (deqadd_none _ _).mono ?_
            rintro e w11 ⟨rfl, hw11⟩
            have hT11 : Touch [] w10 w11 := by rw [← hw11]; exact (Touch.refl _ _).alloc _
            have hM11 := hT11.heap H10.out.2.1 (by simp)
            have hk11 := H10.out.2.2.quiet hT11
            have HT11 := Lib.hid (HT10.out.trans' hT11)
            have H11 := Lib.hid (And.intro hM11 hk11)
            clear hT11 hM11 hk11 hw11 a0' a1' a2'
            go_wp2_with fail
            refine (deqstep_none w11 5).mono ?_
            rintro e w' ⟨rfl, rfl⟩
            have hM11 := H11.out.1
            unfold msgObj at hM11
            have c0 := cell_of hM11 0 _ rfl
            have c1 := cell_of hM11 1 _ rfl
            have c2 := cell_of hM11 2 _ rfl
            have c3 := cell_of hM11 3 _ rfl
            have c4 := cell_of hM11 4 _ rfl
            have c5 := cell_of hM11 5 _ rfl
            have c6 := cell_of hM11 6 _ rfl
            have c7 := cell_of hM11 7 _ rfl
            have c8 := cell_of hM11 8 _ rfl
            have c9 := cell_of hM11 9 _ rfl
            clear hM11
            go_wp2_with fail
            have hde := delivered_ok w11 7 m 9 _ H11.out.2 (by have := H2.out.2.2.2; omega)
            refine hde.mono ?_
            rintro e w12 ⟨kv2, rfl, hk12, hfr, hT12⟩
            obtain ⟨a4, cp4, rfl, hst4⟩ := hk12
            have hM12 := hT12.heap H11.out.1 (by simp)
            have hk12 := H11.out.2.quiet hT12
            have HT12 := Lib.hid (HT11.out.trans' hT12)
            have H12 := Lib.hid (And.intro (show KeysAt w12 (.slice a4 m.keys.length cp4) m.keys from ⟨a4, cp4, rfl, hst4⟩) hk12)
            clear c0 c1 c2 c3 c4 c5 c6 c7 c8 c9 hde hfr hT12 hk12 hst4
            unfold msgObj at hM12
            have HM12 := Lib.hid hM12
            have c0 := cell_of hM12 0 _ rfl
            have c1 := cell_of hM12 1 _ rfl
            have c2 := cell_of hM12 2 _ rfl
            have c3 := cell_of hM12 3 _ rfl
            have c4 := cell_of hM12 4 _ rfl
            have c5 := cell_of hM12 5 _ rfl
            have c6 := cell_of hM12 6 _ rfl
            have c7 := cell_of hM12 7 _ rfl
            have c8 := cell_of hM12 8 _ rfl
            have c9 := cell_of hM12 9 _ rfl
            clear hM12
            unfold msgV
            simp only [deliveredM]
            go_upto_region 31 with fail
            obtain ⟨w13, hw13⟩ : ∃ w13, w13 = w12.alloc (.cells #[.int .i64 3, .int .i64 m.queue, .int .i64 m.due, .int .i64 m.retry, .int .i64 7, .int .i64 9, .string m.topic, .string m.tag, .string m.body, .slice a4 m.keys.length cp4] 46) := ⟨_, rfl⟩
            have hT13 : Touch [] w12 w13 := by rw [hw13]; exact (Touch.refl _ _).alloc _
            have hD13 : w13.heap[w12.heap.size]? = some (msgObj (deliveredM 7 m 9) (.slice a4 m.keys.length cp4)) := by rw [hw13]; exact heap_alloc_at _ _
            have hM13 := hT13.heap HM12.out (by simp)
            rw [← hw13]
            obtain ⟨D, hD⟩ : ∃ D, D = w12.heap.size := ⟨_, rfl⟩
            rw [← hD] at hD13 ⊢
            have H13 := Lib.hid (And.intro hT13 hD13)
            clear c0 c1 c2 c3 c4 c5 c6 c7 c8 c9 hw13 hT13 hD13 hD
            have c0 := cell_of hM13 0 _ rfl
            have c1 := cell_of hM13 1 _ rfl
            have c2 := cell_of hM13 2 _ rfl
            have c3 := cell_of hM13 3 _ rfl
            have c4 := cell_of hM13 4 _ rfl
            have c5 := cell_of hM13 5 _ rfl
            have c6 := cell_of hM13 6 _ rfl
            have c7 := cell_of hM13 7 _ rfl
            have c8 := cell_of hM13 8 _ rfl
            have c9 := cell_of hM13 9 _ rfl
            clear hM13
            go_upto_region 32 with fail
            go_upto_region 33 with fail
            obtain ⟨w14, hw14⟩ : ∃ w14, w14 = w13.alloc (.cells #[.int .i64 3, .int .i64 m.queue, .int .i64 m.due, .int .i64 m.retry, .int .i64 7, .int .i64 9, .string m.topic, .string m.tag, .string m.body, .slice a0 m.keys.length cp0] 46) := ⟨_, rfl⟩
            have hT14 : Touch [] w13 w14 := by rw [hw14]; exact (Touch.refl _ _).alloc _
            have hE14 : w14.heap[w13.heap.size]? = some (msgObj (deliveredM 7 m 9) (.slice a0 m.keys.length cp0)) := by rw [hw14]; exact heap_alloc_at _ _
            have hD14 := hT14.heap H13.out.2 (by simp)
            rw [← hw14]
            obtain ⟨E, hE⟩ : ∃ E, E = w13.heap.size := ⟨_, rfl⟩
            rw [← hE] at hE14 ⊢
            have hsame := ref06same_ok w14 (deliveredM 7 m 9) _ _ ((H12.out.1.quiet H13.out.1).quiet hT14) ((H12.out.2.quiet H13.out.1).quiet hT14) (by have := H2.out.2.2.2; show m.keys.length ≤ _; omega)
            unfold msgV at hsame
            simp only [deliveredM] at hsame
            have HT14 := Lib.hid (HT12.out.trans' (H13.out.1.trans' hT14))
            have HSA := Lib.hid hsame
            unfold msgObj at hE14 hD14
            simp only [deliveredM] at hE14 hD14
            clear c0 c1 c2 c3 c4 c5 c6 c7 c8 c9 hw14 hT14 hE hsame
            have x0 := cell_of hD14 0 _ rfl
            have x1 := cell_of hD14 1 _ rfl
            have x2 := cell_of hD14 2 _ rfl
            have x3 := cell_of hD14 3 _ rfl
            have x4 := cell_of hD14 4 _ rfl
            have x5 := cell_of hD14 5 _ rfl
            have x6 := cell_of hD14 6 _ rfl
            have x7 := cell_of hD14 7 _ rfl
            have x8 := cell_of hD14 8 _ rfl
            have x9 := cell_of hD14 9 _ rfl
            have y0 := cell_of hE14 0 _ rfl
            have y1 := cell_of hE14 1 _ rfl
            have y2 := cell_of hE14 2 _ rfl
            have y3 := cell_of hE14 3 _ rfl
            have y4 := cell_of hE14 4 _ rfl
            have y5 := cell_of hE14 5 _ rfl
            have y6 := cell_of hE14 6 _ rfl
            have y7 := cell_of hE14 7 _ rfl
            have y8 := cell_of hE14 8 _ rfl
            have y9 := cell_of hE14 9 _ rfl
            clear hE14 hD14
            go_wp2_with fail
            refine (deqdue_none _).mono ?_
            rintro e w' ⟨rfl, rfl⟩
            go_wp2_with fail
            refine (deqbusy_none _ _).mono ?_
            rintro e w' ⟨rfl, rfl⟩
            go_wp2_with fail
            refine HSA.out.mono ?_
            rintro e w15 ⟨rfl, hT15⟩
            have HT15 := Lib.hid (HT14.out.trans' hT15)
            clear hT15
            clear x0 x1 x2 x3 x4 x5 x6 x7 x8 x9 y0 y1 y2 y3 y4 y5 y6 y7 y8 y9
            go_wp2_with fail
            go_ret
            exact ⟨rfl, HT15.out⟩
          ·
            skip
            go_wp2_with fail
            refine (deqnew_t _ none _ _).mono ?_
            rintro e w10 ⟨rfl, hw10⟩
            have hT10 : Touch [B] w9 w10 := by
              subst hw10
              repeat (first | with_reducible refine Touch.alloc ?_ _ | with_reducible refine Touch.setCell ?_ _ _ _ _ (Or.inl (List.mem_singleton.2 rfl)))
              exact Touch.refl _ _
            have hA10 := hT10.heap H9.out.2.1 HAB.out.1
            have hM10 := hT10.heap H9.out.2.2.1 HAB.out.2
            have hk10 : KeysAt w10 (.slice a0 m.keys.length cp0) m.keys := keys_old ⟨a0, cp0, rfl, HI.out.2.1⟩ ((H2.out.1.nil.trans' H9.out.1.touch.nil).trans' hT10) (fun b hb => by have h1 := H9.out.1.bge; have h2 := H2.out.1.size; simp at hb; omega)
            have HT10 := Lib.hid ((H2.out.1.trans' H9.out.1.touch).trans hT10 (fun b hb => by have h1 := H9.out.1.bge; have h2 := H2.out.1.size; simp at hb; omega))
            have H10 := Lib.hid (And.intro hA10 (And.intro hM10 hk10))
            clear hT10 hM10 hk10 hw10 r0 r1 r2 y0 y1 y2 a0' a1' a2'
            have a0' := cell_of hA10 0 _ rfl
            have a1' := cell_of hA10 1 _ rfl
            have a2' := cell_of hA10 2 _ rfl
            clear hA10
            go_wp2_with fail
            refine (deqadd_none _ _).mono ?_
            rintro e w11 ⟨rfl, hw11⟩
            have hT11 : Touch [] w10 w11 := by rw [← hw11]; exact (Touch.refl _ _).alloc _
            have hM11 := hT11.heap H10.out.2.1 (by simp)
            have hk11 := H10.out.2.2.quiet hT11
            have HT11 := Lib.hid (HT10.out.trans' hT11)
            have H11 := Lib.hid (And.intro hM11 hk11)
            clear hT11 hM11 hk11 hw11 a0' a1' a2'
            go_wp2_with fail
            refine (deqstep_none w11 5).mono ?_
            rintro e w' ⟨rfl, rfl⟩
            have hM11 := H11.out.1
            unfold msgObj at hM11
            have c0 := cell_of hM11 0 _ rfl
            have c1 := cell_of hM11 1 _ rfl
            have c2 := cell_of hM11 2 _ rfl
            have c3 := cell_of hM11 3 _ rfl
            have c4 := cell_of hM11 4 _ rfl
            have c5 := cell_of hM11 5 _ rfl
            have c6 := cell_of hM11 6 _ rfl
            have c7 := cell_of hM11 7 _ rfl
            have c8 := cell_of hM11 8 _ rfl
            have c9 := cell_of hM11 9 _ rfl
            clear hM11
            go_wp2_with fail
            have hde := delivered_ok w11 7 m 9 _ H11.out.2 (by have := H2.out.2.2.2; omega)
            refine hde.mono ?_
            rintro e w12 ⟨kv2, rfl, hk12, hfr, hT12⟩
            obtain ⟨a4, cp4, rfl, hst4⟩ := hk12
            have hM12 := hT12.heap H11.out.1 (by simp)
            have hk12 := H11.out.2.quiet hT12
            have HT12 := Lib.hid (HT11.out.trans' hT12)
            have H12 := Lib.hid (And.intro (show KeysAt w12 (.slice a4 m.keys.length cp4) m.keys from ⟨a4, cp4, rfl, hst4⟩) hk12)
            clear c0 c1 c2 c3 c4 c5 c6 c7 c8 c9 hde hfr hT12 hk12 hst4
            unfold msgObj at hM12
            have HM12 := Lib.hid hM12
            have c0 := cell_of hM12 0 _ rfl
            have c1 := cell_of hM12 1 _ rfl
            have c2 := cell_of hM12 2 _ rfl
            have c3 := cell_of hM12 3 _ rfl
            have c4 := cell_of hM12 4 _ rfl
            have c5 := cell_of hM12 5 _ rfl
            have c6 := cell_of hM12 6 _ rfl
            have c7 := cell_of hM12 7 _ rfl
            have c8 := cell_of hM12 8 _ rfl
            have c9 := cell_of hM12 9 _ rfl
            clear hM12
            unfold msgV
            simp only [deliveredM]
            go_upto_region 31 with fail
            obtain ⟨w13, hw13⟩ : ∃ w13, w13 = w12.alloc (.cells #[.int .i64 3, .int .i64 m.queue, .int .i64 m.due, .int .i64 m.retry, .int .i64 7, .int .i64 9, .string m.topic, .string m.tag, .string m.body, .slice a4 m.keys.length cp4] 46) := ⟨_, rfl⟩
            have hT13 : Touch [] w12 w13 := by rw [hw13]; exact (Touch.refl _ _).alloc _
            have hD13 : w13.heap[w12.heap.size]? = some (msgObj (deliveredM 7 m 9) (.slice a4 m.keys.length cp4)) := by rw [hw13]; exact heap_alloc_at _ _
            have hM13 := hT13.heap HM12.out (by simp)
            rw [← hw13]
            obtain ⟨D, hD⟩ : ∃ D, D = w12.heap.size := ⟨_, rfl⟩
            rw [← hD] at hD13 ⊢
            have H13 := Lib.hid (And.intro hT13 hD13)
            clear c0 c1 c2 c3 c4 c5 c6 c7 c8 c9 hw13 hT13 hD13 hD
            have c0 := cell_of hM13 0 _ rfl
            have c1 := cell_of hM13 1 _ rfl
            have c2 := cell_of hM13 2 _ rfl
            have c3 := cell_of hM13 3 _ rfl
            have c4 := cell_of hM13 4 _ rfl
            have c5 := cell_of hM13 5 _ rfl
            have c6 := cell_of hM13 6 _ rfl
            have c7 := cell_of hM13 7 _ rfl
            have c8 := cell_of hM13 8 _ rfl
            have c9 := cell_of hM13 9 _ rfl
            clear hM13
            go_upto_region 32 with fail
            go_upto_region 33 with fail
            obtain ⟨w14, hw14⟩ : ∃ w14, w14 = w13.alloc (.cells #[.int .i64 3, .int .i64 m.queue, .int .i64 m.due, .int .i64 m.retry, .int .i64 7, .int .i64 9, .string m.topic, .string m.tag, .string m.body, .slice a0 m.keys.length cp0] 46) := ⟨_, rfl⟩
            have hT14 : Touch [] w13 w14 := by rw [hw14]; exact (Touch.refl _ _).alloc _
            have hE14 : w14.heap[w13.heap.size]? = some (msgObj (deliveredM 7 m 9) (.slice a0 m.keys.length cp0)) := by rw [hw14]; exact heap_alloc_at _ _
            have hD14 := hT14.heap H13.out.2 (by simp)
            rw [← hw14]
            obtain ⟨E, hE⟩ : ∃ E, E = w13.heap.size := ⟨_, rfl⟩
            rw [← hE] at hE14 ⊢
            have hsame := ref06same_ok w14 (deliveredM 7 m 9) _ _ ((H12.out.1.quiet H13.out.1).quiet hT14) ((H12.out.2.quiet H13.out.1).quiet hT14) (by have := H2.out.2.2.2; show m.keys.length ≤ _; omega)
            unfold msgV at hsame
            simp only [deliveredM] at hsame
            have HT14 := Lib.hid (HT12.out.trans' (H13.out.1.trans' hT14))
            have HSA := Lib.hid hsame
            unfold msgObj at hE14 hD14
            simp only [deliveredM] at hE14 hD14
            clear c0 c1 c2 c3 c4 c5 c6 c7 c8 c9 hw14 hT14 hE hsame
            have x0 := cell_of hD14 0 _ rfl
            have x1 := cell_of hD14 1 _ rfl
            have x2 := cell_of hD14 2 _ rfl
            have x3 := cell_of hD14 3 _ rfl
            have x4 := cell_of hD14 4 _ rfl
            have x5 := cell_of hD14 5 _ rfl
            have x6 := cell_of hD14 6 _ rfl
            have x7 := cell_of hD14 7 _ rfl
            have x8 := cell_of hD14 8 _ rfl
            have x9 := cell_of hD14 9 _ rfl
            have y0 := cell_of hE14 0 _ rfl
            have y1 := cell_of hE14 1 _ rfl
            have y2 := cell_of hE14 2 _ rfl
            have y3 := cell_of hE14 3 _ rfl
            have y4 := cell_of hE14 4 _ rfl
            have y5 := cell_of hE14 5 _ rfl
            have y6 := cell_of hE14 6 _ rfl
            have y7 := cell_of hE14 7 _ rfl
            have y8 := cell_of hE14 8 _ rfl
            have y9 := cell_of hE14 9 _ rfl
            clear hE14 hD14
            go_wp2_with fail
            refine (deqdue_none _).mono ?_
            rintro e w' ⟨rfl, rfl⟩
            go_wp2_with fail
            refine (deqbusy_none _ _).mono ?_
            rintro e w' ⟨rfl, rfl⟩
            go_wp2_with fail
            refine HSA.out.mono ?_
            rintro e w15 ⟨rfl, hT15⟩
            have HT15 := Lib.hid (HT14.out.trans' hT15)
            clear hT15
            clear x0 x1 x2 x3 x4 x5 x6 x7 x8 x9 y0 y1 y2 y3 y4 y5 y6 y7 y8 y9
            go_wp2_with fail
            go_ret
            exact ⟨rfl, HT15.out⟩
          ·
            skip
            go_wp2_with fail
            refine (deqnew_t _ none _ _).mono ?_
            rintro e w10 ⟨rfl, hw10⟩
            have hT10 : Touch [B] w9 w10 := by
              subst hw10
              repeat (first | with_reducible refine Touch.alloc ?_ _ | with_reducible refine Touch.setCell ?_ _ _ _ _ (Or.inl (List.mem_singleton.2 rfl)))
              exact Touch.refl _ _
            have hA10 := hT10.heap H9.out.2.1 HAB.out.1
            have hM10 := hT10.heap H9.out.2.2.1 HAB.out.2
            have hk10 : KeysAt w10 (.slice a0 m.keys.length cp0) m.keys := keys_old ⟨a0, cp0, rfl, HI.out.2.1⟩ ((H2.out.1.nil.trans' H9.out.1.touch.nil).trans' hT10) (fun b hb => by have h1 := H9.out.1.bge; have h2 := H2.out.1.size; simp at hb; omega)
            have HT10 := Lib.hid ((H2.out.1.trans' H9.out.1.touch).trans hT10 (fun b hb => by have h1 := H9.out.1.bge; have h2 := H2.out.1.size; simp at hb; omega))
            have H10 := Lib.hid (And.intro hA10 (And.intro hM10 hk10))
            clear hT10 hM10 hk10 hw10 r0 r1 r2 y0 y1 y2 a0' a1' a2'
            have a0' := cell_of hA10 0 _ rfl
            have a1' := cell_of hA10 1 _ rfl
            have a2' := cell_of hA10 2 _ rfl
            clear hA10
            go_wp2_with fail
            refine (deqadd_none _ _).mono ?_
            rintro e w11 ⟨rfl, hw11⟩
            have hT11 : Touch [] w10 w11 := by rw [← hw11]; exact (Touch.refl _ _).alloc _
            have hM11 := hT11.heap H10.out.2.1 (by simp)
            have hk11 := H10.out.2.2.quiet hT11
            have HT11 := Lib.hid (HT10.out.trans' hT11)
            have H11 := Lib.hid (And.intro hM11 hk11)
            clear hT11 hM11 hk11 hw11 a0' a1' a2'
            go_wp2_with fail
            refine (deqstep_none w11 5).mono ?_
            rintro e w' ⟨rfl, rfl⟩
            have hM11 := H11.out.1
            unfold msgObj at hM11
            have c0 := cell_of hM11 0 _ rfl
            have c1 := cell_of hM11 1 _ rfl
            have c2 := cell_of hM11 2 _ rfl
            have c3 := cell_of hM11 3 _ rfl
            have c4 := cell_of hM11 4 _ rfl
            have c5 := cell_of hM11 5 _ rfl
            have c6 := cell_of hM11 6 _ rfl
            have c7 := cell_of hM11 7 _ rfl
            have c8 := cell_of hM11 8 _ rfl
            have c9 := cell_of hM11 9 _ rfl
            clear hM11
            go_wp2_with fail
            have hde := delivered_ok w11 7 m 9 _ H11.out.2 (by have := H2.out.2.2.2; omega)
            refine hde.mono ?_
            rintro e w12 ⟨kv2, rfl, hk12, hfr, hT12⟩
            obtain ⟨a4, cp4, rfl, hst4⟩ := hk12
            have hM12 := hT12.heap H11.out.1 (by simp)
            have hk12 := H11.out.2.quiet hT12
            have HT12 := Lib.hid (HT11.out.trans' hT12)
            have H12 := Lib.hid (And.intro (show KeysAt w12 (.slice a4 m.keys.length cp4) m.keys from ⟨a4, cp4, rfl, hst4⟩) hk12)
            clear c0 c1 c2 c3 c4 c5 c6 c7 c8 c9 hde hfr hT12 hk12 hst4
            unfold msgObj at hM12
            have HM12 := Lib.hid hM12
            have c0 := cell_of hM12 0 _ rfl
            have c1 := cell_of hM12 1 _ rfl
            have c2 := cell_of hM12 2 _ rfl
            have c3 := cell_of hM12 3 _ rfl
            have c4 := cell_of hM12 4 _ rfl
            have c5 := cell_of hM12 5 _ rfl
            have c6 := cell_of hM12 6 _ rfl
            have c7 := cell_of hM12 7 _ rfl
            have c8 := cell_of hM12 8 _ rfl
            have c9 := cell_of hM12 9 _ rfl
            clear hM12
            unfold msgV
            simp only [deliveredM]
            go_upto_region 31 with fail
            obtain ⟨w13, hw13⟩ : ∃ w13, w13 = w12.alloc (.cells #[.int .i64 3, .int .i64 m.queue, .int .i64 m.due, .int .i64 m.retry, .int .i64 7, .int .i64 9, .string m.topic, .string m.tag, .string m.body, .slice a4 m.keys.length cp4] 46) := ⟨_, rfl⟩
            have hT13 : Touch [] w12 w13 := by rw [hw13]; exact (Touch.refl _ _).alloc _
            have hD13 : w13.heap[w12.heap.size]? = some (msgObj (deliveredM 7 m 9) (.slice a4 m.keys.length cp4)) := by rw [hw13]; exact heap_alloc_at _ _
            have hM13 := hT13.heap HM12.out (by simp)
            rw [← hw13]
            obtain ⟨D, hD⟩ : ∃ D, D = w12.heap.size := ⟨_, rfl⟩
            rw [← hD] at hD13 ⊢
            have H13 := Lib.hid (And.intro hT13 hD13)
            clear c0 c1 c2 c3 c4 c5 c6 c7 c8 c9 hw13 hT13 hD13 hD
            have c0 := cell_of hM13 0 _ rfl
            have c1 := cell_of hM13 1 _ rfl
            have c2 := cell_of hM13 2 _ rfl
            have c3 := cell_of hM13 3 _ rfl
            have c4 := cell_of hM13 4 _ rfl
            have c5 := cell_of hM13 5 _ rfl
            have c6 := cell_of hM13 6 _ rfl
            have c7 := cell_of hM13 7 _ rfl
            have c8 := cell_of hM13 8 _ rfl
            have c9 := cell_of hM13 9 _ rfl
            clear hM13
            go_upto_region 32 with fail
            go_upto_region 33 with fail
            obtain ⟨w14, hw14⟩ : ∃ w14, w14 = w13.alloc (.cells #[.int .i64 3, .int .i64 m.queue, .int .i64 m.due, .int .i64 m.retry, .int .i64 7, .int .i64 9, .string m.topic, .string m.tag, .string m.body, .slice a0 m.keys.length cp0] 46) := ⟨_, rfl⟩
            have hT14 : Touch [] w13 w14 := by rw [hw14]; exact (Touch.refl _ _).alloc _
            have hE14 : w14.heap[w13.heap.size]? = some (msgObj (deliveredM 7 m 9) (.slice a0 m.keys.length cp0)) := by rw [hw14]; exact heap_alloc_at _ _
            have hD14 := hT14.heap H13.out.2 (by simp)
            rw [← hw14]
            obtain ⟨E, hE⟩ : ∃ E, E = w13.heap.size := ⟨_, rfl⟩
            rw [← hE] at hE14 ⊢
            have hsame := ref06same_ok w14 (deliveredM 7 m 9) _ _ ((H12.out.1.quiet H13.out.1).quiet hT14) ((H12.out.2.quiet H13.out.1).quiet hT14) (by have := H2.out.2.2.2; show m.keys.length ≤ _; omega)
            unfold msgV at hsame
            simp only [deliveredM] at hsame
            have HT14 := Lib.hid (HT12.out.trans' (H13.out.1.trans' hT14))
            have HSA := Lib.hid hsame
            unfold msgObj at hE14 hD14
            simp only [deliveredM] at hE14 hD14
            clear c0 c1 c2 c3 c4 c5 c6 c7 c8 c9 hw14 hT14 hE hsame
            have x0 := cell_of hD14 0 _ rfl
            have x1 := cell_of hD14 1 _ rfl
            have x2 := cell_of hD14 2 _ rfl
            have x3 := cell_of hD14 3 _ rfl
            have x4 := cell_of hD14 4 _ rfl
            have x5 := cell_of hD14 5 _ rfl
            have x6 := cell_of hD14 6 _ rfl
            have x7 := cell_of hD14 7 _ rfl
            have x8 := cell_of hD14 8 _ rfl
            have x9 := cell_of hD14 9 _ rfl
            have y0 := cell_of hE14 0 _ rfl
            have y1 := cell_of hE14 1 _ rfl
            have y2 := cell_of hE14 2 _ rfl
            have y3 := cell_of hE14 3 _ rfl
            have y4 := cell_of hE14 4 _ rfl
            have y5 := cell_of hE14 5 _ rfl
            have y6 := cell_of hE14 6 _ rfl
            have y7 := cell_of hE14 7 _ rfl
            have y8 := cell_of hE14 8 _ rfl
            have y9 := cell_of hE14 9 _ rfl
            clear hE14 hD14
            go_wp2_with fail
            refine (deqdue_none _).mono ?_
            rintro e w' ⟨rfl, rfl⟩
            go_wp2_with fail
            refine (deqbusy_none _ _).mono ?_
            rintro e w' ⟨rfl, rfl⟩
            go_wp2_with fail
            refine HSA.out.mono ?_
            rintro e w15 ⟨rfl, hT15⟩
            have HT15 := Lib.hid (HT14.out.trans' hT15)
            clear hT15
            clear x0 x1 x2 x3 x4 x5 x6 x7 x8 x9 y0 y1 y2 y3 y4 y5 y6 y7 y8 y9
            go_wp2_with fail
            go_ret
            exact ⟨rfl, HT15.out⟩
          ·
            skip
            go_wp2_with fail
            refine (deqnew_s _ _ none _).mono ?_
            rintro e w10 ⟨rfl, hw10⟩
            have hT10 : Touch [B] w9 w10 := by
              subst hw10
              repeat (first | with_reducible refine Touch.alloc ?_ _ | with_reducible refine Touch.setCell ?_ _ _ _ _ (Or.inl (List.mem_singleton.2 rfl)))
              exact Touch.refl _ _
            have hA10 := hT10.heap H9.out.2.1 HAB.out.1
            have hM10 := hT10.heap H9.out.2.2.1 HAB.out.2
            have hk10 : KeysAt w10 (.slice a0 m.keys.length cp0) m.keys := keys_old ⟨a0, cp0, rfl, HI.out.2.1⟩ ((H2.out.1.nil.trans' H9.out.1.touch.nil).trans' hT10) (fun b hb => by have h1 := H9.out.1.bge; have h2 := H2.out.1.size; simp at hb; omega)
            have HT10 := Lib.hid ((H2.out.1.trans' H9.out.1.touch).trans hT10 (fun b hb => by have h1 := H9.out.1.bge; have h2 := H2.out.1.size; simp at hb; omega))
            have H10 := Lib.hid (And.intro hA10 (And.intro hM10 hk10))
            clear hT10 hM10 hk10 hw10 r0 r1 r2 y0 y1 y2 a0' a1' a2'
            have a0' := cell_of hA10 0 _ rfl
            have a1' := cell_of hA10 1 _ rfl
            have a2' := cell_of hA10 2 _ rfl
            clear hA10
            go_wp2_with fail
            refine (deqadd_none _ _).mono ?_
            rintro e w11 ⟨rfl, hw11⟩
            have hT11 : Touch [] w10 w11 := by rw [← hw11]; exact (Touch.refl _ _).alloc _
            have hM11 := hT11.heap H10.out.2.1 (by simp)
            have hk11 := H10.out.2.2.quiet hT11
            have HT11 := Lib.hid (HT10.out.trans' hT11)
            have H11 := Lib.hid (And.intro hM11 hk11)
            clear hT11 hM11 hk11 hw11 a0' a1' a2'
            go_wp2_with fail
            refine (deqstep_none w11 5).mono ?_
            rintro e w' ⟨rfl, rfl⟩
            have hM11 := H11.out.1
            unfold msgObj at hM11
            have c0 := cell_of hM11 0 _ rfl
            have c1 := cell_of hM11 1 _ rfl
            have c2 := cell_of hM11 2 _ rfl
            have c3 := cell_of hM11 3 _ rfl
            have c4 := cell_of hM11 4 _ rfl
            have c5 := cell_of hM11 5 _ rfl
            have c6 := cell_of hM11 6 _ rfl
            have c7 := cell_of hM11 7 _ rfl
            have c8 := cell_of hM11 8 _ rfl
            have c9 := cell_of hM11 9 _ rfl
            clear hM11
            go_wp2_with fail
            have hde := delivered_ok w11 7 m 9 _ H11.out.2 (by have := H2.out.2.2.2; omega)
            refine hde.mono ?_
            rintro e w12 ⟨kv2, rfl, hk12, hfr, hT12⟩
            obtain ⟨a4, cp4, rfl, hst4⟩ := hk12
            have hM12 := hT12.heap H11.out.1 (by simp)
            have hk12 := H11.out.2.quiet hT12
            have HT12 := Lib.hid (HT11.out.trans' hT12)
            have H12 := Lib.hid (And.intro (show KeysAt w12 (.slice a4 m.keys.length cp4) m.keys from ⟨a4, cp4, rfl, hst4⟩) hk12)
            clear c0 c1 c2 c3 c4 c5 c6 c7 c8 c9 hde hfr hT12 hk12 hst4
            unfold msgObj at hM12
            have HM12 := Lib.hid hM12
            have c0 := cell_of hM12 0 _ rfl
            have c1 := cell_of hM12 1 _ rfl
            have c2 := cell_of hM12 2 _ rfl
            have c3 := cell_of hM12 3 _ rfl
            have c4 := cell_of hM12 4 _ rfl
            have c5 := cell_of hM12 5 _ rfl
            have c6 := cell_of hM12 6 _ rfl
            have c7 := cell_of hM12 7 _ rfl
            have c8 := cell_of hM12 8 _ rfl
            have c9 := cell_of hM12 9 _ rfl
            clear hM12
            unfold msgV
            simp only [deliveredM]
            go_upto_region 31 with fail
            obtain ⟨w13, hw13⟩ : ∃ w13, w13 = w12.alloc (.cells #[.int .i64 3, .int .i64 m.queue, .int .i64 m.due, .int .i64 m.retry, .int .i64 7, .int .i64 9, .string m.topic, .string m.tag, .string m.body, .slice a4 m.keys.length cp4] 46) := ⟨_, rfl⟩
            have hT13 : Touch [] w12 w13 := by rw [hw13]; exact (Touch.refl _ _).alloc _
            have hD13 : w13.heap[w12.heap.size]? = some (msgObj (deliveredM 7 m 9) (.slice a4 m.keys.length cp4)) := by rw [hw13]; exact heap_alloc_at _ _
            have hM13 := hT13.heap HM12.out (by simp)
            rw [← hw13]
            obtain ⟨D, hD⟩ : ∃ D, D = w12.heap.size := ⟨_, rfl⟩
            rw [← hD] at hD13 ⊢
            have H13 := Lib.hid (And.intro hT13 hD13)
            clear c0 c1 c2 c3 c4 c5 c6 c7 c8 c9 hw13 hT13 hD13 hD
            have c0 := cell_of hM13 0 _ rfl
            have c1 := cell_of hM13 1 _ rfl
            have c2 := cell_of hM13 2 _ rfl
            have c3 := cell_of hM13 3 _ rfl
            have c4 := cell_of hM13 4 _ rfl
            have c5 := cell_of hM13 5 _ rfl
            have c6 := cell_of hM13 6 _ rfl
            have c7 := cell_of hM13 7 _ rfl
            have c8 := cell_of hM13 8 _ rfl
            have c9 := cell_of hM13 9 _ rfl
            clear hM13
            go_upto_region 32 with fail
            go_upto_region 33 with fail
            obtain ⟨w14, hw14⟩ : ∃ w14, w14 = w13.alloc (.cells #[.int .i64 3, .int .i64 m.queue, .int .i64 m.due, .int .i64 m.retry, .int .i64 7, .int .i64 9, .string m.topic, .string m.tag, .string m.body, .slice a0 m.keys.length cp0] 46) := ⟨_, rfl⟩
            have hT14 : Touch [] w13 w14 := by rw [hw14]; exact (Touch.refl _ _).alloc _
            have hE14 : w14.heap[w13.heap.size]? = some (msgObj (deliveredM 7 m 9) (.slice a0 m.keys.length cp0)) := by rw [hw14]; exact heap_alloc_at _ _
            have hD14 := hT14.heap H13.out.2 (by simp)
            rw [← hw14]
            obtain ⟨E, hE⟩ : ∃ E, E = w13.heap.size := ⟨_, rfl⟩
            rw [← hE] at hE14 ⊢
            have hsame := ref06same_ok w14 (deliveredM 7 m 9) _ _ ((H12.out.1.quiet H13.out.1).quiet hT14) ((H12.out.2.quiet H13.out.1).quiet hT14) (by have := H2.out.2.2.2; show m.keys.length ≤ _; omega)
            unfold msgV at hsame
            simp only [deliveredM] at hsame
            have HT14 := Lib.hid (HT12.out.trans' (H13.out.1.trans' hT14))
            have HSA := Lib.hid hsame
            unfold msgObj at hE14 hD14
            simp only [deliveredM] at hE14 hD14
            clear c0 c1 c2 c3 c4 c5 c6 c7 c8 c9 hw14 hT14 hE hsame
            have x0 := cell_of hD14 0 _ rfl
            have x1 := cell_of hD14 1 _ rfl
            have x2 := cell_of hD14 2 _ rfl
            have x3 := cell_of hD14 3 _ rfl
            have x4 := cell_of hD14 4 _ rfl
            have x5 := cell_of hD14 5 _ rfl
            have x6 := cell_of hD14 6 _ rfl
            have x7 := cell_of hD14 7 _ rfl
            have x8 := cell_of hD14 8 _ rfl
            have x9 := cell_of hD14 9 _ rfl
            have y0 := cell_of hE14 0 _ rfl
            have y1 := cell_of hE14 1 _ rfl
            have y2 := cell_of hE14 2 _ rfl
            have y3 := cell_of hE14 3 _ rfl
            have y4 := cell_of hE14 4 _ rfl
            have y5 := cell_of hE14 5 _ rfl
            have y6 := cell_of hE14 6 _ rfl
            have y7 := cell_of hE14 7 _ rfl
            have y8 := cell_of hE14 8 _ rfl
            have y9 := cell_of hE14 9 _ rfl
            clear hE14 hD14
            go_wp2_with fail
            refine (deqdue_none _).mono ?_
            rintro e w' ⟨rfl, rfl⟩
            go_wp2_with fail
            refine (deqbusy_none _ _).mono ?_
            rintro e w' ⟨rfl, rfl⟩
            go_wp2_with fail
            refine HSA.out.mono ?_
            rintro e w15 ⟨rfl, hT15⟩
            have HT15 := Lib.hid (HT14.out.trans' hT15)
            clear hT15
            clear x0 x1 x2 x3 x4 x5 x6 x7 x8 x9 y0 y1 y2 y3 y4 y5 y6 y7 y8 y9
            go_wp2_with fail
            go_ret
            exact ⟨rfl, HT15.out⟩
          ·
            skip
            go_wp2_with fail
            refine (deqnew_s _ _ none _).mono ?_
            rintro e w10 ⟨rfl, hw10⟩
            have hT10 : Touch [B] w9 w10 := by
              subst hw10
              repeat (first | with_reducible refine Touch.alloc ?_ _ | with_reducible refine Touch.setCell ?_ _ _ _ _ (Or.inl (List.mem_singleton.2 rfl)))
              exact Touch.refl _ _
            have hA10 := hT10.heap H9.out.2.1 HAB.out.1
            have hM10 := hT10.heap H9.out.2.2.1 HAB.out.2
            have hk10 : KeysAt w10 (.slice a0 m.keys.length cp0) m.keys := keys_old ⟨a0, cp0, rfl, HI.out.2.1⟩ ((H2.out.1.nil.trans' H9.out.1.touch.nil).trans' hT10) (fun b hb => by have h1 := H9.out.1.bge; have h2 := H2.out.1.size; simp at hb; omega)
            have HT10 := Lib.hid ((H2.out.1.trans' H9.out.1.touch).trans hT10 (fun b hb => by have h1 := H9.out.1.bge; have h2 := H2.out.1.size; simp at hb; omega))
            have H10 := Lib.hid (And.intro hA10 (And.intro hM10 hk10))
            clear hT10 hM10 hk10 hw10 r0 r1 r2 y0 y1 y2 a0' a1' a2'
            have a0' := cell_of hA10 0 _ rfl
            have a1' := cell_of hA10 1 _ rfl
            have a2' := cell_of hA10 2 _ rfl
            clear hA10
            go_wp2_with fail
            refine (deqadd_none _ _).mono ?_
            rintro e w11 ⟨rfl, hw11⟩
            have hT11 : Touch [] w10 w11 := by rw [← hw11]; exact (Touch.refl _ _).alloc _
            have hM11 := hT11.heap H10.out.2.1 (by simp)
            have hk11 := H10.out.2.2.quiet hT11
            have HT11 := Lib.hid (HT10.out.trans' hT11)
            have H11 := Lib.hid (And.intro hM11 hk11)
            clear hT11 hM11 hk11 hw11 a0' a1' a2'
            go_wp2_with fail
            refine (deqstep_none w11 5).mono ?_
            rintro e w' ⟨rfl, rfl⟩
            have hM11 := H11.out.1
            unfold msgObj at hM11
            have c0 := cell_of hM11 0 _ rfl
            have c1 := cell_of hM11 1 _ rfl
            have c2 := cell_of hM11 2 _ rfl
            have c3 := cell_of hM11 3 _ rfl
            have c4 := cell_of hM11 4 _ rfl
            have c5 := cell_of hM11 5 _ rfl
            have c6 := cell_of hM11 6 _ rfl
            have c7 := cell_of hM11 7 _ rfl
            have c8 := cell_of hM11 8 _ rfl
            have c9 := cell_of hM11 9 _ rfl
            clear hM11
            go_wp2_with fail
            have hde := delivered_ok w11 7 m 9 _ H11.out.2 (by have := H2.out.2.2.2; omega)
            refine hde.mono ?_
            rintro e w12 ⟨kv2, rfl, hk12, hfr, hT12⟩
            obtain ⟨a4, cp4, rfl, hst4⟩ := hk12
            have hM12 := hT12.heap H11.out.1 (by simp)
            have hk12 := H11.out.2.quiet hT12
            have HT12 := Lib.hid (HT11.out.trans' hT12)
            have H12 := Lib.hid (And.intro (show KeysAt w12 (.slice a4 m.keys.length cp4) m.keys from ⟨a4, cp4, rfl, hst4⟩) hk12)
            clear c0 c1 c2 c3 c4 c5 c6 c7 c8 c9 hde hfr hT12 hk12 hst4
            unfold msgObj at hM12
            have HM12 := Lib.hid hM12
            have c0 := cell_of hM12 0 _ rfl
            have c1 := cell_of hM12 1 _ rfl
            have c2 := cell_of hM12 2 _ rfl
            have c3 := cell_of hM12 3 _ rfl
            have c4 := cell_of hM12 4 _ rfl
            have c5 := cell_of hM12 5 _ rfl
            have c6 := cell_of hM12 6 _ rfl
            have c7 := cell_of hM12 7 _ rfl
            have c8 := cell_of hM12 8 _ rfl
            have c9 := cell_of hM12 9 _ rfl
            clear hM12
            unfold msgV
            simp only [deliveredM]
            go_upto_region 31 with fail
            obtain ⟨w13, hw13⟩ : ∃ w13, w13 = w12.alloc (.cells #[.int .i64 3, .int .i64 m.queue, .int .i64 m.due, .int .i64 m.retry, .int .i64 7, .int .i64 9, .string m.topic, .string m.tag, .string m.body, .slice a4 m.keys.length cp4] 46) := ⟨_, rfl⟩
            have hT13 : Touch [] w12 w13 := by rw [hw13]; exact (Touch.refl _ _).alloc _
            have hD13 : w13.heap[w12.heap.size]? = some (msgObj (deliveredM 7 m 9) (.slice a4 m.keys.length cp4)) := by rw [hw13]; exact heap_alloc_at _ _
            have hM13 := hT13.heap HM12.out (by simp)
            rw [← hw13]
            obtain ⟨D, hD⟩ : ∃ D, D = w12.heap.size := ⟨_, rfl⟩
            rw [← hD] at hD13 ⊢
            have H13 := Lib.hid (And.intro hT13 hD13)
            clear c0 c1 c2 c3 c4 c5 c6 c7 c8 c9 hw13 hT13 hD13 hD
            have c0 := cell_of hM13 0 _ rfl
            have c1 := cell_of hM13 1 _ rfl
            have c2 := cell_of hM13 2 _ rfl
            have c3 := cell_of hM13 3 _ rfl
            have c4 := cell_of hM13 4 _ rfl
            have c5 := cell_of hM13 5 _ rfl
            have c6 := cell_of hM13 6 _ rfl
            have c7 := cell_of hM13 7 _ rfl
            have c8 := cell_of hM13 8 _ rfl
            have c9 := cell_of hM13 9 _ rfl
            clear hM13
            go_upto_region 32 with fail
            go_upto_region 33 with fail
            obtain ⟨w14, hw14⟩ : ∃ w14, w14 = w13.alloc (.cells #[.int .i64 3, .int .i64 m.queue, .int .i64 m.due, .int .i64 m.retry, .int .i64 7, .int .i64 9, .string m.topic, .string m.tag, .string m.body, .slice a0 m.keys.length cp0] 46) := ⟨_, rfl⟩
            have hT14 : Touch [] w13 w14 := by rw [hw14]; exact (Touch.refl _ _).alloc _
            have hE14 : w14.heap[w13.heap.size]? = some (msgObj (deliveredM 7 m 9) (.slice a0 m.keys.length cp0)) := by rw [hw14]; exact heap_alloc_at _ _
            have hD14 := hT14.heap H13.out.2 (by simp)
            rw [← hw14]
            obtain ⟨E, hE⟩ : ∃ E, E = w13.heap.size := ⟨_, rfl⟩
            rw [← hE] at hE14 ⊢
            have hsame := ref06same_ok w14 (deliveredM 7 m 9) _ _ ((H12.out.1.quiet H13.out.1).quiet hT14) ((H12.out.2.quiet H13.out.1).quiet hT14) (by have := H2.out.2.2.2; show m.keys.length ≤ _; omega)
            unfold msgV at hsame
            simp only [deliveredM] at hsame
            have HT14 := Lib.hid (HT12.out.trans' (H13.out.1.trans' hT14))
            have HSA := Lib.hid hsame
            unfold msgObj at hE14 hD14
            simp only [deliveredM] at hE14 hD14
            clear c0 c1 c2 c3 c4 c5 c6 c7 c8 c9 hw14 hT14 hE hsame
            have x0 := cell_of hD14 0 _ rfl
            have x1 := cell_of hD14 1 _ rfl
            have x2 := cell_of hD14 2 _ rfl
            have x3 := cell_of hD14 3 _ rfl
            have x4 := cell_of hD14 4 _ rfl
            have x5 := cell_of hD14 5 _ rfl
            have x6 := cell_of hD14 6 _ rfl
            have x7 := cell_of hD14 7 _ rfl
            have x8 := cell_of hD14 8 _ rfl
            have x9 := cell_of hD14 9 _ rfl
            have y0 := cell_of hE14 0 _ rfl
            have y1 := cell_of hE14 1 _ rfl
            have y2 := cell_of hE14 2 _ rfl
            have y3 := cell_of hE14 3 _ rfl
            have y4 := cell_of hE14 4 _ rfl
            have y5 := cell_of hE14 5 _ rfl
            have y6 := cell_of hE14 6 _ rfl
            have y7 := cell_of hE14 7 _ rfl
            have y8 := cell_of hE14 8 _ rfl
            have y9 := cell_of hE14 9 _ rfl
            clear hE14 hD14
            go_wp2_with fail
            refine (deqdue_none _).mono ?_
            rintro e w' ⟨rfl, rfl⟩
            go_wp2_with fail
            refine (deqbusy_none _ _).mono ?_
            rintro e w' ⟨rfl, rfl⟩
            go_wp2_with fail
            refine HSA.out.mono ?_
            rintro e w15 ⟨rfl, hT15⟩
            have HT15 := Lib.hid (HT14.out.trans' hT15)
            clear hT15
            clear x0 x1 x2 x3 x4 x5 x6 x7 x8 x9 y0 y1 y2 y3 y4 y5 y6 y7 y8 y9
            go_wp2_with fail
            go_ret
            exact ⟨rfl, HT15.out⟩
          ·
            skip
            go_wp2_with fail
            refine (deqnew_l _ _ _ none).mono ?_
            rintro e w10 ⟨rfl, hw10⟩
            have hT10 : Touch [B] w9 w10 := by
              subst hw10
              repeat (first | with_reducible refine Touch.alloc ?_ _ | with_reducible refine Touch.setCell ?_ _ _ _ _ (Or.inl (List.mem_singleton.2 rfl)))
              exact Touch.refl _ _
            have hA10 := hT10.heap H9.out.2.1 HAB.out.1
            have hM10 := hT10.heap H9.out.2.2.1 HAB.out.2
            have hk10 : KeysAt w10 (.slice a0 m.keys.length cp0) m.keys := keys_old ⟨a0, cp0, rfl, HI.out.2.1⟩ ((H2.out.1.nil.trans' H9.out.1.touch.nil).trans' hT10) (fun b hb => by have h1 := H9.out.1.bge; have h2 := H2.out.1.size; simp at hb; omega)
            have HT10 := Lib.hid ((H2.out.1.trans' H9.out.1.touch).trans hT10 (fun b hb => by have h1 := H9.out.1.bge; have h2 := H2.out.1.size; simp at hb; omega))
            have H10 := Lib.hid (And.intro hA10 (And.intro hM10 hk10))
            clear hT10 hM10 hk10 hw10 r0 r1 r2 y0 y1 y2 a0' a1' a2'
            have a0' := cell_of hA10 0 _ rfl
            have a1' := cell_of hA10 1 _ rfl
            have a2' := cell_of hA10 2 _ rfl
            clear hA10
            go_wp2_with fail
            refine (deqadd_none _ _).mono ?_
            rintro e w11 ⟨rfl, hw11⟩
            have hT11 : Touch [] w10 w11 := by rw [← hw11]; exact (Touch.refl _ _).alloc _
            have hM11 := hT11.heap H10.out.2.1 (by simp)
            have hk11 := H10.out.2.2.quiet hT11
            have HT11 := Lib.hid (HT10.out.trans' hT11)
            have H11 := Lib.hid (And.intro hM11 hk11)
            clear hT11 hM11 hk11 hw11 a0' a1' a2'
            go_wp2_with fail
            refine (deqstep_none w11 5).mono ?_
            rintro e w' ⟨rfl, rfl⟩
            have hM11 := H11.out.1
            unfold msgObj at hM11
            have c0 := cell_of hM11 0 _ rfl
            have c1 := cell_of hM11 1 _ rfl
            have c2 := cell_of hM11 2 _ rfl
            have c3 := cell_of hM11 3 _ rfl
            have c4 := cell_of hM11 4 _ rfl
            have c5 := cell_of hM11 5 _ rfl
            have c6 := cell_of hM11 6 _ rfl
            have c7 := cell_of hM11 7 _ rfl
            have c8 := cell_of hM11 8 _ rfl
            have c9 := cell_of hM11 9 _ rfl
            clear hM11
            go_wp2_with fail
            have hde := delivered_ok w11 7 m 9 _ H11.out.2 (by have := H2.out.2.2.2; omega)
            refine hde.mono ?_
            rintro e w12 ⟨kv2, rfl, hk12, hfr, hT12⟩
            obtain ⟨a4, cp4, rfl, hst4⟩ := hk12
            have hM12 := hT12.heap H11.out.1 (by simp)
            have hk12 := H11.out.2.quiet hT12
            have HT12 := Lib.hid (HT11.out.trans' hT12)
            have H12 := Lib.hid (And.intro (show KeysAt w12 (.slice a4 m.keys.length cp4) m.keys from ⟨a4, cp4, rfl, hst4⟩) hk12)
            clear c0 c1 c2 c3 c4 c5 c6 c7 c8 c9 hde hfr hT12 hk12 hst4
            unfold msgObj at hM12
            have HM12 := Lib.hid hM12
            have c0 := cell_of hM12 0 _ rfl
            have c1 := cell_of hM12 1 _ rfl
            have c2 := cell_of hM12 2 _ rfl
            have c3 := cell_of hM12 3 _ rfl
            have c4 := cell_of hM12 4 _ rfl
            have c5 := cell_of hM12 5 _ rfl
            have c6 := cell_of hM12 6 _ rfl
            have c7 := cell_of hM12 7 _ rfl
            have c8 := cell_of hM12 8 _ rfl
            have c9 := cell_of hM12 9 _ rfl
            clear hM12
            unfold msgV
            simp only [deliveredM]
            go_upto_region 31 with fail
            obtain ⟨w13, hw13⟩ : ∃ w13, w13 = w12.alloc (.cells #[.int .i64 3, .int .i64 m.queue, .int .i64 m.due, .int .i64 m.retry, .int .i64 7, .int .i64 9, .string m.topic, .string m.tag, .string m.body, .slice a4 m.keys.length cp4] 46) := ⟨_, rfl⟩
            have hT13 : Touch [] w12 w13 := by rw [hw13]; exact (Touch.refl _ _).alloc _
            have hD13 : w13.heap[w12.heap.size]? = some (msgObj (deliveredM 7 m 9) (.slice a4 m.keys.length cp4)) := by rw [hw13]; exact heap_alloc_at _ _
            have hM13 := hT13.heap HM12.out (by simp)
            rw [← hw13]
            obtain ⟨D, hD⟩ : ∃ D, D = w12.heap.size := ⟨_, rfl⟩
            rw [← hD] at hD13 ⊢
            have H13 := Lib.hid (And.intro hT13 hD13)
            clear c0 c1 c2 c3 c4 c5 c6 c7 c8 c9 hw13 hT13 hD13 hD
            have c0 := cell_of hM13 0 _ rfl
            have c1 := cell_of hM13 1 _ rfl
            have c2 := cell_of hM13 2 _ rfl
            have c3 := cell_of hM13 3 _ rfl
            have c4 := cell_of hM13 4 _ rfl
            have c5 := cell_of hM13 5 _ rfl
            have c6 := cell_of hM13 6 _ rfl
            have c7 := cell_of hM13 7 _ rfl
            have c8 := cell_of hM13 8 _ rfl
            have c9 := cell_of hM13 9 _ rfl
            clear hM13
            go_upto_region 32 with fail
            go_upto_region 33 with fail
            obtain ⟨w14, hw14⟩ : ∃ w14, w14 = w13.alloc (.cells #[.int .i64 3, .int .i64 m.queue, .int .i64 m.due, .int .i64 m.retry, .int .i64 7, .int .i64 9, .string m.topic, .string m.tag, .string m.body, .slice a0 m.keys.length cp0] 46) := ⟨_, rfl⟩
            have hT14 : Touch [] w13 w14 := by rw [hw14]; exact (Touch.refl _ _).alloc _
            have hE14 : w14.heap[w13.heap.size]? = some (msgObj (deliveredM 7 m 9) (.slice a0 m.keys.length cp0)) := by rw [hw14]; exact heap_alloc_at _ _
            have hD14 := hT14.heap H13.out.2 (by simp)
            rw [← hw14]
            obtain ⟨E, hE⟩ : ∃ E, E = w13.heap.size := ⟨_, rfl⟩
            rw [← hE] at hE14 ⊢
            have hsame := ref06same_ok w14 (deliveredM 7 m 9) _ _ ((H12.out.1.quiet H13.out.1).quiet hT14) ((H12.out.2.quiet H13.out.1).quiet hT14) (by have := H2.out.2.2.2; show m.keys.length ≤ _; omega)
            unfold msgV at hsame
            simp only [deliveredM] at hsame
            have HT14 := Lib.hid (HT12.out.trans' (H13.out.1.trans' hT14))
            have HSA := Lib.hid hsame
            unfold msgObj at hE14 hD14
            simp only [deliveredM] at hE14 hD14
            clear c0 c1 c2 c3 c4 c5 c6 c7 c8 c9 hw14 hT14 hE hsame
            have x0 := cell_of hD14 0 _ rfl
            have x1 := cell_of hD14 1 _ rfl
            have x2 := cell_of hD14 2 _ rfl
            have x3 := cell_of hD14 3 _ rfl
            have x4 := cell_of hD14 4 _ rfl
            have x5 := cell_of hD14 5 _ rfl
            have x6 := cell_of hD14 6 _ rfl
            have x7 := cell_of hD14 7 _ rfl
            have x8 := cell_of hD14 8 _ rfl
            have x9 := cell_of hD14 9 _ rfl
            have y0 := cell_of hE14 0 _ rfl
            have y1 := cell_of hE14 1 _ rfl
            have y2 := cell_of hE14 2 _ rfl
            have y3 := cell_of hE14 3 _ rfl
            have y4 := cell_of hE14 4 _ rfl
            have y5 := cell_of hE14 5 _ rfl
            have y6 := cell_of hE14 6 _ rfl
            have y7 := cell_of hE14 7 _ rfl
            have y8 := cell_of hE14 8 _ rfl
            have y9 := cell_of hE14 9 _ rfl
            clear hE14 hD14
            go_wp2_with fail
            refine (deqdue_none _).mono ?_
            rintro e w' ⟨rfl, rfl⟩
            go_wp2_with fail
            refine (deqbusy_none _ _).mono ?_
            rintro e w' ⟨rfl, rfl⟩
            go_wp2_with fail
            refine HSA.out.mono ?_
            rintro e w15 ⟨rfl, hT15⟩
            have HT15 := Lib.hid (HT14.out.trans' hT15)
            clear hT15
            clear x0 x1 x2 x3 x4 x5 x6 x7 x8 x9 y0 y1 y2 y3 y4 y5 y6 y7 y8 y9
            go_wp2_with fail
            go_ret
            exact ⟨rfl, HT15.out⟩
          ·
            skip
            go_wp2_with fail
            refine (deqnew_ok _ _ _ _).mono ?_
            rintro e w10 ⟨rfl, hw10⟩
            have hT10 : Touch [B] w9 w10 := by
              subst hw10
              repeat (first | with_reducible refine Touch.alloc ?_ _ | with_reducible refine Touch.setCell ?_ _ _ _ _ (Or.inl (List.mem_singleton.2 rfl)))
              exact Touch.refl _ _
            have hA10 := hT10.heap H9.out.2.1 HAB.out.1
            have hM10 := hT10.heap H9.out.2.2.1 HAB.out.2
            have hk10 : KeysAt w10 (.slice a0 m.keys.length cp0) m.keys := keys_old ⟨a0, cp0, rfl, HI.out.2.1⟩ ((H2.out.1.nil.trans' H9.out.1.touch.nil).trans' hT10) (fun b hb => by have h1 := H9.out.1.bge; have h2 := H2.out.1.size; simp at hb; omega)
            have HT10 := Lib.hid ((H2.out.1.trans' H9.out.1.touch).trans hT10 (fun b hb => by have h1 := H9.out.1.bge; have h2 := H2.out.1.size; simp at hb; omega))
            have H10 := Lib.hid (And.intro hA10 (And.intro hM10 hk10))
            clear hT10 hM10 hk10 hw10 r0 r1 r2 y0 y1 y2 a0' a1' a2'
            have a0' := cell_of hA10 0 _ rfl
            have a1' := cell_of hA10 1 _ rfl
            have a2' := cell_of hA10 2 _ rfl
            clear hA10
            go_wp2_with fail
            refine (deqadd_none _ _).mono ?_
            rintro e w11 ⟨rfl, hw11⟩
            have hT11 : Touch [] w10 w11 := by rw [← hw11]; exact (Touch.refl _ _).alloc _
            have hM11 := hT11.heap H10.out.2.1 (by simp)
            have hk11 := H10.out.2.2.quiet hT11
            have HT11 := Lib.hid (HT10.out.trans' hT11)
            have H11 := Lib.hid (And.intro hM11 hk11)
            clear hT11 hM11 hk11 hw11 a0' a1' a2'
            go_wp2_with fail
            refine (deqstep_none w11 5).mono ?_
            rintro e w' ⟨rfl, rfl⟩
            have hM11 := H11.out.1
            unfold msgObj at hM11
            have c0 := cell_of hM11 0 _ rfl
            have c1 := cell_of hM11 1 _ rfl
            have c2 := cell_of hM11 2 _ rfl
            have c3 := cell_of hM11 3 _ rfl
            have c4 := cell_of hM11 4 _ rfl
            have c5 := cell_of hM11 5 _ rfl
            have c6 := cell_of hM11 6 _ rfl
            have c7 := cell_of hM11 7 _ rfl
            have c8 := cell_of hM11 8 _ rfl
            have c9 := cell_of hM11 9 _ rfl
            clear hM11
            go_wp2_with fail
            have hde := delivered_ok w11 7 m 9 _ H11.out.2 (by have := H2.out.2.2.2; omega)
            refine hde.mono ?_
            rintro e w12 ⟨kv2, rfl, hk12, hfr, hT12⟩
            obtain ⟨a4, cp4, rfl, hst4⟩ := hk12
            have hM12 := hT12.heap H11.out.1 (by simp)
            have hk12 := H11.out.2.quiet hT12
            have HT12 := Lib.hid (HT11.out.trans' hT12)
            have H12 := Lib.hid (And.intro (show KeysAt w12 (.slice a4 m.keys.length cp4) m.keys from ⟨a4, cp4, rfl, hst4⟩) hk12)
            clear c0 c1 c2 c3 c4 c5 c6 c7 c8 c9 hde hfr hT12 hk12 hst4
            unfold msgObj at hM12
            have HM12 := Lib.hid hM12
            have c0 := cell_of hM12 0 _ rfl
            have c1 := cell_of hM12 1 _ rfl
            have c2 := cell_of hM12 2 _ rfl
            have c3 := cell_of hM12 3 _ rfl
            have c4 := cell_of hM12 4 _ rfl
            have c5 := cell_of hM12 5 _ rfl
            have c6 := cell_of hM12 6 _ rfl
            have c7 := cell_of hM12 7 _ rfl
            have c8 := cell_of hM12 8 _ rfl
            have c9 := cell_of hM12 9 _ rfl
            clear hM12
            unfold msgV
            simp only [deliveredM]
            go_upto_region 31 with fail
            obtain ⟨w13, hw13⟩ : ∃ w13, w13 = w12.alloc (.cells #[.int .i64 3, .int .i64 m.queue, .int .i64 m.due, .int .i64 m.retry, .int .i64 7, .int .i64 9, .string m.topic, .string m.tag, .string m.body, .slice a4 m.keys.length cp4] 46) := ⟨_, rfl⟩
            have hT13 : Touch [] w12 w13 := by rw [hw13]; exact (Touch.refl _ _).alloc _
            have hD13 : w13.heap[w12.heap.size]? = some (msgObj (deliveredM 7 m 9) (.slice a4 m.keys.length cp4)) := by rw [hw13]; exact heap_alloc_at _ _
            have hM13 := hT13.heap HM12.out (by simp)
            rw [← hw13]
            obtain ⟨D, hD⟩ : ∃ D, D = w12.heap.size := ⟨_, rfl⟩
            rw [← hD] at hD13 ⊢
            have H13 := Lib.hid (And.intro hT13 hD13)
            clear c0 c1 c2 c3 c4 c5 c6 c7 c8 c9 hw13 hT13 hD13 hD
            have c0 := cell_of hM13 0 _ rfl
            have c1 := cell_of hM13 1 _ rfl
            have c2 := cell_of hM13 2 _ rfl
            have c3 := cell_of hM13 3 _ rfl
            have c4 := cell_of hM13 4 _ rfl
            have c5 := cell_of hM13 5 _ rfl
            have c6 := cell_of hM13 6 _ rfl
            have c7 := cell_of hM13 7 _ rfl
            have c8 := cell_of hM13 8 _ rfl
            have c9 := cell_of hM13 9 _ rfl
            clear hM13
            go_upto_region 32 with fail
            go_upto_region 33 with fail
            obtain ⟨w14, hw14⟩ : ∃ w14, w14 = w13.alloc (.cells #[.int .i64 3, .int .i64 m.queue, .int .i64 m.due, .int .i64 m.retry, .int .i64 7, .int .i64 9, .string m.topic, .string m.tag, .string m.body, .slice a0 m.keys.length cp0] 46) := ⟨_, rfl⟩
            have hT14 : Touch [] w13 w14 := by rw [hw14]; exact (Touch.refl _ _).alloc _
            have hE14 : w14.heap[w13.heap.size]? = some (msgObj (deliveredM 7 m 9) (.slice a0 m.keys.length cp0)) := by rw [hw14]; exact heap_alloc_at _ _
            have hD14 := hT14.heap H13.out.2 (by simp)
            rw [← hw14]
            obtain ⟨E, hE⟩ : ∃ E, E = w13.heap.size := ⟨_, rfl⟩
            rw [← hE] at hE14 ⊢
            have hsame := ref06same_ok w14 (deliveredM 7 m 9) _ _ ((H12.out.1.quiet H13.out.1).quiet hT14) ((H12.out.2.quiet H13.out.1).quiet hT14) (by have := H2.out.2.2.2; show m.keys.length ≤ _; omega)
            unfold msgV at hsame
            simp only [deliveredM] at hsame
            have HT14 := Lib.hid (HT12.out.trans' (H13.out.1.trans' hT14))
            have HSA := Lib.hid hsame
            unfold msgObj at hE14 hD14
            simp only [deliveredM] at hE14 hD14
            clear c0 c1 c2 c3 c4 c5 c6 c7 c8 c9 hw14 hT14 hE hsame
            have x0 := cell_of hD14 0 _ rfl
            have x1 := cell_of hD14 1 _ rfl
            have x2 := cell_of hD14 2 _ rfl
            have x3 := cell_of hD14 3 _ rfl
            have x4 := cell_of hD14 4 _ rfl
            have x5 := cell_of hD14 5 _ rfl
            have x6 := cell_of hD14 6 _ rfl
            have x7 := cell_of hD14 7 _ rfl
            have x8 := cell_of hD14 8 _ rfl
            have x9 := cell_of hD14 9 _ rfl
            have y0 := cell_of hE14 0 _ rfl
            have y1 := cell_of hE14 1 _ rfl
            have y2 := cell_of hE14 2 _ rfl
            have y3 := cell_of hE14 3 _ rfl
            have y4 := cell_of hE14 4 _ rfl
            have y5 := cell_of hE14 5 _ rfl
            have y6 := cell_of hE14 6 _ rfl
            have y7 := cell_of hE14 7 _ rfl
            have y8 := cell_of hE14 8 _ rfl
            have y9 := cell_of hE14 9 _ rfl
            clear hE14 hD14
            go_wp2_with fail
            refine (deqdue_none _).mono ?_
            rintro e w' ⟨rfl, rfl⟩
            go_wp2_with fail
            refine (deqbusy_none _ _).mono ?_
            rintro e w' ⟨rfl, rfl⟩
            go_wp2_with fail
            refine HSA.out.mono ?_
            rintro e w15 ⟨rfl, hT15⟩
            have HT15 := Lib.hid (HT14.out.trans' hT15)
            clear hT15
            clear x0 x1 x2 x3 x4 x5 x6 x7 x8 x9 y0 y1 y2 y3 y4 y5 y6 y7 y8 y9
            go_wp2_with fail
            go_ret
            exact ⟨rfl, HT15.out⟩
end Go.Proofs.YtljgifbnmgpdbaaGreatDoor
