/- Layer 2 (crc): Open. -/
import Derived.Test.YtljgifbnmgpdbaaGreatDoorZc09
set_option linter.unusedSimpArgs false
set_option linter.unusedVariables false
set_option linter.unnecessarySimpa false
namespace Go.Proofs.YtljgifbnmgpdbaaGreatDoor
open Go Go.RowKit

theorem eq4 (a b c d : Int) (w : World) : (Op.equalIn 10000 284 (.agg #[.int .u8 a, .int .u8 b, .int .u8 c, .int .u8 d]) (.agg #[.int .u8 a, .int .u8 b, .int .u8 c, .int .u8 d])).run Tryz.prog w = .ok true w := by
  have h5 := fun (a b : Int) (w : World) => run_equalIn_int (P := Tryz.prog) w 9998 5 .u8 .u8 a b Tryz.underlying5
  rw [show (10000 : Nat) = 9998 + 1 + 1 from rfl]
  rw [Op.equalIn]
  simp only [Sem.run_bind, run_underlying Tryz.underlying284, Result.andThen_ok]
  have hr : List.range' 0 4 = [0, 1, 2, 3] := rfl
  simp [go_sem, Tryz.sizeOf5, part, hr]

set_option maxRecDepth 100000 in
set_option maxHeartbeats 1000000 in
theorem copen_ok (w : World) (t : Nat) (T : Nat → Int) (h : TabAt w t T) (s : ByteArray) (hs : s.size ≤ 1000000) :
    Calls Tryz.prog 144 #[.pointer (some ⟨t, 0, none⟩), .string (sealed T s)] w fun e w' => e = .returned (.tuple #[.string s, .bool true]) ∧ Touch [] w w' := by
  have HH := Lib.hid (And.intro h hs)
  obtain ⟨c, hc⟩ : ∃ c, c = crcSum T s.data.toList := ⟨_, rfl⟩
  obtain ⟨b0, b1, b2, b3, hb⟩ : ∃ b0 b1 b2 b3, be 4 c = [b0, b1, b2, b3] := ⟨_, _, _, _, rfl⟩
  obtain ⟨p, hp⟩ : ∃ p : ByteArray, p = bytesOf (be 4 c) := ⟨_, rfl⟩
  have hps : p.size = 4 := by rw [hp, bytesOf_size, be_len]
  have hsl : sealed T s = p ++ s := by rw [hp, hc]; rfl
  have hl := extract_left p s
  have hr := extract_right p s
  rw [hps] at hl hr
  rw [hsl]
  have hsz : (p ++ s).size = 4 + s.size := by rw [ByteArray.size_append, hps]
  generalize p ++ s = x at *
  have hd : decide ((x.size : Int) < 4) = false := by simp; omega
  have BX : (4 : Int) ≤ x.size := by omega
  have HC := Lib.hid (And.intro hc (And.intro hb (And.intro hp (And.intro hps (And.intro hsl (And.intro hl (And.intro hr hsz)))))))
  clear h hs hc hb hp hps hsl hsz
  go_enter Tryz.func144, Tryz.ntmps144
  go_wp2_with fail
  have hpl : p.data.toList = [b0, b1, b2, b3] := by
    obtain ⟨h1, h2, h3, _⟩ := HC.out
    rw [h3, h2]; rfl
  have hmk : ∀ W : World, ∃ w1 cp, (convert 9 94 (.string p)).run Tryz.prog W = .ok (.slice (some ⟨W.heap.size, 0, none⟩) 4 cp) w1 ∧ w1.cell? ⟨W.heap.size, 0, none⟩ = some (.int .u8 b0.toNat) ∧ w1.cell? ⟨W.heap.size, 1, none⟩ = some (.int .u8 b1.toNat) ∧
      w1.cell? ⟨W.heap.size, 2, none⟩ = some (.int .u8 b2.toNat) ∧ w1.cell? ⟨W.heap.size, 3, none⟩ = some (.int .u8 b3.toNat) ∧ Touch [] W w1 := by
    intro W
    have h0 := Lib.run_convert_string_bytes (P := Tryz.prog) W 9 94 5 p Tryz.underlying9 Tryz.underlying94 Tryz.underlying5
    rw [HC.out.2.2.2.1] at h0
    obtain ⟨h1, hT⟩ := bytesRow_made W 5 p
    rw [hpl] at h1
    exact ⟨_, _, h0, h1.cell 0 (by simp), h1.cell 1 (by simp), h1.cell 2 (by simp), h1.cell 3 (by simp), hT⟩
  have harr : ∀ (W : World) (a : Addr) (cp : Nat), (Instr.arrayAt 284 (.slice (some a) 4 cp)).run Tryz.prog W = .ok (.pointer (some a)) W := by
    intro W a cp
    simp [Instr.arrayAt, run_underlying Tryz.underlying284, Result.andThen]
  have hword : ∀ w', Calls Tryz.prog 196 #[.int .i64 c] w' fun e w'' => e = .returned (.agg #[.int .u8 b0.toNat, .int .u8 b1.toNat, .int .u8 b2.toNat, .int .u8 b3.toNat]) ∧ Touch [] w' w'' := by
    intro w'
    have := word_ok w' c (by rw [HC.out.1]; exact crcSum_lt _ _)
    rw [HC.out.2.1] at this
    exact this
  have hsum : ∀ (W : World) (b : Nat), Touch [] w W → W.cell? ⟨b, 0, none⟩ = some (.string s) → Calls Tryz.prog 197 #[.pointer (some ⟨t, 0, none⟩), .slice (some ⟨b, 0, none⟩) 1 1] W fun e w'' => e = .returned (.int .i64 c) ∧ Touch [] W w'' := by
    intro W b hT hc
    have := sum_ok W t T (HH.out.1.touch hT (by simp)) b 0 1 s hc HH.out.2
    rw [← HC.out.1] at this
    exact this
  have HW := Lib.hid (And.intro hword (And.intro hsum hmk))
  have heq := eq4 b0.toNat b1.toNat b2.toNat b3.toNat
  clear hword hsum hmk hpl
  -- SCRIPT
  refine wp_region_held_drew (S := fun _ => True) (by kernel_rfl) trivial (fun hHeld => ?_)
  refine wpAnyH_take (i := 0) (oi := _) (v := ?v0x1) rfl (by kernel_rfl) (by kernel_rfl) (by kernel_rfl) (fun _ _ _ h => h) (Or.inl ⟨by rfl, ?hy0x1⟩) (by assumption) ?rest0x1
  case hy0x1 => (intro w0 hSw; go_simp; try with_reducible rfl)
  case rest0x1 =>
  try simp only [List.getElem_toArray, List.getElem_cons_zero, List.getElem_cons_succ, Act.put, List.setIfInBounds_toArray, List.set_cons_zero, List.set_cons_succ]
  refine wpAnyH_take (i := 1) (oi := _) (v := ?v1x2) rfl (by kernel_rfl) (by kernel_rfl) (by kernel_rfl) (fun _ _ _ h => h) (Or.inl ⟨by rfl, ?hy1x2⟩) (by assumption) ?rest1x2
  case hy1x2 => (intro w0 hSw; go_simp; try with_reducible rfl)
  case rest1x2 =>
  try simp only [List.getElem_toArray, List.getElem_cons_zero, List.getElem_cons_succ, Act.put, List.setIfInBounds_toArray, List.set_cons_zero, List.set_cons_succ]
  refine wpAnyH_take (i := 2) (oi := _) (v := ?v2x3) rfl (by kernel_rfl) (by kernel_rfl) (by kernel_rfl) (fun _ _ _ h => h) (Or.inl ⟨by rfl, ?hy2x3⟩) (by assumption) ?rest2x3
  case hy2x3 => (intro w0 hSw; go_simp; try with_reducible rfl)
  case rest2x3 =>
  try simp only [List.getElem_toArray, List.getElem_cons_zero, List.getElem_cons_succ, Act.put, List.setIfInBounds_toArray, List.set_cons_zero, List.set_cons_succ]
  refine wpAnyH_take (i := 3) (oi := _) (v := ?v3x4) rfl (by kernel_rfl) (by kernel_rfl) (by kernel_rfl) (fun _ _ _ h => h) (Or.inl ⟨by rfl, ?hy3x4⟩) (by assumption) ?rest3x4
  case hy3x4 => (intro w0 hSw; go_simp; try with_reducible rfl)
  case rest3x4 =>
  try simp only [List.getElem_toArray, List.getElem_cons_zero, List.getElem_cons_succ, Act.put, List.setIfInBounds_toArray, List.set_cons_zero, List.set_cons_succ]
  refine wpAnyH_take (i := 4) (oi := _) (v := ?v4x5) rfl (by kernel_rfl) (by kernel_rfl) (by kernel_rfl) (fun _ _ _ h => h) (Or.inl ⟨by rfl, ?hy4x5⟩) (by assumption) ?rest4x5
  case hy4x5 => (intro w0 hSw; go_simp; try with_reducible rfl)
  case rest4x5 =>
  try simp only [List.getElem_toArray, List.getElem_cons_zero, List.getElem_cons_succ, Act.put, List.setIfInBounds_toArray, List.set_cons_zero, List.set_cons_succ]
  refine wpAnyH_take (i := 5) (oi := _) (v := ?v5x6) rfl (by kernel_rfl) (by kernel_rfl) (by kernel_rfl) (fun _ _ _ h => h) (Or.inl ⟨by rfl, ?hy5x6⟩) (by assumption) ?rest5x6
  case hy5x6 => (intro w0 hSw; go_simp; try with_reducible rfl)
  case rest5x6 =>
  try simp only [List.getElem_toArray, List.getElem_cons_zero, List.getElem_cons_succ, Act.put, List.setIfInBounds_toArray, List.set_cons_zero, List.set_cons_succ]
  refine wpAnyH_take (i := 6) (oi := _) (v := ?v6x7) rfl (by kernel_rfl) (by kernel_rfl) (by kernel_rfl) (fun _ _ _ h => h) (Or.inl ⟨by rfl, ?hy6x7⟩) (by assumption) ?rest6x7
  case hy6x7 => (intro w0 hSw; go_simp; try with_reducible rfl)
  case rest6x7 =>
  try simp only [List.getElem_toArray, List.getElem_cons_zero, List.getElem_cons_succ, Act.put, List.setIfInBounds_toArray, List.set_cons_zero, List.set_cons_succ]
  refine wpAnyH_take (i := 7) (oi := _) (v := ?v7x8) rfl (by kernel_rfl) (by kernel_rfl) (by kernel_rfl) (fun _ _ _ h => h) (Or.inl ⟨by rfl, ?hy7x8⟩) (by assumption) ?rest7x8
  case hy7x8 => (intro w0 hSw; go_simp; try with_reducible rfl)
  case rest7x8 =>
  try simp only [List.getElem_toArray, List.getElem_cons_zero, List.getElem_cons_succ, Act.put, List.setIfInBounds_toArray, List.set_cons_zero, List.set_cons_succ]
  refine wpAnyH_take (i := 8) (oi := _) (v := ?v8x9) rfl (by kernel_rfl) (by kernel_rfl) (by kernel_rfl) (fun _ _ _ h => h) (Or.inl ⟨by rfl, ?hy8x9⟩) (by assumption) ?rest8x9
  case hy8x9 => (intro w0 hSw; go_simp; try with_reducible rfl)
  case rest8x9 =>
  try simp only [List.getElem_toArray, List.getElem_cons_zero, List.getElem_cons_succ, Act.put, List.setIfInBounds_toArray, List.set_cons_zero, List.set_cons_succ]
  refine wpAnyH_take (i := 9) (oi := _) (v := ?v9x10) rfl (by kernel_rfl) (by kernel_rfl) (by kernel_rfl) (fun _ _ _ h => h) (Or.inl ⟨by rfl, ?hy9x10⟩) (by assumption) ?rest9x10
  case hy9x10 => (intro w0 hSw; go_simp; try with_reducible rfl)
  case rest9x10 =>
  try simp only [List.getElem_toArray, List.getElem_cons_zero, List.getElem_cons_succ, Act.put, List.setIfInBounds_toArray, List.set_cons_zero, List.set_cons_succ]
  refine wpAnyH_take (i := 13) (oi := _) (v := ?v13x11) rfl (by kernel_rfl) (by kernel_rfl) (by kernel_rfl) (fun _ _ _ h => h) (Or.inl ⟨by rfl, ?hy13x11⟩) (by assumption) ?rest13x11
  case hy13x11 => (intro w0 hSw; go_simp; try with_reducible rfl)
  case rest13x11 =>
  try simp only [List.getElem_toArray, List.getElem_cons_zero, List.getElem_cons_succ, Act.put, List.setIfInBounds_toArray, List.set_cons_zero, List.set_cons_succ]
  refine wpAnyH_take (i := 14) (oi := _) (v := ?v14x12) rfl (by kernel_rfl) (by kernel_rfl) (by kernel_rfl) (fun _ _ _ h => h) (Or.inl ⟨by rfl, ?hy14x12⟩) (by assumption) ?rest14x12
  case hy14x12 => (intro w0 hSw; go_simp; try with_reducible rfl)
  case rest14x12 =>
  try simp only [List.getElem_toArray, List.getElem_cons_zero, List.getElem_cons_succ, Act.put, List.setIfInBounds_toArray, List.set_cons_zero, List.set_cons_succ]
  refine wpAnyH_take (i := 15) (oi := _) (v := ?v15x13) rfl (by kernel_rfl) (by kernel_rfl) (by kernel_rfl) (fun _ _ _ h => h) (Or.inl ⟨by rfl, ?hy15x13⟩) (by assumption) ?rest15x13
  case hy15x13 => (intro w0 hSw; go_simp; try with_reducible rfl)
  case rest15x13 =>
  try simp only [List.getElem_toArray, List.getElem_cons_zero, List.getElem_cons_succ, Act.put, List.setIfInBounds_toArray, List.set_cons_zero, List.set_cons_succ]
  have T0 : Touch [] w w.drew := (Touch.refl _ _).drew
  refine wpAnyH_ready (rs := [10, 16]) (by kernel_rfl) (by simp) ?_
  refine AllReadyH.cons (o := _) rfl (fun K hK => ?step10x14) ?more10x14
  case step10x14 =>
    obtain ⟨c15, cp19, e16, k170, k171, k172, k173, hT18⟩ := HW.out.2.2 (w.drew)
    rw [show (w.drew).heap.size = w.heap.size from rfl] at e16 k170 k171 k172 k173
    go_simp
    have T20 := T0.trans' hT18
    refine hK.out _ _ trivial (fun hHeld => ?_)
    clear hK K
    try simp only [List.getElem_toArray, List.getElem_cons_zero, List.getElem_cons_succ, Act.put, List.setIfInBounds_toArray, List.set_cons_zero, List.set_cons_succ]
    refine wpAnyH_take (i := 11) (oi := _) (v := ?v11x21) rfl (by kernel_rfl) (by kernel_rfl) (by kernel_rfl) (fun _ _ _ h => h) (Or.inl ⟨by rfl, ?hy11x21⟩) (by assumption) ?rest11x21
    case hy11x21 => (intro w0 hSw; go_simp; try with_reducible rfl)
    case rest11x21 =>
    try simp only [List.getElem_toArray, List.getElem_cons_zero, List.getElem_cons_succ, Act.put, List.setIfInBounds_toArray, List.set_cons_zero, List.set_cons_succ]
    refine wpAnyH_ready (rs := [12, 16]) (by kernel_rfl) (by simp) ?_
    refine AllReadyH.cons (o := _) rfl (fun K hK => ?step12x22) ?more12x22
    case step12x22 =>
      go_simp
      refine hK.out _ _ trivial (fun hHeld => ?_)
      clear hK K
      try simp only [List.getElem_toArray, List.getElem_cons_zero, List.getElem_cons_succ, Act.put, List.setIfInBounds_toArray, List.set_cons_zero, List.set_cons_succ]
      refine wpAnyH_ready (rs := [16]) (by kernel_rfl) (by simp) ?_
      refine AllReadyH.cons (o := _) rfl (fun K hK => ?step16x23) ?more16x23
      case step16x23 =>
        obtain ⟨b24, hb25⟩ : ∃ W : World, W = (c15).alloc (.cells #[.string s] 9) := ⟨_, rfl⟩
        have hT26 : Touch [] (c15) b24 := by rw [hb25]; exact (Touch.refl _ _).alloc _
        have ms27 : b24.cell? ⟨(c15).heap.size, 0, none⟩ = some (.string s) := by rw [hb25]; exact cell_of (heap_alloc_at (c15) (.cells #[.string s] 9)) 0 _ rfl
        go_simp
        have T28 := T20.trans' hT26
        refine hK.out _ _ trivial (fun hHeld => ?_)
        clear hK K
        try simp only [List.getElem_toArray, List.getElem_cons_zero, List.getElem_cons_succ, Act.put, List.setIfInBounds_toArray, List.set_cons_zero, List.set_cons_succ]
        rw [← hb25]
        clear hb25
        refine wpAnyH_ready (rs := [17]) (by kernel_rfl) (by simp) ?_
        refine AllReadyH.cons (o := _) rfl (fun K hK => ?step17x29) ?more17x29
        case step17x29 =>
          go_simp
          refine (HW.out.2.1 _ _ T28 ms27).mono ?_
          rintro e w30 ⟨rfl, hT31⟩
          try go_wp2_with fail
          have T32 := T28.trans' hT31
          refine hK.out _ _ trivial (fun hHeld => ?_)
          clear hK K
          try simp only [List.getElem_toArray, List.getElem_cons_zero, List.getElem_cons_succ, Act.put, List.setIfInBounds_toArray, List.set_cons_zero, List.set_cons_succ]
          refine wpAnyH_ready (rs := [18]) (by kernel_rfl) (by simp) ?_
          refine AllReadyH.cons (o := _) rfl (fun K hK => ?step18x33) ?more18x33
          case step18x33 =>
            go_simp
            refine (HW.out.1 _).mono ?_
            rintro e w34 ⟨rfl, hT35⟩
            try go_wp2_with fail
            have T36 := T32.trans' hT35
            refine hK.out _ _ trivial (fun hHeld => ?_)
            clear hK K
            try simp only [List.getElem_toArray, List.getElem_cons_zero, List.getElem_cons_succ, Act.put, List.setIfInBounds_toArray, List.set_cons_zero, List.set_cons_succ]
            refine wpAnyH_take (i := 19) (oi := _) (v := ?v19x37) rfl (by kernel_rfl) (by kernel_rfl) (by kernel_rfl) (fun _ _ _ h => h) (Or.inl ⟨by rfl, ?hy19x37⟩) (by assumption) ?rest19x37
            case hy19x37 => (intro w0 hSw; go_simp; try with_reducible rfl)
            case rest19x37 =>
            try simp only [List.getElem_toArray, List.getElem_cons_zero, List.getElem_cons_succ, Act.put, List.setIfInBounds_toArray, List.set_cons_zero, List.set_cons_succ]
            refine wpAnyH_take (i := 20) (oi := _) (v := ?v20x38) rfl (by kernel_rfl) (by kernel_rfl) (by kernel_rfl) (fun _ _ _ h => h) (Or.inl ⟨by rfl, ?hy20x38⟩) (by assumption) ?rest20x38
            case hy20x38 => (intro w0 hSw; go_simp; try with_reducible rfl)
            case rest20x38 =>
            try simp only [List.getElem_toArray, List.getElem_cons_zero, List.getElem_cons_succ, Act.put, List.setIfInBounds_toArray, List.set_cons_zero, List.set_cons_succ]
            refine wpAnyH_done (by kernel_rfl) ?_ _
            have HT := Lib.hid T36
            go_wp2_with fail
            go_ret2
            exact ⟨rfl, HT.out⟩
          case more18x33 =>
          exact AllReadyH.nil
        case more17x29 =>
        exact AllReadyH.nil
      case more16x23 =>
      exact AllReadyH.nil
    case more12x22 =>
    refine AllReadyH.cons (o := _) rfl (fun K hK => ?step16x39) ?more16x39
    case step16x39 =>
      obtain ⟨b40, hb41⟩ : ∃ W : World, W = (c15).alloc (.cells #[.string s] 9) := ⟨_, rfl⟩
      have hT42 : Touch [] (c15) b40 := by rw [hb41]; exact (Touch.refl _ _).alloc _
      have ms43 : b40.cell? ⟨(c15).heap.size, 0, none⟩ = some (.string s) := by rw [hb41]; exact cell_of (heap_alloc_at (c15) (.cells #[.string s] 9)) 0 _ rfl
      go_simp
      have T44 := T20.trans' hT42
      refine hK.out _ _ trivial (fun hHeld => ?_)
      clear hK K
      try simp only [List.getElem_toArray, List.getElem_cons_zero, List.getElem_cons_succ, Act.put, List.setIfInBounds_toArray, List.set_cons_zero, List.set_cons_succ]
      rw [← hb41]
      clear hb41
      have k450 := hT42.cell k170 (by simp)
      have k451 := hT42.cell k171 (by simp)
      have k452 := hT42.cell k172 (by simp)
      have k453 := hT42.cell k173 (by simp)
      refine wpAnyH_ready (rs := [12, 17]) (by kernel_rfl) (by simp) ?_
      refine AllReadyH.cons (o := _) rfl (fun K hK => ?step12x46) ?more12x46
      case step12x46 =>
        go_simp
        refine hK.out _ _ trivial (fun hHeld => ?_)
        clear hK K
        try simp only [List.getElem_toArray, List.getElem_cons_zero, List.getElem_cons_succ, Act.put, List.setIfInBounds_toArray, List.set_cons_zero, List.set_cons_succ]
        refine wpAnyH_ready (rs := [17]) (by kernel_rfl) (by simp) ?_
        refine AllReadyH.cons (o := _) rfl (fun K hK => ?step17x47) ?more17x47
        case step17x47 =>
          go_simp
          refine (HW.out.2.1 _ _ T44 ms43).mono ?_
          rintro e w48 ⟨rfl, hT49⟩
          try go_wp2_with fail
          have T50 := T44.trans' hT49
          refine hK.out _ _ trivial (fun hHeld => ?_)
          clear hK K
          try simp only [List.getElem_toArray, List.getElem_cons_zero, List.getElem_cons_succ, Act.put, List.setIfInBounds_toArray, List.set_cons_zero, List.set_cons_succ]
          refine wpAnyH_ready (rs := [18]) (by kernel_rfl) (by simp) ?_
          refine AllReadyH.cons (o := _) rfl (fun K hK => ?step18x51) ?more18x51
          case step18x51 =>
            go_simp
            refine (HW.out.1 _).mono ?_
            rintro e w52 ⟨rfl, hT53⟩
            try go_wp2_with fail
            have T54 := T50.trans' hT53
            refine hK.out _ _ trivial (fun hHeld => ?_)
            clear hK K
            try simp only [List.getElem_toArray, List.getElem_cons_zero, List.getElem_cons_succ, Act.put, List.setIfInBounds_toArray, List.set_cons_zero, List.set_cons_succ]
            refine wpAnyH_take (i := 19) (oi := _) (v := ?v19x55) rfl (by kernel_rfl) (by kernel_rfl) (by kernel_rfl) (fun _ _ _ h => h) (Or.inl ⟨by rfl, ?hy19x55⟩) (by assumption) ?rest19x55
            case hy19x55 => (intro w0 hSw; go_simp; try with_reducible rfl)
            case rest19x55 =>
            try simp only [List.getElem_toArray, List.getElem_cons_zero, List.getElem_cons_succ, Act.put, List.setIfInBounds_toArray, List.set_cons_zero, List.set_cons_succ]
            refine wpAnyH_take (i := 20) (oi := _) (v := ?v20x56) rfl (by kernel_rfl) (by kernel_rfl) (by kernel_rfl) (fun _ _ _ h => h) (Or.inl ⟨by rfl, ?hy20x56⟩) (by assumption) ?rest20x56
            case hy20x56 => (intro w0 hSw; go_simp; try with_reducible rfl)
            case rest20x56 =>
            try simp only [List.getElem_toArray, List.getElem_cons_zero, List.getElem_cons_succ, Act.put, List.setIfInBounds_toArray, List.set_cons_zero, List.set_cons_succ]
            refine wpAnyH_done (by kernel_rfl) ?_ _
            have HT := Lib.hid T54
            go_wp2_with fail
            go_ret2
            exact ⟨rfl, HT.out⟩
          case more18x51 =>
          exact AllReadyH.nil
        case more17x47 =>
        exact AllReadyH.nil
      case more12x46 =>
      refine AllReadyH.cons (o := _) rfl (fun K hK => ?step17x57) ?more17x57
      case step17x57 =>
        go_simp
        refine (HW.out.2.1 _ _ T44 ms43).mono ?_
        rintro e w58 ⟨rfl, hT59⟩
        try go_wp2_with fail
        have T60 := T44.trans' hT59
        refine hK.out _ _ trivial (fun hHeld => ?_)
        clear hK K
        try simp only [List.getElem_toArray, List.getElem_cons_zero, List.getElem_cons_succ, Act.put, List.setIfInBounds_toArray, List.set_cons_zero, List.set_cons_succ]
        have k610 := hT59.cell k450 (by simp)
        have k611 := hT59.cell k451 (by simp)
        have k612 := hT59.cell k452 (by simp)
        have k613 := hT59.cell k453 (by simp)
        refine wpAnyH_ready (rs := [12, 18]) (by kernel_rfl) (by simp) ?_
        refine AllReadyH.cons (o := _) rfl (fun K hK => ?step12x62) ?more12x62
        case step12x62 =>
          go_simp
          refine hK.out _ _ trivial (fun hHeld => ?_)
          clear hK K
          try simp only [List.getElem_toArray, List.getElem_cons_zero, List.getElem_cons_succ, Act.put, List.setIfInBounds_toArray, List.set_cons_zero, List.set_cons_succ]
          refine wpAnyH_ready (rs := [18]) (by kernel_rfl) (by simp) ?_
          refine AllReadyH.cons (o := _) rfl (fun K hK => ?step18x63) ?more18x63
          case step18x63 =>
            go_simp
            refine (HW.out.1 _).mono ?_
            rintro e w64 ⟨rfl, hT65⟩
            try go_wp2_with fail
            have T66 := T60.trans' hT65
            refine hK.out _ _ trivial (fun hHeld => ?_)
            clear hK K
            try simp only [List.getElem_toArray, List.getElem_cons_zero, List.getElem_cons_succ, Act.put, List.setIfInBounds_toArray, List.set_cons_zero, List.set_cons_succ]
            refine wpAnyH_take (i := 19) (oi := _) (v := ?v19x67) rfl (by kernel_rfl) (by kernel_rfl) (by kernel_rfl) (fun _ _ _ h => h) (Or.inl ⟨by rfl, ?hy19x67⟩) (by assumption) ?rest19x67
            case hy19x67 => (intro w0 hSw; go_simp; try with_reducible rfl)
            case rest19x67 =>
            try simp only [List.getElem_toArray, List.getElem_cons_zero, List.getElem_cons_succ, Act.put, List.setIfInBounds_toArray, List.set_cons_zero, List.set_cons_succ]
            refine wpAnyH_take (i := 20) (oi := _) (v := ?v20x68) rfl (by kernel_rfl) (by kernel_rfl) (by kernel_rfl) (fun _ _ _ h => h) (Or.inl ⟨by rfl, ?hy20x68⟩) (by assumption) ?rest20x68
            case hy20x68 => (intro w0 hSw; go_simp; try with_reducible rfl)
            case rest20x68 =>
            try simp only [List.getElem_toArray, List.getElem_cons_zero, List.getElem_cons_succ, Act.put, List.setIfInBounds_toArray, List.set_cons_zero, List.set_cons_succ]
            refine wpAnyH_done (by kernel_rfl) ?_ _
            have HT := Lib.hid T66
            go_wp2_with fail
            go_ret2
            exact ⟨rfl, HT.out⟩
          case more18x63 =>
          exact AllReadyH.nil
        case more12x62 =>
        refine AllReadyH.cons (o := _) rfl (fun K hK => ?step18x69) ?more18x69
        case step18x69 =>
          go_simp
          refine (HW.out.1 _).mono ?_
          rintro e w70 ⟨rfl, hT71⟩
          try go_wp2_with fail
          have T72 := T60.trans' hT71
          refine hK.out _ _ trivial (fun hHeld => ?_)
          clear hK K
          try simp only [List.getElem_toArray, List.getElem_cons_zero, List.getElem_cons_succ, Act.put, List.setIfInBounds_toArray, List.set_cons_zero, List.set_cons_succ]
          have k730 := hT71.cell k610 (by simp)
          have k731 := hT71.cell k611 (by simp)
          have k732 := hT71.cell k612 (by simp)
          have k733 := hT71.cell k613 (by simp)
          refine wpAnyH_ready (rs := [12]) (by kernel_rfl) (by simp) ?_
          refine AllReadyH.cons (o := _) rfl (fun K hK => ?step12x74) ?more12x74
          case step12x74 =>
            go_simp
            refine hK.out _ _ trivial (fun hHeld => ?_)
            clear hK K
            try simp only [List.getElem_toArray, List.getElem_cons_zero, List.getElem_cons_succ, Act.put, List.setIfInBounds_toArray, List.set_cons_zero, List.set_cons_succ]
            refine wpAnyH_take (i := 19) (oi := _) (v := ?v19x75) rfl (by kernel_rfl) (by kernel_rfl) (by kernel_rfl) (fun _ _ _ h => h) (Or.inl ⟨by rfl, ?hy19x75⟩) (by assumption) ?rest19x75
            case hy19x75 => (intro w0 hSw; go_simp; try with_reducible rfl)
            case rest19x75 =>
            try simp only [List.getElem_toArray, List.getElem_cons_zero, List.getElem_cons_succ, Act.put, List.setIfInBounds_toArray, List.set_cons_zero, List.set_cons_succ]
            refine wpAnyH_take (i := 20) (oi := _) (v := ?v20x76) rfl (by kernel_rfl) (by kernel_rfl) (by kernel_rfl) (fun _ _ _ h => h) (Or.inl ⟨by rfl, ?hy20x76⟩) (by assumption) ?rest20x76
            case hy20x76 => (intro w0 hSw; go_simp; try with_reducible rfl)
            case rest20x76 =>
            try simp only [List.getElem_toArray, List.getElem_cons_zero, List.getElem_cons_succ, Act.put, List.setIfInBounds_toArray, List.set_cons_zero, List.set_cons_succ]
            refine wpAnyH_done (by kernel_rfl) ?_ _
            have HT := Lib.hid T72
            go_wp2_with fail
            go_ret2
            exact ⟨rfl, HT.out⟩
          case more12x74 =>
          exact AllReadyH.nil
        case more18x69 =>
        exact AllReadyH.nil
      case more17x57 =>
      exact AllReadyH.nil
    case more16x39 =>
    exact AllReadyH.nil
  case more10x14 =>
  refine AllReadyH.cons (o := _) rfl (fun K hK => ?step16x77) ?more16x77
  case step16x77 =>
    obtain ⟨b78, hb79⟩ : ∃ W : World, W = (w.alloc (.cells #[.string s] 9)).drew := ⟨_, rfl⟩
    have hT80 : Touch [] (w.drew) b78 := by rw [hb79]; exact (show Touch [] w.drew w.drew from Touch.refl _ _).alloc _
    have ms81 : b78.cell? ⟨(w.drew).heap.size, 0, none⟩ = some (.string s) := by rw [hb79]; exact cell_of (heap_alloc_at (w.drew) (.cells #[.string s] 9)) 0 _ rfl
    rw [show (w.drew).heap.size = w.heap.size from rfl] at ms81
    go_simp
    have T82 := T0.trans' hT80
    refine hK.out _ _ trivial (fun hHeld => ?_)
    clear hK K
    try simp only [List.getElem_toArray, List.getElem_cons_zero, List.getElem_cons_succ, Act.put, List.setIfInBounds_toArray, List.set_cons_zero, List.set_cons_succ]
    rw [← hb79]
    clear hb79
    refine wpAnyH_ready (rs := [10, 17]) (by kernel_rfl) (by simp) ?_
    refine AllReadyH.cons (o := _) rfl (fun K hK => ?step10x83) ?more10x83
    case step10x83 =>
      obtain ⟨c84, cp88, e85, k860, k861, k862, k863, hT87⟩ := HW.out.2.2 (b78)
      go_simp
      have T89 := T82.trans' hT87
      refine hK.out _ _ trivial (fun hHeld => ?_)
      clear hK K
      try simp only [List.getElem_toArray, List.getElem_cons_zero, List.getElem_cons_succ, Act.put, List.setIfInBounds_toArray, List.set_cons_zero, List.set_cons_succ]
      have ms90 := hT87.cell ms81 (by simp)
      refine wpAnyH_take (i := 11) (oi := _) (v := ?v11x91) rfl (by kernel_rfl) (by kernel_rfl) (by kernel_rfl) (fun _ _ _ h => h) (Or.inl ⟨by rfl, ?hy11x91⟩) (by assumption) ?rest11x91
      case hy11x91 => (intro w0 hSw; go_simp; try with_reducible rfl)
      case rest11x91 =>
      try simp only [List.getElem_toArray, List.getElem_cons_zero, List.getElem_cons_succ, Act.put, List.setIfInBounds_toArray, List.set_cons_zero, List.set_cons_succ]
      refine wpAnyH_ready (rs := [12, 17]) (by kernel_rfl) (by simp) ?_
      refine AllReadyH.cons (o := _) rfl (fun K hK => ?step12x92) ?more12x92
      case step12x92 =>
        go_simp
        refine hK.out _ _ trivial (fun hHeld => ?_)
        clear hK K
        try simp only [List.getElem_toArray, List.getElem_cons_zero, List.getElem_cons_succ, Act.put, List.setIfInBounds_toArray, List.set_cons_zero, List.set_cons_succ]
        refine wpAnyH_ready (rs := [17]) (by kernel_rfl) (by simp) ?_
        refine AllReadyH.cons (o := _) rfl (fun K hK => ?step17x93) ?more17x93
        case step17x93 =>
          go_simp
          refine (HW.out.2.1 _ _ T89 ms90).mono ?_
          rintro e w94 ⟨rfl, hT95⟩
          try go_wp2_with fail
          have T96 := T89.trans' hT95
          refine hK.out _ _ trivial (fun hHeld => ?_)
          clear hK K
          try simp only [List.getElem_toArray, List.getElem_cons_zero, List.getElem_cons_succ, Act.put, List.setIfInBounds_toArray, List.set_cons_zero, List.set_cons_succ]
          refine wpAnyH_ready (rs := [18]) (by kernel_rfl) (by simp) ?_
          refine AllReadyH.cons (o := _) rfl (fun K hK => ?step18x97) ?more18x97
          case step18x97 =>
            go_simp
            refine (HW.out.1 _).mono ?_
            rintro e w98 ⟨rfl, hT99⟩
            try go_wp2_with fail
            have T100 := T96.trans' hT99
            refine hK.out _ _ trivial (fun hHeld => ?_)
            clear hK K
            try simp only [List.getElem_toArray, List.getElem_cons_zero, List.getElem_cons_succ, Act.put, List.setIfInBounds_toArray, List.set_cons_zero, List.set_cons_succ]
            refine wpAnyH_take (i := 19) (oi := _) (v := ?v19x101) rfl (by kernel_rfl) (by kernel_rfl) (by kernel_rfl) (fun _ _ _ h => h) (Or.inl ⟨by rfl, ?hy19x101⟩) (by assumption) ?rest19x101
            case hy19x101 => (intro w0 hSw; go_simp; try with_reducible rfl)
            case rest19x101 =>
            try simp only [List.getElem_toArray, List.getElem_cons_zero, List.getElem_cons_succ, Act.put, List.setIfInBounds_toArray, List.set_cons_zero, List.set_cons_succ]
            refine wpAnyH_take (i := 20) (oi := _) (v := ?v20x102) rfl (by kernel_rfl) (by kernel_rfl) (by kernel_rfl) (fun _ _ _ h => h) (Or.inl ⟨by rfl, ?hy20x102⟩) (by assumption) ?rest20x102
            case hy20x102 => (intro w0 hSw; go_simp; try with_reducible rfl)
            case rest20x102 =>
            try simp only [List.getElem_toArray, List.getElem_cons_zero, List.getElem_cons_succ, Act.put, List.setIfInBounds_toArray, List.set_cons_zero, List.set_cons_succ]
            refine wpAnyH_done (by kernel_rfl) ?_ _
            have HT := Lib.hid T100
            go_wp2_with fail
            go_ret2
            exact ⟨rfl, HT.out⟩
          case more18x97 =>
          exact AllReadyH.nil
        case more17x93 =>
        exact AllReadyH.nil
      case more12x92 =>
      refine AllReadyH.cons (o := _) rfl (fun K hK => ?step17x103) ?more17x103
      case step17x103 =>
        go_simp
        refine (HW.out.2.1 _ _ T89 ms90).mono ?_
        rintro e w104 ⟨rfl, hT105⟩
        try go_wp2_with fail
        have T106 := T89.trans' hT105
        refine hK.out _ _ trivial (fun hHeld => ?_)
        clear hK K
        try simp only [List.getElem_toArray, List.getElem_cons_zero, List.getElem_cons_succ, Act.put, List.setIfInBounds_toArray, List.set_cons_zero, List.set_cons_succ]
        have k1070 := hT105.cell k860 (by simp)
        have k1071 := hT105.cell k861 (by simp)
        have k1072 := hT105.cell k862 (by simp)
        have k1073 := hT105.cell k863 (by simp)
        refine wpAnyH_ready (rs := [12, 18]) (by kernel_rfl) (by simp) ?_
        refine AllReadyH.cons (o := _) rfl (fun K hK => ?step12x108) ?more12x108
        case step12x108 =>
          go_simp
          refine hK.out _ _ trivial (fun hHeld => ?_)
          clear hK K
          try simp only [List.getElem_toArray, List.getElem_cons_zero, List.getElem_cons_succ, Act.put, List.setIfInBounds_toArray, List.set_cons_zero, List.set_cons_succ]
          refine wpAnyH_ready (rs := [18]) (by kernel_rfl) (by simp) ?_
          refine AllReadyH.cons (o := _) rfl (fun K hK => ?step18x109) ?more18x109
          case step18x109 =>
            go_simp
            refine (HW.out.1 _).mono ?_
            rintro e w110 ⟨rfl, hT111⟩
            try go_wp2_with fail
            have T112 := T106.trans' hT111
            refine hK.out _ _ trivial (fun hHeld => ?_)
            clear hK K
            try simp only [List.getElem_toArray, List.getElem_cons_zero, List.getElem_cons_succ, Act.put, List.setIfInBounds_toArray, List.set_cons_zero, List.set_cons_succ]
            refine wpAnyH_take (i := 19) (oi := _) (v := ?v19x113) rfl (by kernel_rfl) (by kernel_rfl) (by kernel_rfl) (fun _ _ _ h => h) (Or.inl ⟨by rfl, ?hy19x113⟩) (by assumption) ?rest19x113
            case hy19x113 => (intro w0 hSw; go_simp; try with_reducible rfl)
            case rest19x113 =>
            try simp only [List.getElem_toArray, List.getElem_cons_zero, List.getElem_cons_succ, Act.put, List.setIfInBounds_toArray, List.set_cons_zero, List.set_cons_succ]
            refine wpAnyH_take (i := 20) (oi := _) (v := ?v20x114) rfl (by kernel_rfl) (by kernel_rfl) (by kernel_rfl) (fun _ _ _ h => h) (Or.inl ⟨by rfl, ?hy20x114⟩) (by assumption) ?rest20x114
            case hy20x114 => (intro w0 hSw; go_simp; try with_reducible rfl)
            case rest20x114 =>
            try simp only [List.getElem_toArray, List.getElem_cons_zero, List.getElem_cons_succ, Act.put, List.setIfInBounds_toArray, List.set_cons_zero, List.set_cons_succ]
            refine wpAnyH_done (by kernel_rfl) ?_ _
            have HT := Lib.hid T112
            go_wp2_with fail
            go_ret2
            exact ⟨rfl, HT.out⟩
          case more18x109 =>
          exact AllReadyH.nil
        case more12x108 =>
        refine AllReadyH.cons (o := _) rfl (fun K hK => ?step18x115) ?more18x115
        case step18x115 =>
          go_simp
          refine (HW.out.1 _).mono ?_
          rintro e w116 ⟨rfl, hT117⟩
          try go_wp2_with fail
          have T118 := T106.trans' hT117
          refine hK.out _ _ trivial (fun hHeld => ?_)
          clear hK K
          try simp only [List.getElem_toArray, List.getElem_cons_zero, List.getElem_cons_succ, Act.put, List.setIfInBounds_toArray, List.set_cons_zero, List.set_cons_succ]
          have k1190 := hT117.cell k1070 (by simp)
          have k1191 := hT117.cell k1071 (by simp)
          have k1192 := hT117.cell k1072 (by simp)
          have k1193 := hT117.cell k1073 (by simp)
          refine wpAnyH_ready (rs := [12]) (by kernel_rfl) (by simp) ?_
          refine AllReadyH.cons (o := _) rfl (fun K hK => ?step12x120) ?more12x120
          case step12x120 =>
            go_simp
            refine hK.out _ _ trivial (fun hHeld => ?_)
            clear hK K
            try simp only [List.getElem_toArray, List.getElem_cons_zero, List.getElem_cons_succ, Act.put, List.setIfInBounds_toArray, List.set_cons_zero, List.set_cons_succ]
            refine wpAnyH_take (i := 19) (oi := _) (v := ?v19x121) rfl (by kernel_rfl) (by kernel_rfl) (by kernel_rfl) (fun _ _ _ h => h) (Or.inl ⟨by rfl, ?hy19x121⟩) (by assumption) ?rest19x121
            case hy19x121 => (intro w0 hSw; go_simp; try with_reducible rfl)
            case rest19x121 =>
            try simp only [List.getElem_toArray, List.getElem_cons_zero, List.getElem_cons_succ, Act.put, List.setIfInBounds_toArray, List.set_cons_zero, List.set_cons_succ]
            refine wpAnyH_take (i := 20) (oi := _) (v := ?v20x122) rfl (by kernel_rfl) (by kernel_rfl) (by kernel_rfl) (fun _ _ _ h => h) (Or.inl ⟨by rfl, ?hy20x122⟩) (by assumption) ?rest20x122
            case hy20x122 => (intro w0 hSw; go_simp; try with_reducible rfl)
            case rest20x122 =>
            try simp only [List.getElem_toArray, List.getElem_cons_zero, List.getElem_cons_succ, Act.put, List.setIfInBounds_toArray, List.set_cons_zero, List.set_cons_succ]
            refine wpAnyH_done (by kernel_rfl) ?_ _
            have HT := Lib.hid T118
            go_wp2_with fail
            go_ret2
            exact ⟨rfl, HT.out⟩
          case more12x120 =>
          exact AllReadyH.nil
        case more18x115 =>
        exact AllReadyH.nil
      case more17x103 =>
      exact AllReadyH.nil
    case more10x83 =>
    refine AllReadyH.cons (o := _) rfl (fun K hK => ?step17x123) ?more17x123
    case step17x123 =>
      go_simp
      refine (HW.out.2.1 _ _ T82 ms81).mono ?_
      rintro e w124 ⟨rfl, hT125⟩
      try go_wp2_with fail
      have T126 := T82.trans' hT125
      refine hK.out _ _ trivial (fun hHeld => ?_)
      clear hK K
      try simp only [List.getElem_toArray, List.getElem_cons_zero, List.getElem_cons_succ, Act.put, List.setIfInBounds_toArray, List.set_cons_zero, List.set_cons_succ]
      refine wpAnyH_ready (rs := [10, 18]) (by kernel_rfl) (by simp) ?_
      refine AllReadyH.cons (o := _) rfl (fun K hK => ?step10x127) ?more10x127
      case step10x127 =>
        obtain ⟨c128, cp132, e129, k1300, k1301, k1302, k1303, hT131⟩ := HW.out.2.2 (w124)
        go_simp
        have T133 := T126.trans' hT131
        refine hK.out _ _ trivial (fun hHeld => ?_)
        clear hK K
        try simp only [List.getElem_toArray, List.getElem_cons_zero, List.getElem_cons_succ, Act.put, List.setIfInBounds_toArray, List.set_cons_zero, List.set_cons_succ]
        refine wpAnyH_take (i := 11) (oi := _) (v := ?v11x134) rfl (by kernel_rfl) (by kernel_rfl) (by kernel_rfl) (fun _ _ _ h => h) (Or.inl ⟨by rfl, ?hy11x134⟩) (by assumption) ?rest11x134
        case hy11x134 => (intro w0 hSw; go_simp; try with_reducible rfl)
        case rest11x134 =>
        try simp only [List.getElem_toArray, List.getElem_cons_zero, List.getElem_cons_succ, Act.put, List.setIfInBounds_toArray, List.set_cons_zero, List.set_cons_succ]
        refine wpAnyH_ready (rs := [12, 18]) (by kernel_rfl) (by simp) ?_
        refine AllReadyH.cons (o := _) rfl (fun K hK => ?step12x135) ?more12x135
        case step12x135 =>
          go_simp
          refine hK.out _ _ trivial (fun hHeld => ?_)
          clear hK K
          try simp only [List.getElem_toArray, List.getElem_cons_zero, List.getElem_cons_succ, Act.put, List.setIfInBounds_toArray, List.set_cons_zero, List.set_cons_succ]
          refine wpAnyH_ready (rs := [18]) (by kernel_rfl) (by simp) ?_
          refine AllReadyH.cons (o := _) rfl (fun K hK => ?step18x136) ?more18x136
          case step18x136 =>
            go_simp
            refine (HW.out.1 _).mono ?_
            rintro e w137 ⟨rfl, hT138⟩
            try go_wp2_with fail
            have T139 := T133.trans' hT138
            refine hK.out _ _ trivial (fun hHeld => ?_)
            clear hK K
            try simp only [List.getElem_toArray, List.getElem_cons_zero, List.getElem_cons_succ, Act.put, List.setIfInBounds_toArray, List.set_cons_zero, List.set_cons_succ]
            refine wpAnyH_take (i := 19) (oi := _) (v := ?v19x140) rfl (by kernel_rfl) (by kernel_rfl) (by kernel_rfl) (fun _ _ _ h => h) (Or.inl ⟨by rfl, ?hy19x140⟩) (by assumption) ?rest19x140
            case hy19x140 => (intro w0 hSw; go_simp; try with_reducible rfl)
            case rest19x140 =>
            try simp only [List.getElem_toArray, List.getElem_cons_zero, List.getElem_cons_succ, Act.put, List.setIfInBounds_toArray, List.set_cons_zero, List.set_cons_succ]
            refine wpAnyH_take (i := 20) (oi := _) (v := ?v20x141) rfl (by kernel_rfl) (by kernel_rfl) (by kernel_rfl) (fun _ _ _ h => h) (Or.inl ⟨by rfl, ?hy20x141⟩) (by assumption) ?rest20x141
            case hy20x141 => (intro w0 hSw; go_simp; try with_reducible rfl)
            case rest20x141 =>
            try simp only [List.getElem_toArray, List.getElem_cons_zero, List.getElem_cons_succ, Act.put, List.setIfInBounds_toArray, List.set_cons_zero, List.set_cons_succ]
            refine wpAnyH_done (by kernel_rfl) ?_ _
            have HT := Lib.hid T139
            go_wp2_with fail
            go_ret2
            exact ⟨rfl, HT.out⟩
          case more18x136 =>
          exact AllReadyH.nil
        case more12x135 =>
        refine AllReadyH.cons (o := _) rfl (fun K hK => ?step18x142) ?more18x142
        case step18x142 =>
          go_simp
          refine (HW.out.1 _).mono ?_
          rintro e w143 ⟨rfl, hT144⟩
          try go_wp2_with fail
          have T145 := T133.trans' hT144
          refine hK.out _ _ trivial (fun hHeld => ?_)
          clear hK K
          try simp only [List.getElem_toArray, List.getElem_cons_zero, List.getElem_cons_succ, Act.put, List.setIfInBounds_toArray, List.set_cons_zero, List.set_cons_succ]
          have k1460 := hT144.cell k1300 (by simp)
          have k1461 := hT144.cell k1301 (by simp)
          have k1462 := hT144.cell k1302 (by simp)
          have k1463 := hT144.cell k1303 (by simp)
          refine wpAnyH_ready (rs := [12]) (by kernel_rfl) (by simp) ?_
          refine AllReadyH.cons (o := _) rfl (fun K hK => ?step12x147) ?more12x147
          case step12x147 =>
            go_simp
            refine hK.out _ _ trivial (fun hHeld => ?_)
            clear hK K
            try simp only [List.getElem_toArray, List.getElem_cons_zero, List.getElem_cons_succ, Act.put, List.setIfInBounds_toArray, List.set_cons_zero, List.set_cons_succ]
            refine wpAnyH_take (i := 19) (oi := _) (v := ?v19x148) rfl (by kernel_rfl) (by kernel_rfl) (by kernel_rfl) (fun _ _ _ h => h) (Or.inl ⟨by rfl, ?hy19x148⟩) (by assumption) ?rest19x148
            case hy19x148 => (intro w0 hSw; go_simp; try with_reducible rfl)
            case rest19x148 =>
            try simp only [List.getElem_toArray, List.getElem_cons_zero, List.getElem_cons_succ, Act.put, List.setIfInBounds_toArray, List.set_cons_zero, List.set_cons_succ]
            refine wpAnyH_take (i := 20) (oi := _) (v := ?v20x149) rfl (by kernel_rfl) (by kernel_rfl) (by kernel_rfl) (fun _ _ _ h => h) (Or.inl ⟨by rfl, ?hy20x149⟩) (by assumption) ?rest20x149
            case hy20x149 => (intro w0 hSw; go_simp; try with_reducible rfl)
            case rest20x149 =>
            try simp only [List.getElem_toArray, List.getElem_cons_zero, List.getElem_cons_succ, Act.put, List.setIfInBounds_toArray, List.set_cons_zero, List.set_cons_succ]
            refine wpAnyH_done (by kernel_rfl) ?_ _
            have HT := Lib.hid T145
            go_wp2_with fail
            go_ret2
            exact ⟨rfl, HT.out⟩
          case more12x147 =>
          exact AllReadyH.nil
        case more18x142 =>
        exact AllReadyH.nil
      case more10x127 =>
      refine AllReadyH.cons (o := _) rfl (fun K hK => ?step18x150) ?more18x150
      case step18x150 =>
        go_simp
        refine (HW.out.1 _).mono ?_
        rintro e w151 ⟨rfl, hT152⟩
        try go_wp2_with fail
        have T153 := T126.trans' hT152
        refine hK.out _ _ trivial (fun hHeld => ?_)
        clear hK K
        try simp only [List.getElem_toArray, List.getElem_cons_zero, List.getElem_cons_succ, Act.put, List.setIfInBounds_toArray, List.set_cons_zero, List.set_cons_succ]
        refine wpAnyH_ready (rs := [10]) (by kernel_rfl) (by simp) ?_
        refine AllReadyH.cons (o := _) rfl (fun K hK => ?step10x154) ?more10x154
        case step10x154 =>
          obtain ⟨c155, cp159, e156, k1570, k1571, k1572, k1573, hT158⟩ := HW.out.2.2 (w151)
          go_simp
          have T160 := T153.trans' hT158
          refine hK.out _ _ trivial (fun hHeld => ?_)
          clear hK K
          try simp only [List.getElem_toArray, List.getElem_cons_zero, List.getElem_cons_succ, Act.put, List.setIfInBounds_toArray, List.set_cons_zero, List.set_cons_succ]
          refine wpAnyH_take (i := 11) (oi := _) (v := ?v11x161) rfl (by kernel_rfl) (by kernel_rfl) (by kernel_rfl) (fun _ _ _ h => h) (Or.inl ⟨by rfl, ?hy11x161⟩) (by assumption) ?rest11x161
          case hy11x161 => (intro w0 hSw; go_simp; try with_reducible rfl)
          case rest11x161 =>
          try simp only [List.getElem_toArray, List.getElem_cons_zero, List.getElem_cons_succ, Act.put, List.setIfInBounds_toArray, List.set_cons_zero, List.set_cons_succ]
          refine wpAnyH_ready (rs := [12]) (by kernel_rfl) (by simp) ?_
          refine AllReadyH.cons (o := _) rfl (fun K hK => ?step12x162) ?more12x162
          case step12x162 =>
            go_simp
            refine hK.out _ _ trivial (fun hHeld => ?_)
            clear hK K
            try simp only [List.getElem_toArray, List.getElem_cons_zero, List.getElem_cons_succ, Act.put, List.setIfInBounds_toArray, List.set_cons_zero, List.set_cons_succ]
            refine wpAnyH_take (i := 19) (oi := _) (v := ?v19x163) rfl (by kernel_rfl) (by kernel_rfl) (by kernel_rfl) (fun _ _ _ h => h) (Or.inl ⟨by rfl, ?hy19x163⟩) (by assumption) ?rest19x163
            case hy19x163 => (intro w0 hSw; go_simp; try with_reducible rfl)
            case rest19x163 =>
            try simp only [List.getElem_toArray, List.getElem_cons_zero, List.getElem_cons_succ, Act.put, List.setIfInBounds_toArray, List.set_cons_zero, List.set_cons_succ]
            refine wpAnyH_take (i := 20) (oi := _) (v := ?v20x164) rfl (by kernel_rfl) (by kernel_rfl) (by kernel_rfl) (fun _ _ _ h => h) (Or.inl ⟨by rfl, ?hy20x164⟩) (by assumption) ?rest20x164
            case hy20x164 => (intro w0 hSw; go_simp; try with_reducible rfl)
            case rest20x164 =>
            try simp only [List.getElem_toArray, List.getElem_cons_zero, List.getElem_cons_succ, Act.put, List.setIfInBounds_toArray, List.set_cons_zero, List.set_cons_succ]
            refine wpAnyH_done (by kernel_rfl) ?_ _
            have HT := Lib.hid T160
            go_wp2_with fail
            go_ret2
            exact ⟨rfl, HT.out⟩
          case more12x162 =>
          exact AllReadyH.nil
        case more10x154 =>
        exact AllReadyH.nil
      case more18x150 =>
      exact AllReadyH.nil
    case more17x123 =>
    exact AllReadyH.nil
  case more16x77 =>
  exact AllReadyH.nil
  -- END SCRIPT
end Go.Proofs.YtljgifbnmgpdbaaGreatDoor
