/- Layer 5 (seg): plain laws of a row that grows. No walk. (Here too: Layer 5 (seg): a segment's name. A disk as texts by names: what Create, Write and Sync turn. No walk. Layer 4 (disk): List of a head that no file has: an empty slice. Layer 4 (disk): List of a head that no file has: an empty slice. Layer 4 (disk): List of a head that no file has. Layer 4 (disk): the contracts of a disk's calls in the words of its texts by names. No walk. Layer 5 (seg): rows on a disk: name, fresh. Layer 5 (seg): fresh. Steps of regions; a row that gets one element more. No walk. Layer 5 (seg): fresh, where a segment is made.) -/
import Derived.Test.YtljgifbnmgpdbaaGreatDoorZc03
import Derived.Deep.RegionLaw
set_option linter.unusedSimpArgs false
set_option linter.unusedVariables false
set_option linter.unnecessarySimpa false
namespace Go.Proofs.YtljgifbnmgpdbaaGreatDoor
open Go Go.RowKit

/-- The one table of the library that is read: it lies below block 8, and is never written. -/
def Glob (w : World) : Prop := 8 ≤ w.heap.size ∧ Lib.TabIs Tryz.prog w "internal/strconv.uint64pow10" .u64 Lib.pow10Tab

theorem glob_at : Tryz.prog.globalNamed "internal/strconv.uint64pow10" = some 3 := by kernel_rfl

theorem Glob.touch {w w' : World} {F : List Nat} (h : Glob w) (hT : Touch F w w') (hF : ∀ b ∈ F, 8 ≤ b) : Glob w' := by
  obtain ⟨h8, ht⟩ := h
  refine ⟨Nat.le_trans h8 hT.size, ?_⟩
  unfold Lib.TabIs World.var? at *
  rw [glob_at] at ht ⊢
  simp only [Option.bind_some] at ht ⊢
  rw [hT.block 3 (by omega) (fun e => by have := hF 3 e; omega)]
  exact ht

theorem touch_grow (w : World) (k : Nat) (os : Array Obj) : Touch [] w (Sort.grow (w.drewN k) os) := by
  refine ⟨rfl, rfl, rfl, by simp [Sort.grow, World.drewN], fun i hi _ => ?_⟩
  simp only [Sort.grow, World.drewN]
  rw [Array.getElem?_append_left hi]

theorem digits_len {n : Nat} (h : n ≤ 99999999) : (Lib.decDigits n).length ≤ 8 := by
  have key : ∀ k m, m < 10 ^ (k + 1) → (Lib.decDigits m).length ≤ k + 1 := by
    intro k
    induction k with
    | zero =>
      intro m hm
      rw [Lib.decDigits]
      have : m < 10 := by simpa using hm
      simp [this]
    | succ k ih =>
      intro m hm
      rw [Lib.decDigits]
      by_cases h10 : m < 10
      · simp [h10]
      · simp only [h10, dite_false, List.length_append, List.length_cons, List.length_nil]
        have := ih (m / 10) (by rw [Nat.div_lt_iff_lt_mul (by omega)]; rw [Nat.pow_succ] at hm; exact hm)
        omega
  exact key 7 n (by omega)

def digits8 (n : Nat) : List UInt8 := List.replicate (8 - (Lib.decDigits n).length) 48 ++ Lib.decDigits n

theorem digits8_len {n : Nat} (h : n ≤ 99999999) : (digits8 n).length = 8 := by
  have := digits_len h
  simp [digits8]; omega

/-- A segment's name. -/
def segName (head : ByteArray) (at_ : Nat) : ByteArray := ⟨(head.data.toList ++ digits8 at_).toArray⟩

theorem repeatL_one (b : UInt8) : ∀ n, Lib.repeatL [b] n = List.replicate n b
  | 0 => rfl
  | n + 1 => by simp [Lib.repeatL, repeatL_one b n, List.replicate_succ]

set_option maxRecDepth 100000 in
set_option maxHeartbeats 800000 in
theorem name_ok (w : World) (hg : Glob w) (head : ByteArray) (at_ : Nat) (ha : at_ ≤ 99999999) (hh : head.size ≤ 1000) :
    Calls Tryz.prog 191 #[.string head, .int .i64 at_] w fun e w' => e = .returned (.tuple #[.string (segName head at_), .bool true]) ∧ Touch [] w w' := by
  have hlen := digits_len ha
  have B1 : (at_ : Int) ≤ 99999999 := by omega
  have hd : ((⟨(Lib.itoa (at_ : Int)).toArray⟩ : ByteArray)).size = (Lib.decDigits at_).length := by
    rw [Lib.itoa_nonneg]; rfl
  have HG := Lib.hid hg
  have HA := Lib.hid ha
  clear hg ha
  go_enter Tryz.func191, Tryz.ntmps191
  go_wp2_with fail
  refine (Tryz.strconv_Itoa (at_ : Int) (by omega) (by omega) w HG.out.2).mono ?_
  rintro e w1 ⟨rfl, k, os, rfl⟩
  have HT1 := Lib.hid (touch_grow w k os)
  generalize Sort.grow (w.drewN k) os = w1 at *
  obtain ⟨ds, hds⟩ : ∃ ds : ByteArray, ds = ⟨(Lib.itoa (at_ : Int)).toArray⟩ := ⟨_, rfl⟩
  rw [← hds] at hd ⊢
  have B2 : (ds.size : Int) ≤ 8 := by omega
  have HD := Lib.hid hd
  have HDS := Lib.hid hds
  clear hd hds hlen
  have hsub : ((8 : Int) - (ds.size : Int)) = ((8 - ds.size : Nat) : Int) := by omega
  go_wp2_with fail
  refine (Tryz.strings_Repeat ⟨#[48]⟩ (8 - ds.size) w1 (by omega) (by show 1 * _ ≤ _; omega)).mono ?_
  rintro e w2 ⟨rfl, hb⟩
  have HT2 := Lib.hid (HT1.out.trans' (Touch.of_below hb))
  clear hb
  have hrl : Lib.repeatL (⟨#[48]⟩ : ByteArray).data.toList (8 - ds.size) = List.replicate (8 - ds.size) 48 := repeatL_one 48 _
  rw [hrl]
  obtain ⟨zs, hzs⟩ : ∃ zs : ByteArray, zs = ⟨(List.replicate (8 - ds.size) (48 : UInt8)).toArray⟩ := ⟨_, rfl⟩
  rw [← hzs]
  have hz : zs.size = 8 - ds.size := by rw [hzs]; show (List.replicate _ _).toArray.size = _; simp
  have B3 : (zs.size : Int) ≤ 8 := by omega
  have B4 : (head.size : Int) ≤ 1000 := by omega
  have hfin : head ++ zs ++ ds = segName head at_ := by
    apply bytes_ext
    have h1 := HD.out
    rw [h1] at hzs
    rw [ByteArray.data_append, ByteArray.data_append, hzs, HDS.out, Lib.itoa_nonneg]
    simp [segName, digits8]
  have HF := Lib.hid hfin
  clear hzs hz hrl hfin hh hsub
  go_wp2_with fail
  go_ret2
  rw [← HF.out]
  exact ⟨rfl, HT2.out⟩
end Go.Proofs.YtljgifbnmgpdbaaGreatDoor

namespace Go.Proofs.YtljgifbnmgpdbaaGreatDoor
open Go Go.RowKit

def DiskM.view (D : DiskM) (s : ByteArray) : Option ByteArray := (D.look s).map (·.now)

theorem look_of_mem {D : DiskM} (hn : (D.files.map (·.name)).Nodup) {f : FileM} (hf : f ∈ D.files) : D.look f.name = some f := by
  unfold DiskM.look
  generalize D.files = l at *
  induction l with
  | nil => cases hf
  | cons g l ih =>
    simp only [List.map_cons, List.nodup_cons] at hn
    simp only [List.find?_cons]
    rcases List.mem_cons.1 hf with rfl | hf'
    · simp
    · have : g.name ≠ f.name := fun e => hn.1 (by rw [e]; exact List.mem_map_of_mem hf')
      simp [this, ih hn.2 hf']

theorem find_congr' {α : Type} {p q : α → Bool} {l : List α} (h : ∀ x ∈ l, p x = q x) : l.find? p = l.find? q := by
  induction l with
  | nil => rfl
  | cons a l ih =>
    simp only [List.find?_cons, h a (by simp), ih fun x hx => h x (by simp [hx])]

/-- Files turned one by one, names kept. -/
theorem look_map {l : List FileM} {g : FileM → FileM} (hg : ∀ f ∈ l, (g f).name = f.name) (s : ByteArray) : (l.map g).find? (fun f => decide (f.name = s)) = (l.find? fun f => decide (f.name = s)).map g := by
  rw [List.find?_map]
  congr 1
  exact find_congr' fun f hf => by simp [hg f hf]

theorem look_write {D : DiskM} {f : FileM} (hf : D.look f.name = some f) (hb : (D.files.map (·.blk)).Nodup) (at_ : Nat) (x s : ByteArray) : (D.write f at_ x).look s = if s = f.name then some { f with now := laidB f.now at_ x } else D.look s := by
  have hfm := (DiskM.look_mem hf).1
  have h1 : (D.write f at_ x).look s = (D.look s).map fun g => if g.blk = f.blk then { g with now := laidB f.now at_ x } else g := by
    unfold DiskM.look DiskM.write DiskM.setNow
    exact look_map (fun g _ => by split <;> rfl) s
  rw [h1]
  by_cases hs : s = f.name
  · subst hs; simp [hf]
  · rw [if_neg hs]
    cases hl : D.look s with
    | none => rfl
    | some g =>
      obtain ⟨hgm, hgn⟩ := DiskM.look_mem hl
      have : g.blk ≠ f.blk := by
        intro e
        have := map_inj hb hgm hfm e
        subst this; exact hs hgn.symm
      simp [this]

theorem look_create {D : DiskM} {n : ByteArray} (hn : D.look n = none) (b : Nat) (s : ByteArray) : (D.create n b).look s = if s = n then some ⟨n, b, noBytes, noBytes⟩ else D.look s := by
  unfold DiskM.look DiskM.create at *
  simp only [List.find?_append]
  by_cases hs : s = n
  · subst hs; rw [hn]; simp
  · rw [if_neg hs]
    have : ¬ n = s := fun e => hs e.symm
    simp [this]

theorem look_last1' {D : DiskM} (f : FileM) (s : ByteArray) : (D.last1 f).look s = (D.look s).map fun g => if g.blk = f.blk then { g with image := g.now } else g := by
  unfold DiskM.look DiskM.last1
  exact look_map (fun g _ => by split <;> rfl) s

theorem view_last1 {D : DiskM} (f : FileM) (s : ByteArray) : (D.last1 f).view s = D.view s := by
  unfold DiskM.view
  rw [look_last1']
  cases D.look s with
  | none => rfl
  | some g => simp only [Option.map_some]; split <;> rfl

theorem view_lasts (D : DiskM) (ss : List ByteArray) (s : ByteArray) : (D.lasts ss).view s = D.view s := by
  unfold DiskM.lasts
  induction ss generalizing D with
  | nil => rfl
  | cons x ss ih =>
    simp only [List.foldl_cons, ih]
    unfold DiskM.lastOf
    split
    · exact view_last1 _ _
    · rfl

theorem lasts_cap (D : DiskM) (ss : List ByteArray) : (D.lasts ss).cap = D.cap := by
  unfold DiskM.lasts
  induction ss generalizing D with
  | nil => rfl
  | cons x ss ih => simp only [List.foldl_cons, ih]; unfold DiskM.lastOf; split <;> rfl

theorem lasts_waits (D : DiskM) (ss : List ByteArray) : (D.lasts ss).waits.length ≤ D.waits.length := by
  unfold DiskM.lasts
  induction ss generalizing D with
  | nil => exact Nat.le_refl _
  | cons x ss ih =>
    simp only [List.foldl_cons]
    refine Nat.le_trans (ih _) ?_
    unfold DiskM.lastOf
    split
    · exact List.length_filter_le _ _
    · exact Nat.le_refl _

theorem last1_total (D : DiskM) (f : FileM) : (D.last1 f).total = D.total := by
  unfold DiskM.total DiskM.last1
  simp only [List.map_map]
  congr 1
  apply List.map_congr_left
  intro g _
  simp only [Function.comp_apply]; split <;> rfl

theorem lasts_total (D : DiskM) (ss : List ByteArray) : (D.lasts ss).total = D.total := by
  unfold DiskM.lasts
  induction ss generalizing D with
  | nil => rfl
  | cons x ss ih =>
    simp only [List.foldl_cons, ih]
    unfold DiskM.lastOf
    split
    · exact last1_total _ _
    · rfl

theorem lasts_blks (D : DiskM) (ss : List ByteArray) : (D.lasts ss).files.map (·.blk) = D.files.map (·.blk) := by
  unfold DiskM.lasts
  induction ss generalizing D with
  | nil => rfl
  | cons x ss ih =>
    simp only [List.foldl_cons, ih]
    unfold DiskM.lastOf
    split
    · exact last1_blks _ _
    · rfl

theorem create_total (D : DiskM) (n : ByteArray) (b : Nat) : (D.create n b).total = D.total := by
  unfold DiskM.total DiskM.create
  simp [noBytes]; rfl

theorem laid_size {s over : ByteArray} {at_ : Nat} (ha : at_ ≤ s.size) : (laidB s at_ over).size = max s.size (at_ + over.size) := by
  show (List.toArray _).size = _
  simp only [List.size_toArray, List.length_append, List.length_take, List.length_drop, bytes_len]
  omega

theorem sum_set {l : List FileM} {b : Nat} (hn : (l.map (·.blk)).Nodup) {f : FileM} (hf : f ∈ l) (hb : f.blk = b) (x : ByteArray) : ((l.map fun g => if g.blk = b then { g with now := x } else g).map (·.now.size)).sum + f.now.size = (l.map (·.now.size)).sum + x.size := by
  induction l with
  | nil => cases hf
  | cons g l ih =>
    simp only [List.map_cons, List.nodup_cons] at hn
    simp only [List.map_cons, List.sum_cons]
    rcases List.mem_cons.1 hf with rfl | hf'
    · have hrest : (l.map fun g => if g.blk = b then { g with now := x } else g) = l := by
        conv => rhs; rw [← List.map_id l]
        apply List.map_congr_left
        intro g hg
        have : g.blk ≠ b := fun e => hn.1 (by rw [hb, ← e]; exact List.mem_map_of_mem hg)
        simp [this]
      rw [hrest]
      simp only [hb, if_true]
      omega
    · have hgb : g.blk ≠ b := fun e => hn.1 (by rw [e, ← hb]; exact List.mem_map_of_mem hf')
      have := ih hn.2 hf'
      simp only [hgb, if_false]
      omega

theorem write_total {D : DiskM} {f : FileM} (hf : D.look f.name = some f) (hb : (D.files.map (·.blk)).Nodup) {at_ : Nat} {x : ByteArray} (ha : at_ ≤ f.now.size) : (D.write f at_ x).total = D.total + (max f.now.size (at_ + x.size) - f.now.size) := by
  have hfm := (DiskM.look_mem hf).1
  have h1 := sum_set hb hfm rfl (laidB f.now at_ x)
  rw [laid_size ha] at h1
  have h2 : (D.write f at_ x).total = ((D.files.map fun g => if g.blk = f.blk then { g with now := laidB f.now at_ x } else g).map (·.now.size)).sum := rfl
  have h3 : D.total = (D.files.map (·.now.size)).sum := rfl
  rw [h2, h3]
  have h4 : f.now.size ≤ max f.now.size (at_ + x.size) := Nat.le_max_left _ _
  omega

theorem write_blks (D : DiskM) (f : FileM) (at_ : Nat) (x : ByteArray) : (D.write f at_ x).files.map (·.blk) = D.files.map (·.blk) := setNow_blks _ _ _

theorem segName_inj {h1 h2 : ByteArray} {p q : Nat} (hp : p ≤ 99999999) (hq : q ≤ 99999999) (e : segName h1 p = segName h2 q) : h1 = h2 ∧ digits8 p = digits8 q := by
  have e1 : h1.data.toList ++ digits8 p = h2.data.toList ++ digits8 q := by
    have := congrArg (fun x : ByteArray => x.data.toList) e
    simpa [segName] using this
  have hl : (digits8 p).length = (digits8 q).length := by rw [digits8_len hp, digits8_len hq]
  have := List.append_inj' e1 hl
  exact ⟨bytes_ext this.1, this.2⟩
end Go.Proofs.YtljgifbnmgpdbaaGreatDoor

namespace Go.Proofs.YtljgifbnmgpdbaaGreatDoor
open Go Go.RowKit Go.Maps

def nilR : Value → Option (DataW Unit × List MemPlace) := fun _ => some (.nil, [])

/-- The disk's map, in the words of the shelf. -/
theorem DiskIn.ownsMap {w : World} {d m : Nat} {wv : Value} {D : DiskM} (h : DiskIn w d m wv D) (hl : D.files.length ≤ 1000000) (hn : ∀ f ∈ D.files, f.name.size ≤ 1000) :
    ∃ D0 : DataW Unit, w.ownsMap Tryz.prog 9 nilR m D.files.length D0 ∧ (strKeys D0).Perm (D.files.map fun f => f.name.data.toList) ∧ Maps.size D0 = D.files.length := by
  obtain ⟨es, clock, hm, hes, hb, hc⟩ := h.map.ex
  have hlen : es.size = D.files.length := by
    have := congrArg List.length hes
    simpa [fileMap] using this
  have hkeys : es.toList.map (·.key) = D.files.map fun f => strKey f.name := by
    have := congrArg (List.map Prod.fst) hes
    simpa [fileMap, List.map_map, Function.comp_def] using this
  have hkey : ∀ x ∈ es.toList, ∃ f ∈ D.files, x.key = .string f.name := by
    intro x hx
    have : x.key ∈ es.toList.map (·.key) := List.mem_map_of_mem hx
    rw [hkeys] at this
    obtain ⟨f, hf, e⟩ := List.mem_map.1 this
    exact ⟨f, hf, e.symm⟩
  have hrd : ∀ x ∈ es.toList, ∀ f : FileM, f ∈ D.files → x.key = .string f.name → WideElems.rd Tryz.prog 9 nilR x = some (.string f.name.data.toList, .nil) := by
    intro x hx f hf e
    have := WideElems.rd_mk (R := nilR) (val := x.val) (born := x.born) (WideMaps.keyOf_string_mk Tryz.underlying9 (s := f.name) (by have := hn f hf; unfold maxLen; omega)) rfl
    rw [← e] at this
    exact this
  refine ⟨.map ((es.toList.map (WideElems.rg Tryz.prog 9 nilR)).foldr DataW.insert []), ⟨es, clock, hm, ⟨by rw [hlen]; unfold maxLen; omega, ⟨hc, hb, ?_⟩, ?_⟩, by omega, rfl⟩, ?_, ?_⟩
  · rw [hkeys]
    have := h.names
    have h2 : (D.files.map fun f => strKey f.name) = (D.files.map (·.name)).map strKey := by simp
    rw [h2]
    exact List.Pairwise.map _ (fun a b hab e => hab (by injection e)) this
  · intro x hx
    obtain ⟨f, hf, e⟩ := hkey x hx
    exact ⟨_, hrd x hx f hf e⟩
  · have hp := WideShapes.sorted_perm (es.toList.map (WideElems.rg Tryz.prog 9 nilR))
    have h3 : (strKeys (.map ((es.toList.map (WideElems.rg Tryz.prog 9 nilR)).foldr DataW.insert []) : DataW Unit)).Perm ((es.toList.map (WideElems.rg Tryz.prog 9 nilR)).map fun p => strOf p.1) := hp.map _
    refine h3.trans (List.Perm.of_eq ?_)
    have h4 : ∀ x ∈ es.toList, ∀ bs : List UInt8, x.key = .string ⟨bs.toArray⟩ → strOf (WideElems.rg Tryz.prog 9 nilR x).1 = bs := by
      intro x hx bs e
      obtain ⟨f, hf, e2⟩ := hkey x hx
      rw [WideElems.rg_of (hrd x hx f hf e2)]
      rw [e] at e2
      injection e2 with e2
      show f.name.data.toList = bs
      rw [← e2]
    have h5 : es.toList.map (·.key) = (D.files.map fun f => f.name.data.toList).map fun bs => .string ⟨bs.toArray⟩ := by
      rw [hkeys, List.map_map]
      rfl
    generalize (D.files.map fun f => f.name.data.toList) = l at h5 ⊢
    generalize es.toList = es at h4 h5
    clear hp h3 hrd hkey hkeys hlen hes hb hc hm
    induction es generalizing l with
    | nil => cases l with
      | nil => rfl
      | cons _ _ => simp at h5
    | cons x es ih => cases l with
      | nil => simp at h5
      | cons b l =>
        simp only [List.map_cons, List.cons.injEq] at h5 ⊢
        refine ⟨h4 x (by simp) b h5.1, ih _ (fun y hy => h4 y (by simp [hy])) h5.2⟩
  · show (List.foldr DataW.insert [] _).length = _
    rw [length_sorted]
    simp [hlen]
end Go.Proofs.YtljgifbnmgpdbaaGreatDoor

namespace Go.Proofs.YtljgifbnmgpdbaaGreatDoor
open Go Go.RowKit Go.Maps

set_option maxRecDepth 100000 in
set_option maxHeartbeats 800000 in
theorem list1_ok (w : World) (s head : ByteArray) (c : Nat) (hc : w.cell? ⟨c, 0, none⟩ = some (.string head)) :
    Calls Tryz.prog 175 #[.string s, .pointer (some ⟨c, 0, none⟩)] w fun e w' => e = .returned (.bool (!Lib.hasPrefix s.data.toList head.data.toList)) ∧ Touch [] w w' := by
  go_enter Tryz.func175, Tryz.ntmps175
  go_wp2_with (go_at_call 176; refine (Tryz.strings_HasPrefix s head _).mono ?_; rintro e w' ⟨rfl, rfl⟩)
  go_ret
  exact ⟨rfl, Touch.refl _ _⟩

set_option maxRecDepth 100000 in
set_option maxHeartbeats 800000 in
theorem indexS_nil (w : World) (a : Option Addr) (cap : Nat) (fv : Value) :
    Calls Tryz.prog 230 #[.slice a 0 cap, fv] w fun e w' => e = .returned (.int .i64 (-1)) ∧ w = w' := by
  go_enter Tryz.func230, Tryz.ntmps230
  go_wp2
  go_loopg [8] 0 (fun k i wr => i = .int .i64 0 ∧ w = wr)
  case atStart => exact ⟨rfl, rfl⟩
  case round =>
    obtain ⟨rfl, rfl⟩ := hrel
    go_wp2
    go_ret
    exact ⟨rfl, rfl⟩

set_option maxRecDepth 100000 in
set_option maxHeartbeats 800000 in
theorem indexS_first (w : World) (g n cap c : Nat) (s head : ByteArray) (hn : 0 < n) (hs : w.cell? ⟨g, 0, none⟩ = some (.string s)) (hc : w.cell? ⟨c, 0, none⟩ = some (.string head)) (hno : Lib.hasPrefix s.data.toList head.data.toList = false) :
    Calls Tryz.prog 230 #[.slice (some ⟨g, 0, none⟩) n cap, .func (.func 175) #[] #[.pointer (some ⟨c, 0, none⟩)]] w
      fun e w' => e = .returned (.int .i64 0) ∧ Touch [] w w' := by
  have hd : (!Lib.hasPrefix s.data.toList head.data.toList) = true := by simp [hno]
  have HN := Lib.hid hno
  clear hno
  go_enter Tryz.func230, Tryz.ntmps230
  go_wp2
  go_loopg [8] 0 (fun k i wr => i = .int .i64 0 ∧ w = wr)
  case atStart => exact ⟨rfl, rfl⟩
  case round =>
    obtain ⟨rfl, rfl⟩ := hrel
    go_wp2_with fail
    refine (list1_ok w s head c hc).mono ?_
    rintro e w1 ⟨rfl, hT1⟩
    go_wp2
    go_ret
    exact ⟨rfl, hT1⟩

theorem zero_str : ∀ v ∈ (Value.string ⟨#[]⟩).cells.toList, v.oneCell' = true := by simp [Value.cells, Value.oneCell']
theorem info_str : (Tryz.prog.info? 9).map (fun i => (i.size, i.zero)) = some (1, some (.string ⟨#[]⟩)) := by kernel_rfl
theorem flat_one {α β : Type} (f : α → β) : ∀ l : List α, (l.flatMap fun s => [f s]) = l.map f
  | [] => rfl
  | a :: l => by rw [List.flatMap_cons, flat_one f l]; rfl
theorem encs1 (s : List UInt8) : [Proofs.encStr s].length = 1 := rfl

set_option maxRecDepth 100000 in
set_option maxHeartbeats 1600000 in
theorem deleteS_none (w : World) (l : List (List UInt8)) (v : Value) (c : Nat) (head : ByteArray) (ho : w.ownsRow 0 9 1 v l.length (l.map Proofs.encStr)) (hl : l.length < 10000000) (hc : w.cell? ⟨c, 0, none⟩ = some (.string head))
    (hf : ∀ x ∈ l, Lib.hasPrefix x head.data.toList = false) (hcg : ∀ g, v.ownBlock = some g → c ≠ g) :
    Calls Tryz.prog 174 #[v, .func (.func 175) #[] #[.pointer (some ⟨c, 0, none⟩)]] w
      fun e w' => ∃ a cp, e = .returned (.slice a 0 cp) ∧ Touch v.ownBlock.toList w w' := by
  obtain ⟨iw, hiw, hz⟩ := Option.map_eq_some_iff.1 info_str
  simp only [Prod.mk.injEq] at hz
  obtain ⟨hz1, hz2⟩ := hz
  have HI := Lib.hid (And.intro hiw (And.intro hz1 hz2))
  clear hiw hz1 hz2
  rcases ho.2 with ⟨rfl, h0⟩ | ⟨g, cap, cur, rfl, _⟩
  · clear ho hf hl
    go_enter Tryz.func174, Tryz.ntmps174
    go_wp2_with fail
    refine (indexS_nil _ _ _ _).mono ?_
    rintro e w1 ⟨rfl, rfl⟩
    go_wp2
    go_ret
    exact ⟨_, _, rfl, Touch.refl _ _⟩
  · rcases Nat.eq_zero_or_pos l.length with h0 | h0
    · rw [h0] at ho ⊢
      clear hf hl
      go_enter Tryz.func174, Tryz.ntmps174
      go_wp2_with fail
      refine (indexS_nil _ _ _ _).mono ?_
      rintro e w1 ⟨rfl, rfl⟩
      go_wp2
      go_ret
      exact ⟨_, _, rfl, Touch.refl _ _⟩
    · have hcg' : c ≠ g := hcg g rfl
      have ho' : w.ownsRow 0 9 1 (.slice (some ⟨g, 0, none⟩) l.length cap) l.length (l.flatMap fun s => [Proofs.encStr s]) := by
        have : (l.flatMap fun s => [Proofs.encStr s]) = l.map Proofs.encStr := flat_one _ _
        rw [this]; exact ho
      have hs0 : w.cell? ⟨g, 0, none⟩ = some (.string ⟨l[0].toArray⟩) := row_cell (f := fun s => [Proofs.encStr s]) encs1 ho' (j := 0) h0 (i := 0) (by omega) rfl
      have hno0 : Lib.hasPrefix (⟨l[0].toArray⟩ : ByteArray).data.toList head.data.toList = false := hf _ (List.getElem_mem h0)
      have HO := Lib.hid ho'
      have HF := Lib.hid hf
      clear ho ho' hf hcg
      go_enter Tryz.func174, Tryz.ntmps174
      go_wp2_with fail
      refine (indexS_first w g l.length cap c _ head h0 hs0 hc hno0).mono ?_
      rintro e w1 ⟨rfl, hT1⟩
      have HT1 := Lib.hid hT1
      clear hs0 hno0 hT1
      go_wp2_with fail
      go_loopg [5, 6] (l.length - 1) (fun k vi vj wr => ∃ (j : Nat), j + k = l.length ∧ vj = .int .i64 j ∧ vi = .int .i64 0 ∧ Touch [] w wr)
      case atStart => exact ⟨1, by omega, by go_num, rfl, HT1.out⟩
      case round =>
        obtain ⟨j, hj, rfl, rfl, hT⟩ := hrel
        have HJ := Lib.hid hj
        clear hj
        by_cases hlt : j < l.length
        · have hcr := hT.cell hc (by simp)
          have c0 : wr.cell? ⟨g, j, none⟩ = some (.string ⟨l[j].toArray⟩) := by
            have := hT.cell (row_cell (f := fun s => [Proofs.encStr s]) encs1 HO.out (j := j) hlt (i := 0) (by omega) rfl) (by simp)
            simpa only [Nat.mul_one, Nat.add_zero] using this
          have hno := HF.out _ (List.getElem_mem hlt)
          generalize hx : (⟨l[j].toArray⟩ : ByteArray) = x at c0
          have hnx : Lib.hasPrefix x.data.toList head.data.toList = false := by rw [← hx]; simpa using hno
          have hd : (!Lib.hasPrefix x.data.toList head.data.toList) = true := by simp [hnx]
          have HN := Lib.hid hnx
          have HTT := Lib.hid hT
          clear hx hno hnx
          go_wp2_with fail
          refine (list1_ok _ x head c hcr).mono ?_
          rintro e w2 ⟨rfl, hT2⟩
          have HT2 := Lib.hid hT2
          clear hT2
          go_wp2_with fail
          go_roundg (l.length - (j + 1))
          case measure => have := HJ.out; omega
          case rel => exact ⟨j + 1, by have := HJ.out; omega, by go_num, rfl, HTT.out.trans' HT2.out⟩
        · have hjl : j = l.length := by have := HJ.out; omega
          subst hjl
          have hown := ownsRow_other HO.out (fun b hb => hT.block b (HO.out.lt b hb).2 (by simp))
          obtain ⟨w2, hclr2, hown2, hT2⟩ := run_clear_row (P := Tryz.prog) (ty := 0) Tryz.underlying44 HI.out.1 HI.out.2.2 HI.out.2.1 rfl zero_str hown (Nat.zero_le _) (cap - 0)
          have hcap : l.length ≤ cap := (row_heap HO.out).choose_spec.2.1
          have hcut := run_cut_from (P := Tryz.prog) Tryz.underlying44 HI.out.1 HI.out.2.1 wr g 0 l.length cap 0 (Nat.zero_le _) (by omega) .i64
          have hcut2 := run_cut_to (P := Tryz.prog) Tryz.underlying44 HI.out.1 w2 (some ⟨g, 0, none⟩) l.length cap 0 (by omega) .i64
          simp only [Nat.zero_mul, Nat.zero_add] at hcut hclr2
          have HC := Lib.hid hclr2
          have HFIN := Lib.hid (hT.nil.trans' hT2)
          clear hown hown2 hT2 hclr2 hT
          go_wp2_with ((refine wpList_clear_run rfl _ _ rfl rfl HC.out ?_))
          go_ret
          exact ⟨_, _, rfl, HFIN.out⟩
end Go.Proofs.YtljgifbnmgpdbaaGreatDoor

namespace Go.Proofs.YtljgifbnmgpdbaaGreatDoor
open Go Go.RowKit Go.Maps

theorem ownsRow_low {w : World} {base e s n : Nat} {v : Value} {xs : List Value} (h : w.ownsRow base e s v n xs) : w.ownsRow 0 e s v n xs := by
  obtain ⟨h1, h2⟩ := h
  refine ⟨h1, ?_⟩
  rcases h2 with h2 | ⟨g, cap, cur, rfl, hb, rest⟩
  · exact .inl h2
  · exact .inr ⟨g, cap, cur, rfl, Nat.zero_le _, rest⟩

/-- No file's name has the head. -/
def DiskM.free (D : DiskM) (head : ByteArray) : Prop := ∀ f ∈ D.files, Lib.hasPrefix f.name.data.toList head.data.toList = false
/-- The disk is small. -/
structure DiskM.small (D : DiskM) : Prop where
  files : D.files.length ≤ 1000000
  names : ∀ f ∈ D.files, f.name.size ≤ 1000

set_option maxRecDepth 100000 in
set_option maxHeartbeats 800000 in
theorem list_none (w : World) (d m : Nat) (wv : Value) (D : DiskM) (h : DiskIn w d m wv D) (hs : D.small) (head : ByteArray) (hf : D.free head) :
    Calls Tryz.prog 121 #[.pointer (some ⟨d, 0, none⟩), .string head] w fun e w' => ∃ a cp, e = .returned (.slice a 0 cp) ∧ Touch [] w w' := by
  have HD := Lib.hid h
  obtain ⟨-, -, c2, -, -⟩ := h.cells
  have HF := Lib.hid (And.intro hs hf)
  have hdl := lt_of_heap h.head
  clear h hs hf
  go_enter Tryz.func121, Tryz.ntmps121
  go_wp2_with fail
  have h0 : (w.alloc (.cells #[.string head] 9)).heap[w.heap.size]? = some (.cells #[.string head] 9 (0, 0)) := heap_alloc_at w _
  have hT0 : Touch [] w (w.alloc (.cells #[.string head] 9)) := (Touch.refl [] w).alloc _
  generalize w.alloc (.cells #[.string head] 9) = w0 at *
  have hc2 := hT0.cell c2 (by simp)
  have HD0 := Lib.hid (HD.out.touch hT0 (by simp))
  have H0 := Lib.hid h0
  have HT0 := Lib.hid hT0
  clear hT0 c2 h0
  go_wp2_with fail
  refine (callsIn_wide.1 (Tryz.maps_Keys_173 (some m) w0)).mono ?_
  rintro e w1 ⟨rfl, rfl⟩
  go_wp2_with fail
  obtain ⟨D0, hown, hperm, hsize⟩ := HD0.out.ownsMap HF.out.1.files HF.out.1.names
  have HP := Lib.hid hperm
  have hfl := HF.out.1.files
  have HS := Lib.hid (And.intro hsize hfl)
  refine (callsIn_wide.1 (Tryz.slices_Sorted_keys_172_173 m D.files.length D0 nilR w0 hown (by rw [hsize]; unfold maxLen; omega) (by rw [hsize]; omega))).mono ?_
  rintro e w1 ⟨v, ss, rfl, hss, hrow, -, hb⟩
  have hT1 : Touch [] w0 w1 := ((Touch.refl [] w0).alloc _).trans' (Touch.of_below hb)
  have HROW := Lib.hid hrow
  have HT1 := Lib.hid hT1
  have HSS := Lib.hid hss
  have hbl : ∀ b, v.ownBlock = some b → w0.heap.size < b := by
    intro b hb
    have := (hrow.lt b hb).1
    simp only [World.alloc, Array.size_push] at this
    omega
  have HBL := Lib.hid hbl
  clear hrow hss hb hown hperm hsize hfl hT1 hbl
  go_wp2_with fail
  have hlen : (ss.mergeSort (fun x y => decide (x ≤ y))).length = ss.length := List.length_mergeSort _
  have hsl : ss.length = D.files.length := by
    have := (HSS.out.trans HP.out).length_eq
    simpa using this
  have hmem : ∀ x ∈ ss.mergeSort (fun x y => decide (x ≤ y)), Lib.hasPrefix x head.data.toList = false := by
    intro x hx
    have : x ∈ D.files.map fun f => f.name.data.toList := (HP.out.mem_iff).1 (HSS.out.mem_iff.1 ((List.mem_mergeSort).1 hx))
    obtain ⟨f, hf, rfl⟩ := List.mem_map.1 this
    exact HF.out.2 f hf
  have hc := HT1.out.heap H0.out (by simp)
  refine (deleteS_none w1 (ss.mergeSort (fun x y => decide (x ≤ y))) v w.heap.size head ?_ (by rw [hlen, hsl]; have := HS.out.2; omega) (cell_of hc 0 _ rfl) hmem ?_).mono ?_
  · rw [hlen]; exact ownsRow_low HROW.out
  · intro g hg e
    have h1 := HBL.out g hg
    have h2 := lt_of_heap H0.out
    omega
  · rintro e w2 ⟨a, cp, rfl, hT2⟩
    go_wp2_with fail
    go_ret
    refine ⟨_, _, rfl, HT0.out.trans' (HT1.out.trans hT2 ?_)⟩
    intro x hx
    have := HBL.out x (by simpa using hx)
    exact .inr (by omega)
end Go.Proofs.YtljgifbnmgpdbaaGreatDoor

namespace Go.Proofs.YtljgifbnmgpdbaaGreatDoor
open Go Go.RowKit

/-- Of a footprint that grew: new blocks are new. -/
def Grew (n : Nat) (F F' : List Nat) : Prop := ∀ b ∈ F', b ∈ F ∨ n ≤ b
theorem Grew.refl (n : Nat) (F : List Nat) : Grew n F F := fun _ h => .inl h
theorem Grew.trans {n m : Nat} {F G H : List Nat} (h : Grew n F G) (k : Grew m G H) (hm : n ≤ m) : Grew n F H := by
  intro b hb
  rcases k b hb with h1 | h1
  · exact h b h1
  · exact .inr (Nat.le_trans hm h1)
/-- What lay apart lies apart. -/
theorem Grew.apart {n : Nat} {F F' G : List Nat} (h : Grew n F F') (hG : ∀ b ∈ G, b < n) (ha : ∀ b ∈ G, b ∉ F) : ∀ b ∈ G, b ∉ F' := by
  intro b hb hF
  rcases h b hF with h1 | h1
  · exact ha b hb h1
  · have := hG b hb; omega

def setV (V : ByteArray → Option ByteArray) (n x : ByteArray) : ByteArray → Option ByteArray := fun s => if s = n then some x else V s
theorem setV_at (V : ByteArray → Option ByteArray) (n x : ByteArray) : setV V n x n = some x := by simp [setV]
theorem setV_ne (V : ByteArray → Option ByteArray) {n s : ByteArray} (x : ByteArray) (h : s ≠ n) : setV V n x s = V s := by simp [setV, h]

/-- A disk that stands: its blocks, its texts, its capacity, how many bytes lie on it; q bounds its files and waits. -/
def DiskV (w : World) (d : Nat) (F : List Nat) (V : ByteArray → Option ByteArray) (cap tot q : Nat) : Prop :=
  ∃ m wv D, DiskIn w d m wv D ∧ F = diskFoot d m wv D ∧ D.view = V ∧ D.cap = cap ∧ D.total = tot ∧ D.waits.length ≤ q ∧ D.files.length ≤ q ∧ (∀ f ∈ D.files, f.name.size ≤ 1000) ∧ tot ≤ cap ∧ cap ≤ 16777216

section
variable {w : World} {d : Nat} {F : List Nat} {V : ByteArray → Option ByteArray} {cap tot q : Nat}

theorem DiskV.lt (h : DiskV w d F V cap tot q) : ∀ b ∈ F, b < w.heap.size := by
  obtain ⟨m, wv, D, h, rfl, -⟩ := h; exact h.lt
theorem DiskV.low (h : DiskV w d F V cap tot q) : ∀ b ∈ F, 8 ≤ b := by
  obtain ⟨m, wv, D, h, rfl, -⟩ := h; exact h.low
theorem DiskV.self (h : DiskV w d F V cap tot q) : d ∈ F := by
  obtain ⟨m, wv, D, h, rfl, -⟩ := h; simp [diskFoot]
theorem DiskV.touch {w' : World} {G : List Nat} (h : DiskV w d F V cap tot q) (hT : Touch G w w') (hG : ∀ b ∈ F, b ∉ G) : DiskV w' d F V cap tot q := by
  obtain ⟨m, wv, D, h, rfl, rest⟩ := h; exact ⟨m, wv, D, h.touch hT hG, rfl, rest⟩
theorem DiskV.quiet {w' : World} (h : DiskV w d F V cap tot q) (hT : Touch [] w w') : DiskV w' d F V cap tot q := h.touch hT (by simp)
theorem DiskV.le (h : DiskV w d F V cap tot q) : tot ≤ cap ∧ cap ≤ 16777216 := by
  obtain ⟨m, wv, D, -, -, -, -, -, -, -, -, h⟩ := h; exact h
theorem DiskV.mono (h : DiskV w d F V cap tot q) {q' : Nat} (hq : q ≤ q') : DiskV w d F V cap tot q' := by
  obtain ⟨m, wv, D, h1, h2, h3, h4, h5, h6, h7, h8⟩ := h
  exact ⟨m, wv, D, h1, h2, h3, h4, h5, Nat.le_trans h6 hq, Nat.le_trans h7 hq, h8⟩

theorem view_look {D : DiskM} {s x : ByteArray} (h : D.view s = some x) : ∃ f, D.look s = some f ∧ f.now = x ∧ f.name = s := by
  unfold DiskM.view at h
  obtain ⟨f, hf, rfl⟩ := Option.map_eq_some_iff.1 h
  exact ⟨f, hf, rfl, (DiskM.look_mem hf).2⟩
theorem view_none {D : DiskM} {s : ByteArray} (h : D.view s = none) : D.look s = none := by
  unfold DiskM.view at h; simpa using h

theorem view_write {D : DiskM} {f : FileM} {s : ByteArray} (hf : D.look s = some f) (hb : (D.files.map (·.blk)).Nodup) (at_ : Nat) (x : ByteArray) : (D.write f at_ x).view = setV D.view s (laidB f.now at_ x) := by
  have hn := (DiskM.look_mem hf).2
  funext t
  unfold DiskM.view setV
  rw [look_write (by rw [hn]; exact hf) hb, hn]
  by_cases e : t = s
  · subst e; simp
  · simp [e]
theorem view_create {D : DiskM} {n : ByteArray} (hn : D.look n = none) (b : Nat) : (D.create n b).view = setV D.view n noBytes := by
  funext t
  unfold DiskM.view setV
  rw [look_create hn]
  by_cases e : t = n
  · subst e; simp
  · simp [e]

theorem now_le_total {D : DiskM} {s : ByteArray} {f : FileM} (h : D.look s = some f) : f.now.size ≤ D.total := by
  have := (DiskM.look_mem h).1
  unfold DiskM.total
  generalize D.files = l at this
  induction l with
  | nil => cases this
  | cons g l ih =>
    simp only [List.map_cons, List.sum_cons]
    rcases List.mem_cons.1 this with rfl | h1
    · omega
    · have := ih h1; omega

/-- Write. -/
theorem writeV_ok (h : DiskV w d F V cap tot q) (name s x : ByteArray) (at_ : Nat) (hx : V name = some x) (ha : at_ ≤ x.size) (hs : s.size ≠ 0) (hfit : tot + (max x.size (at_ + s.size) - x.size) ≤ cap) (hq : q < 1000000) :
    Calls Tryz.prog 124 #[.pointer (some ⟨d, 0, none⟩), .string name, .int .i64 at_, .string s] w fun e w' => e = .returned (.int .i64 0) ∧
      ∃ F', DiskV w' d F' (setV V name (laidB x at_ s)) cap (tot + (max x.size (at_ + s.size) - x.size)) (q + 1) ∧ Touch F w w' ∧ Grew w.heap.size F F' := by
  obtain ⟨m, wv, D, hD, rfl, rfl, hcap, htot, hw, hf, hn, hle, hc⟩ := h
  obtain ⟨f, hl, rfl, hfn⟩ := view_look hx
  have hnl := now_le_total hl
  have hblk := hD.blks
  have e1 : at_ + s.size ≤ max f.now.size (at_ + s.size) := Nat.le_max_right _ _
  refine (write_ok w d m wv D hD name s f hl at_ ha hs (by rw [hcap, htot]; omega) (by omega) (by omega) (by omega) (by omega) (by omega)).mono ?_
  rintro e w' ⟨rfl, wv', hD', hT, hg⟩
  refine ⟨rfl, _, ⟨m, wv', _, hD', rfl, view_write hl hblk _ _, hcap, ?_, ?_, ?_, ?_, hfit, hc⟩, hT, foot_grow hg ?_⟩
  · rw [write_total (by rw [hfn]; exact hl) hblk ha, htot]
  · simp only [DiskM.write, List.length_append, List.length_cons, List.length_nil]; omega
  · simp only [DiskM.write, DiskM.setNow, List.length_map]; omega
  · intro g hg
    have : g.name ∈ (D.setNow f.blk (laidB f.now at_ s)).map (·.name) := List.mem_map_of_mem hg
    rw [setNow_names] at this
    obtain ⟨g0, h0, e0⟩ := List.mem_map.1 this
    rw [← e0]; exact hn _ h0
  · intro g hg
    have : g.blk ∈ (D.setNow f.blk (laidB f.now at_ s)).map (·.blk) := List.mem_map_of_mem hg
    rw [setNow_blks] at this
    obtain ⟨g0, h0, e0⟩ := List.mem_map.1 this
    exact .inl ⟨g0, h0, e0⟩

/-- Create. -/
theorem createV_ok (h : DiskV w d F V cap tot q) (name : ByteArray) (hx : V name = none) (hn : name.size ≤ 1000) :
    Calls Tryz.prog 123 #[.pointer (some ⟨d, 0, none⟩), .string name] w fun e w' => e = .returned (.int .i64 0) ∧
      ∃ F', DiskV w' d F' (setV V name noBytes) cap tot (q + 1) ∧ Touch F w w' ∧ Grew w.heap.size F F' := by
  obtain ⟨m, wv, D, hD, rfl, rfl, hcap, htot, hw, hf, hns, hle, hc⟩ := h
  have hl := view_none hx
  refine (create_ok w d m wv D hD name hl).mono ?_
  rintro e w' ⟨rfl, hD', hT⟩
  refine ⟨rfl, _, ⟨m, wv, _, hD', rfl, view_create hl _, hcap, (create_total _ _ _).trans htot, ?_, ?_, ?_, hle, hc⟩, hT.mono (by simp [diskFoot]), foot_grow (.inl rfl) ?_⟩
  · show D.waits.length ≤ _; omega
  · simp only [DiskM.create, List.length_append, List.length_cons, List.length_nil]; omega
  · intro g hg
    simp only [DiskM.create, List.mem_append, List.mem_singleton] at hg
    rcases hg with hg | rfl
    · exact hns g hg
    · exact hn
  · intro g hg
    simp only [DiskM.create, List.mem_append, List.mem_singleton] at hg
    rcases hg with hg | rfl
    · exact .inl ⟨g, hg, rfl⟩
    · exact .inr (Nat.le_refl _)

/-- Read. -/
theorem readV_ok (h : DiskV w d F V cap tot q) (name x : ByteArray) (hx : V name = some x) (at_ n : Nat) (ha : at_ + n ≤ x.size) :
    Calls Tryz.prog 138 #[.pointer (some ⟨d, 0, none⟩), .string name, .int .i64 at_, .int .i64 n] w fun e w' =>
      e = .returned (.tuple #[.string (x.extract at_ (at_ + n)), .int .i64 0]) ∧ Touch [] w w' := by
  obtain ⟨m, wv, D, hD, rfl, rfl, hcap, htot, hw, hf, hn, hle, hc⟩ := h
  obtain ⟨f, hl, rfl, hfn⟩ := view_look hx
  have := now_le_total hl
  exact read_ok w d m wv D hD name f hl at_ n ha (by omega)

/-- Room. -/
theorem roomV_ok (h : DiskV w d F V cap tot q) :
    Calls Tryz.prog 76 #[.pointer (some ⟨d, 0, none⟩)] w fun e w' => e = .returned (.int .i64 ((cap - tot : Nat) : Int)) ∧ Touch [] w w' := by
  obtain ⟨m, wv, D, hD, rfl, rfl, hcap, htot, hw, hf, hn, hle, hc⟩ := h
  have e1 : D.cap - D.total = ((cap - tot : Nat) : Int) := by rw [hcap, htot]; omega
  rw [← e1]
  exact room_ok w d m wv D hD (by omega) (by omega) (by omega)

/-- Down. -/
theorem downV_ok (h : DiskV w d F V cap tot q) :
    Calls Tryz.prog 75 #[.pointer (some ⟨d, 0, none⟩)] w fun e w' => e = .returned (.bool false) ∧ w = w' := by
  obtain ⟨m, wv, D, hD, rfl, -⟩ := h
  exact down_ok w d m wv D hD

/-- Sync. -/
theorem syncV_ok (h : DiskV w d F V cap tot q) (b off c : Nat) (ss : List ByteArray) (hcell : ∀ i s, ss[i]? = some s → w.cell? ⟨b, off + i, none⟩ = some (.string s)) (hl : ss.length < 4611686018427387904)
    (hb : b ∉ F) (hbl : b < w.heap.size) (hin : ∀ s ∈ ss, ∃ x, V s = some x) (hq : q < 1000000) :
    Calls Tryz.prog 135 #[.pointer (some ⟨d, 0, none⟩), .slice (some ⟨b, off, none⟩) ss.length c] w fun e w' => e = .returned (.int .i64 0) ∧
      ∃ F', DiskV w' d F' V cap tot q ∧ Touch F w w' ∧ Grew w.heap.size F F' := by
  obtain ⟨m, wv, D, hD, rfl, rfl, hcap, htot, hw, hf, hn, hle, hc⟩ := h
  refine (sync_ok w d m wv D hD b off c ss hcell hl hb hbl ?_ (by omega)).mono ?_
  · intro s hs
    obtain ⟨x, hx⟩ := hin s hs
    obtain ⟨f, hf, -⟩ := view_look hx
    rw [hf]; rfl
  rintro e w' ⟨rfl, wv', hD', hT, hg⟩
  have hnames : ∀ (l : List ByteArray) (D : DiskM), (D.lasts l).files.map (·.name) = D.files.map (·.name) := by
    intro l
    induction l with
    | nil => intro D; rfl
    | cons s l ih =>
      intro D
      show ((D.lastOf s).lasts l).files.map (·.name) = _
      rw [ih]
      unfold DiskM.lastOf
      split
      · exact last1_names _ _
      · rfl
  refine ⟨rfl, _, ⟨m, wv', _, hD', rfl, funext fun s => view_lasts _ _ _, (lasts_cap _ _).trans hcap, (lasts_total _ _).trans htot, ?_, ?_, ?_, hle, hc⟩, hT, foot_grow (.inl hg) ?_⟩
  · exact Nat.le_trans (lasts_waits _ _) hw
  · have := congrArg List.length (lasts_blks D ss)
    simp only [List.length_map] at this
    omega
  · intro g hg
    have : g.name ∈ (D.lasts ss).files.map (·.name) := List.mem_map_of_mem hg
    rw [hnames] at this
    obtain ⟨g0, h0, e0⟩ := List.mem_map.1 this
    rw [← e0]; exact hn _ h0
  · intro g hg
    have : g.blk ∈ (D.lasts ss).files.map (·.blk) := List.mem_map_of_mem hg
    rw [lasts_blks] at this
    obtain ⟨g0, h0, e0⟩ := List.mem_map.1 this
    exact .inl ⟨g0, h0, e0⟩

/-- List of a head that no file has. -/
theorem listV_none (h : DiskV w d F V cap tot q) (hq : q ≤ 1000000) (head : ByteArray) (hf : ∀ s x, V s = some x → Lib.hasPrefix s.data.toList head.data.toList = false) :
    Calls Tryz.prog 121 #[.pointer (some ⟨d, 0, none⟩), .string head] w fun e w' => ∃ a cp, e = .returned (.slice a 0 cp) ∧ Touch [] w w' := by
  obtain ⟨m, wv, D, hD, rfl, rfl, hcap, htot, hw, hfl, hn, hle, hc⟩ := h
  refine list_none w d m wv D hD ⟨by omega, hn⟩ head fun f hfm => ?_
  exact hf f.name f.now (by unfold DiskM.view; rw [look_of_mem hD.names hfm]; rfl)
end

/-- New. -/
theorem newV_ok (w : World) (n : Nat) (h1 : n ≤ 16777216) (h8 : 8 ≤ w.heap.size) :
    Calls Tryz.prog 65 #[.int .i64 n] w fun e w' => ∃ d F, e = .returned (.pointer (some ⟨d, 0, none⟩)) ∧ DiskV w' d F (fun _ => none) n 0 0 ∧ Touch [] w w' ∧ Grew w.heap.size [] F := by
  refine (disknew_ok w n (by omega) (by omega) h8).mono ?_
  rintro e w' ⟨d, m, rfl, hD, hT, hd, hm⟩
  refine ⟨d, _, rfl, ⟨m, .slice none 0 0, newDisk n, hD, rfl, rfl, rfl, rfl, Nat.le_refl _, Nat.le_refl _, (fun f hf => by cases hf), Nat.zero_le _, h1⟩, hT, ?_⟩
  intro b hb
  simp [diskFoot, Value.ownBlock, newDisk] at hb
  rcases hb with rfl | rfl
  · exact .inr hd
  · exact .inr hm
end Go.Proofs.YtljgifbnmgpdbaaGreatDoor

namespace Go.Proofs.YtljgifbnmgpdbaaGreatDoor
open Go Go.RowKit

/-- The texts of a row's segments. -/
structure SegsIn (R : RowM) (data : ByteArray) (V : ByteArray → Option ByteArray) : Prop where
  len : data.size = R.fin
  head : R.head.size ≤ 900
  seg : ∀ i < R.places.length, V (segName R.head (R.begin + i * R.size)) = some (data.extract (R.begin + i * R.size) (R.begin + (i + 1) * R.size))
  none : ∀ p, R.begin + R.places.length * R.size ≤ p → p ≤ 99999999 → V (segName R.head p) = none

def RowV (w : World) (r d : Nat) (G : List Nat) (R : RowM) : Prop := ∃ pv, RowIn w r d pv R ∧ G = rowFoot r pv

section
variable {w : World} {r d : Nat} {G : List Nat} {R : RowM}
theorem RowV.lt (h : RowV w r d G R) : ∀ b ∈ G, b < w.heap.size := by obtain ⟨pv, h, rfl⟩ := h; exact h.lt
theorem RowV.low (h : RowV w r d G R) : ∀ b ∈ G, 8 ≤ b := by obtain ⟨pv, h, rfl⟩ := h; exact h.low
theorem RowV.self (h : RowV w r d G R) : r ∈ G := by obtain ⟨pv, h, rfl⟩ := h; simp [rowFoot]
theorem RowV.touch {w' : World} {F : List Nat} (h : RowV w r d G R) (hT : Touch F w w') (hF : ∀ b ∈ G, b ∉ F) : RowV w' r d G R := by
  obtain ⟨pv, h, rfl⟩ := h; exact ⟨pv, h.touch hT hF, rfl⟩
theorem RowV.quiet {w' : World} (h : RowV w r d G R) (hT : Touch [] w w') : RowV w' r d G R := h.touch hT (by simp)
theorem RowV.ok (h : RowV w r d G R) : RowOk R := by obtain ⟨pv, h, rfl⟩ := h; exact h.ok
end

set_option maxRecDepth 100000 in
set_option maxHeartbeats 800000 in
theorem sname_ok (w : World) (r d : Nat) (pv : Value) (R : RowM) (h : RowIn w r d pv R) (hg : Glob w) (hh : R.head.size ≤ 900) (p : Nat) (hp : p ≤ 99999999) :
    Calls Tryz.prog 134 #[.pointer (some ⟨r, 0, none⟩), .int .i64 p] w fun e w' => e = .returned (.string (segName R.head p)) ∧ Touch [] w w' := by
  obtain ⟨-, c1, -, -, -, -⟩ := h.six
  have HG := Lib.hid (And.intro hg hh)
  clear h hg hh
  go_enter Tryz.func134, Tryz.ntmps134
  go_wp2_with fail
  refine (name_ok w HG.out.1 R.head p hp (by have := HG.out.2; omega)).mono ?_
  rintro e w1 ⟨rfl, hT⟩
  go_wp2
  go_ret
  exact ⟨rfl, hT⟩

/-- A row ahead of a write: with its segment. -/
def RowM.freshed (R : RowM) : RowM := if R.fin = R.begin + R.places.length * R.size then { R with places := R.places ++ [R.fin] } else R

theorem RowM.freshed_not {R : RowM} (h : R.fin ≠ R.begin + R.places.length * R.size) : R.freshed = R := by simp [RowM.freshed, h]

theorem freshed_begin {R : RowM} (h : RowOk R) : R.freshed.begin = R.begin := by
  unfold RowM.freshed
  split
  · rename_i e
    cases hp : R.places with
    | nil =>
      have := h.none (by simp [hp])
      simp [RowM.begin, hp, this]
    | cons a l => simp [RowM.begin, hp]
  · rfl

theorem freshed_pos {R : RowM} (h : RowOk R) : 0 < R.freshed.places.length ∧ R.freshed.fin = R.fin ∧ R.freshed.size = R.size ∧ R.freshed.head = R.head ∧ R.freshed.synced = R.synced ∧ R.fin < R.begin + R.freshed.places.length * R.size := by
  unfold RowM.freshed
  have hs := h.size1
  split
  · rename_i e
    refine ⟨by simp, rfl, rfl, rfl, rfl, ?_⟩
    simp only [List.length_append, List.length_cons, List.length_nil, Nat.zero_add, Nat.add_mul, Nat.one_mul]
    omega
  · rename_i e
    have h1 := h.hi
    refine ⟨?_, rfl, rfl, rfl, rfl, by omega⟩
    rcases Nat.eq_zero_or_pos R.places.length with h0 | h0
    · have := h.none h0
      rw [h0] at e
      have : R.begin = 0 := by simp [RowM.begin, List.eq_nil_of_length_eq_zero h0]
      omega
    · exact h0

theorem freshed_ok {R : RowM} (h : RowOk R) : RowOk R.freshed := by
  have hb := freshed_begin h
  by_cases e : R.fin = R.begin + R.places.length * R.size
  · have hf : R.freshed = { R with places := R.places ++ [R.fin] } := by simp [RowM.freshed, ← e]
    rw [hf] at hb ⊢
    have hl : (R.places ++ [R.fin]).length = R.places.length + 1 := by simp
    refine ⟨h.size1, h.size2, h.fin2, h.syn, ?_, ?_, ?_, ?_, ?_⟩
    · rw [hb]
      show R.places ++ [R.fin] = _
      rw [hl, List.range_succ, List.map_append, ← h.places]
      simp [e]
    · rw [hb]; exact h.whole
    · intro h0; simp at h0
    · intro _; rw [hb]; show _ + ((R.places ++ [R.fin]).length - 1) * _ ≤ _; rw [hl, Nat.add_sub_cancel]; show R.begin + R.places.length * R.size ≤ R.fin; generalize R.places.length * R.size = z at *; omega
    · rw [hb]; show R.fin ≤ _ + (R.places ++ [R.fin]).length * _; rw [hl, Nat.succ_mul]; show R.fin ≤ R.begin + (R.places.length * R.size + R.size); generalize R.places.length * R.size = z at *; omega
  · rw [RowM.freshed_not e]; exact h

theorem seg_lt {R : RowM} (h : RowOk R) {i : Nat} (hi : i < R.places.length) : R.begin + i * R.size ≤ R.fin := by
  have h1 := h.lo (by omega)
  have : i * R.size ≤ (R.places.length - 1) * R.size := Nat.mul_le_mul_right _ (by omega)
  omega

def decVal (l : List UInt8) : Nat := l.foldl (fun a b => a * 10 + (b.toNat - 48)) 0

theorem decVal_digits : ∀ n, decVal (Lib.decDigits n) = n := by
  intro n
  induction n using Nat.strongRecOn with
  | ind n ih =>
    rw [Lib.decDigits]
    by_cases h : n < 10
    · simp only [h, dite_true]
      have h2 : (UInt8.ofNat (48 + n)).toNat = 48 + n := by rw [UInt8.toNat_ofNat']; omega
      simp only [decVal, List.foldl_cons, List.foldl_nil, h2]; omega
    · simp only [h, dite_false]
      have h2 : (UInt8.ofNat (48 + n % 10)).toNat = 48 + n % 10 := by rw [UInt8.toNat_ofNat']; omega
      have := ih (n / 10) (by omega)
      unfold decVal at this ⊢
      rw [List.foldl_append, this]
      simp only [List.foldl_cons, List.foldl_nil, h2]; omega

theorem decVal_noughts (k : Nat) (l : List UInt8) : decVal (List.replicate k 48 ++ l) = decVal l := by
  unfold decVal
  rw [List.foldl_append]
  have : List.foldl (fun a (b : UInt8) => a * 10 + (b.toNat - 48)) 0 (List.replicate k 48) = 0 := by
    induction k with
    | zero => rfl
    | succ k ih => rw [List.replicate_succ, List.foldl_cons]; exact ih
  rw [this]

theorem decVal8 (n : Nat) : decVal (digits8 n) = n := by unfold digits8; rw [decVal_noughts, decVal_digits]

theorem segName_ne {h : ByteArray} {p q : Nat} (hp : p ≤ 99999999) (hq : q ≤ 99999999) (e : p ≠ q) : segName h p ≠ segName h q := by
  intro e2
  apply e
  rw [← decVal8 p, ← decVal8 q, (segName_inj hp hq e2).2]

/-- A segment's name. -/
def IsSeg (head s : ByteArray) : Prop := ∃ p ≤ 99999999, s = segName head p

/-- A text that is laid behind another. -/
theorem laid_end (x s : ByteArray) : laidB x x.size s = x ++ s := by
  apply bytes_ext
  rw [ByteArray.data_append]
  show ((x.data.toList.take x.size ++ s.data.toList ++ x.data.toList.drop (x.size + s.size)).toArray).toList = _
  simp
  rw [List.take_of_length_le (by rw [bytes_len]; exact Nat.le_refl _), List.drop_eq_nil_of_le (by rw [bytes_len]; omega)]
  simp
end Go.Proofs.YtljgifbnmgpdbaaGreatDoor

namespace Go.Proofs.YtljgifbnmgpdbaaGreatDoor
open Go Go.RowKit

set_option maxRecDepth 100000 in
set_option maxHeartbeats 800000 in
theorem fresh_not (w : World) (r d : Nat) (pv : Value) (R : RowM) (h : RowIn w r d pv R) (hne : R.fin ≠ R.begin + R.places.length * R.size) :
    Calls Tryz.prog 133 #[.pointer (some ⟨r, 0, none⟩)] w fun e w' => e = .returned (.int .i64 0) ∧ Touch [] w w' := by
  obtain ⟨-, -, c2, c3, c4, -⟩ := h.six
  have hpos : 0 < R.places.length := by
    rcases Nat.eq_zero_or_pos R.places.length with h0 | h0
    · have h1 := h.ok.none h0
      have : R.begin = 0 := by simp [RowM.begin, List.eq_nil_of_length_eq_zero h0]
      exact (hne (by rw [h0]; omega)).elim
    · exact h0
  obtain ⟨m, hm⟩ : ∃ m, R.places.length = m + 1 := ⟨R.places.length - 1, by omega⟩
  rcases h.pv with ⟨rfl, h0⟩ | ⟨g, cap, rfl, hc⟩
  · rw [h0] at hm; cases hm
  have hp := hc m _ (h.ok.get (by omega))
  have hlo := h.ok.lo (by omega)
  have hhi := h.ok.hi
  have hs2 := h.ok.size2
  have hs1 := h.ok.size1
  have hf2 := h.ok.fin2
  have hmm : m ≤ m * R.size := Nat.le_mul_of_pos_right _ (by omega)
  have HR : Hid (R.room = if R.fin = R.begin + m * R.size then R.size else R.begin + m * R.size + R.size - R.fin) := by
    show R.room = _
    rw [hm] at hlo hhi hne
    rw [Nat.add_sub_cancel] at hlo
    rw [Nat.succ_mul] at hhi hne
    unfold RowM.room
    rw [hm, Nat.succ_mul]
    generalize m * R.size = z at *
    split
    · split <;> omega
    · omega
  obtain ⟨last, hl⟩ : ∃ last, last = R.begin + m * R.size := ⟨_, rfl⟩
  rw [← hl] at hp HR
  have hll : last ≤ R.fin := by rw [hl]; rw [hm, Nat.add_sub_cancel] at hlo; exact hlo
  have hlt : R.fin < last + R.size := by
    rw [hm, Nat.succ_mul] at hhi hne
    rw [hl]; generalize m * R.size = z at *; omega
  have hroom : ∀ w', RowIn w' r d (.slice (some ⟨g, 0, none⟩) R.places.length cap) R → Calls Tryz.prog 130 #[.pointer (some ⟨r, 0, none⟩)] w' fun e w'' => e = .returned (.int .i64 R.room) ∧ Touch [] w' w'' := fun w' h' => room_row w' r d _ R h'
  have HROOM := Lib.hid hroom
  have HH := Lib.hid h
  rw [hm] at c3
  have hw1 : IntKind.i64.wrap (m : Int) = m := IntWalk.i64_in _ (by omega)
  have hm0 : (0 : Int) ≤ m := by omega
  have hmt : ((m : Int)).toNat = m := by omega
  have B1 : (R.fin : Int) ≤ 20000000 := by omega
  have hre : Hid (((R.room : Int) = R.size ∧ R.fin = last) ∨ ((R.room : Int) < R.size)) := by
    show _ ∨ _
    rw [HR.out]
    by_cases e : R.fin = last
    · exact .inl ⟨by rw [if_pos e], e⟩
    · exact .inr (by rw [if_neg e]; omega)
  clear hpos hroom hm hl hlo hhi hs2 hs1 hf2 hmm hll hlt hne h hc
  generalize R.room = room at *
  rcases hre.out with ⟨e1, e2⟩ | e1
  · have hd : decide (room < R.size) = false := by simp; omega
    have hd2 : ((R.fin : Int) == (last : Int)) = true := by simp; omega
    have hd3 : R.fin = last := by omega
    clear e1 e2
    go_enter Tryz.func133, Tryz.ntmps133
    go_wp2_with fail
    refine region_class (fun w' => w'.cell? ⟨r, 2, none⟩ = some (.int .i64 R.size) ∧ w'.cell? ⟨r, 3, none⟩ = some (.slice (some ⟨g, 0, none⟩) (m + 1) cap) ∧ w'.cell? ⟨r, 4, none⟩ = some (.int .i64 R.fin) ∧ w'.cell? ⟨g, m, none⟩ = some (.int .i64 last) ∧ Touch [] w w') (by kernel_rfl) (by kernel_rfl) ⟨c2, c3, c4, hp, (Touch.refl _ _).drew⟩ ?_
    repeat (first | go_big_quiet_skip | (go_big_quiet_want; go_big_quiet_op; first | go_big_quiet_on | (refine Exists.intro _ ⟨fun _ _ => rfl, ?_⟩; go_big_quiet_on) | (refine Exists.intro _ ⟨fun w' hC => by (first | rw [hC.out.1] | rw [hC.out.2.1] | rw [hC.out.2.2.1] | rw [hC.out.2.2.2.1]); exact ⟨rfl, rfl⟩, ?_⟩; go_big_quiet_on) | (refine Exists.intro _ ⟨fun w' hC => (HROOM.out w' (HH.out.touch hC.out.2.2.2.2 (by simp))).mono fun e w2 hh => ⟨hh.1, hh.2.cell hC.out.1 (by simp), hh.2.cell hC.out.2.1 (by simp), hh.2.cell hC.out.2.2.1 (by simp), hh.2.cell hC.out.2.2.2.1 (by simp), hC.out.2.2.2.2.trans' hh.2⟩, ?_⟩; go_big_quiet_on)))
    refine wpQuiet_nil ?_
    rintro w2 ⟨-, -, -, -, hT⟩
    go_wp2
    go_ret
    exact ⟨rfl, hT⟩
  · have hd : decide (room < R.size) = true := by simp; omega
    clear e1
    go_enter Tryz.func133, Tryz.ntmps133
    go_wp2_with fail
    refine region_class (fun w' => w'.cell? ⟨r, 2, none⟩ = some (.int .i64 R.size) ∧ w'.cell? ⟨r, 3, none⟩ = some (.slice (some ⟨g, 0, none⟩) (m + 1) cap) ∧ w'.cell? ⟨r, 4, none⟩ = some (.int .i64 R.fin) ∧ w'.cell? ⟨g, m, none⟩ = some (.int .i64 last) ∧ Touch [] w w') (by kernel_rfl) (by kernel_rfl) ⟨c2, c3, c4, hp, (Touch.refl _ _).drew⟩ ?_
    repeat (first | go_big_quiet_skip | (go_big_quiet_want; go_big_quiet_op; first | go_big_quiet_on | (refine Exists.intro _ ⟨fun _ _ => rfl, ?_⟩; go_big_quiet_on) | (refine Exists.intro _ ⟨fun w' hC => by (first | rw [hC.out.1] | rw [hC.out.2.1] | rw [hC.out.2.2.1] | rw [hC.out.2.2.2.1]); exact ⟨rfl, rfl⟩, ?_⟩; go_big_quiet_on) | (refine Exists.intro _ ⟨fun w' hC => (HROOM.out w' (HH.out.touch hC.out.2.2.2.2 (by simp))).mono fun e w2 hh => ⟨hh.1, hh.2.cell hC.out.1 (by simp), hh.2.cell hC.out.2.1 (by simp), hh.2.cell hC.out.2.2.1 (by simp), hh.2.cell hC.out.2.2.2.1 (by simp), hC.out.2.2.2.2.trans' hh.2⟩, ?_⟩; go_big_quiet_on)))
    refine wpQuiet_nil ?_
    rintro w2 ⟨-, -, -, -, hT⟩
    go_wp2
    go_ret
    exact ⟨rfl, hT⟩
end Go.Proofs.YtljgifbnmgpdbaaGreatDoor

namespace Go.Proofs.YtljgifbnmgpdbaaGreatDoor
open Go Go.RowKit

/-- An append whose run is known, at a step of a region that draws. -/
theorem step_append_run {P : Program} {ops : Array Oper} {o : Oper} {a : Act} {w : World} {K : Act → World → Prop} {Q : Exit → Act → World → Prop} {E : Prop} (hgd : o.guard = none) (s x : Operand) (t tx : TypeId)
    (ho : o.op = .call { callee := .builtin .append, args := #[s, x], argTypes := #[t, tx] }) {vs vx v : Value} {w' : World} (hs : a.eval s = vs) (hx : a.eval x = vx)
    (hrun : (Builtin.append_ #[t, tx] o.type #[vs, vx]).run P w = .ok v w') (h : K (a.put o.dst v) w') : if Region.wanted o (yielded ops a.tmps) = true then Oper.wp P o a w K Q else E := by
  have hw : Region.wanted o (yielded ops a.tmps) = true := by simp [Region.wanted, hgd]
  rw [if_pos hw]
  unfold Oper.wp execOp
  simp only [ho, resolve, invoke, builtin, Sem.run_bind, Sem.run_pure, Result.andThen_ok, List.map_toArray, List.map_cons, List.map_nil, hs, hx, hrun]
  exact h

/-- 'append(v, x)', the element laid by itself ahead. -/
theorem push_one {P : Program} {w : World} {t ty e : TypeId} {zv : Value} {size bytes : Nat} (hi : (P.info? e).map (fun i => (i.zero, i.size, i.bytes)) = some (some zv, size, bytes)) (ht : P.underlying t = some (.slice e)) (hzs : zv.cells.size = size) (hsz : 0 < size) (hb32 : bytes ≤ 1000)
    {v : Value} {n : Nat} {xs : List Value} (hown : w.ownsRow 0 e size v n xs) (cs : Array Value) (hcs : cs.size = size) (h1 : ∀ u ∈ cs.toList, u.oneCell' = true) (hn : n ≤ 10000000) :
    ∃ g cap w', (Builtin.append_ #[t, t] ty #[v, .slice (some ⟨w.heap.size, 0, none⟩) 1 1]).run P (w.alloc (.cells cs e)) = .ok (.slice (some ⟨g, 0, none⟩) (n + 1) cap) w' ∧
      w'.ownsRow 0 e size (.slice (some ⟨g, 0, none⟩) (n + 1) cap) (n + 1) (xs ++ cs.toList) ∧ w.grownBy w' v.ownBlock ∧ (v.ownBlock = some g ∨ w.heap.size ≤ g) ∧ g < w'.heap.size := by
  obtain ⟨i, hi, hz⟩ := Option.map_eq_some_iff.1 hi
  simp only [Prod.mk.injEq] at hz
  obtain ⟨hz0, hz1, hz2⟩ := hz
  have hnb : (n + 1) * bytes ≤ 10000001 * 1000 := Nat.mul_le_mul (by omega) hb32
  obtain ⟨g, cap, w5, hrun, hown5, hgr, hlies, hlt⟩ := run_append_lies (P := P) (w.alloc (.cells cs e)) t ty 0 e i zv size bytes ht hi hz0 hz1 hz2 hzs hsz
    v n xs (hown.alloc _) ⟨w.heap.size, 0, none⟩ 1 1 cs.toList (by simpa using hcs) (World.news_of_block (cs := cs) (heap_alloc_new w _)) h1 (by omega) (by simp only [maxLen]; omega) (by omega) (by omega) _ rfl
  refine ⟨g, cap, w5, hrun, hown5, ?_, ?_, hlt⟩
  · have h0 := World.grownBy_alloc w (.cells cs e) v.ownBlock
    exact ⟨hgr.os.trans h0.os, hgr.tape.trans h0.tape, hgr.output.trans h0.output, Nat.le_trans h0.size hgr.size, fun k hk hr => (hgr.block k (Nat.lt_of_lt_of_le hk h0.size) hr).trans (h0.block k hk hr)⟩
  · rcases hlies with h | h
    · exact .inl h
    · right; simp at h; omega

theorem info_int : (Tryz.prog.info? 3).map (fun i => (i.zero, i.size, i.bytes)) = some (some (.int .i64 0), 1, 8) := by kernel_rfl
theorem info_string : (Tryz.prog.info? 9).map (fun i => (i.zero, i.size, i.bytes)) = some (some (.string ⟨#[]⟩), 1, 16) := by kernel_rfl

/-- 'append(v, n)' of a row of numbers. -/
theorem push_int {w : World} {ty : TypeId} {v : Value} {n : Nat} {xs : List Value} (hown : w.ownsRow 0 3 1 v n xs) (x : Int) (hn : n ≤ 10000000) :
    ∃ g cap w', (Builtin.append_ #[43, 43] ty #[v, .slice (some ⟨w.heap.size, 0, none⟩) 1 1]).run Tryz.prog (w.alloc (.cells #[.int .i64 x] 3)) = .ok (.slice (some ⟨g, 0, none⟩) (n + 1) cap) w' ∧
      w'.ownsRow 0 3 1 (.slice (some ⟨g, 0, none⟩) (n + 1) cap) (n + 1) (xs ++ [.int .i64 x]) ∧ w.grownBy w' v.ownBlock ∧ (v.ownBlock = some g ∨ w.heap.size ≤ g) ∧ g < w'.heap.size :=
  push_one info_int Tryz.underlying43 rfl (by omega) (by omega) hown #[.int .i64 x] rfl (by simp [Value.oneCell']) hn

/-- 'append(v, s)' of a row of texts. -/
theorem push_string {w : World} {ty : TypeId} {v : Value} {n : Nat} {xs : List Value} (hown : w.ownsRow 0 9 1 v n xs) (s : ByteArray) (hn : n ≤ 10000000) :
    ∃ g cap w', (Builtin.append_ #[44, 44] ty #[v, .slice (some ⟨w.heap.size, 0, none⟩) 1 1]).run Tryz.prog (w.alloc (.cells #[.string s] 9)) = .ok (.slice (some ⟨g, 0, none⟩) (n + 1) cap) w' ∧
      w'.ownsRow 0 9 1 (.slice (some ⟨g, 0, none⟩) (n + 1) cap) (n + 1) (xs ++ [.string s]) ∧ w.grownBy w' v.ownBlock ∧ (v.ownBlock = some g ∨ w.heap.size ≤ g) ∧ g < w'.heap.size :=
  push_one info_string Tryz.underlying44 rfl (by omega) (by omega) hown #[.string s] rfl (by simp [Value.oneCell']) hn
end Go.Proofs.YtljgifbnmgpdbaaGreatDoor

namespace Go.Proofs.YtljgifbnmgpdbaaGreatDoor
open Go Go.RowKit

theorem RowIn.apart_pv {w : World} {r d : Nat} {pv : Value} {R : RowM} (h : RowIn w r d pv R) : ∀ g, pv.ownBlock = some g → g ≠ r := by
  intro g hg e
  have := h.apart
  unfold rowFoot at this
  rw [hg] at this
  simp at this
  exact this e.symm

theorem fresh_fin {w w3 w4 w5 : World} {r d : Nat} {pv : Value} {R : RowM} {F F' : List Nat} {V' : ByteArray → Option ByteArray} {cap tot q : Nat} {g5 cp5 : Nat} (h : RowIn w r d pv R) (h4 : RowIn w4 r d pv R) (he : R.fin = R.begin + R.places.length * R.size) (hT : Touch [] w w3) (hT4 : Touch F w3 w4)
    (hG : Grew w3.heap.size F F') (hD4 : DiskV w4 d F' V' cap tot (q + 1)) (hdis : ∀ b ∈ rowFoot r pv, b ∉ F)
    (hown : w5.ownsRow 0 3 1 (.slice (some ⟨g5, 0, none⟩) (R.places.length + 1) cp5) (R.places.length + 1) (R.places.flatMap placeCell ++ [.int .i64 R.fin])) (hgr : w4.drew.grownBy w5 pv.ownBlock) (hlies : pv.ownBlock = some g5 ∨ w4.drew.heap.size ≤ g5) :
    RowIn (w5.setCell ⟨r, 3, none⟩ (.slice (some ⟨g5, 0, none⟩) (R.places.length + 1) cp5)) r d (.slice (some ⟨g5, 0, none⟩) (R.places.length + 1) cp5) R.freshed ∧ DiskV (w5.setCell ⟨r, 3, none⟩ (.slice (some ⟨g5, 0, none⟩) (R.places.length + 1) cp5)) d F' V' cap tot (q + 1) ∧
      Touch (rowFoot r pv ++ F) w (w5.setCell ⟨r, 3, none⟩ (.slice (some ⟨g5, 0, none⟩) (R.places.length + 1) cp5)) ∧ Grew w.heap.size F F' ∧ Grew w.heap.size (rowFoot r pv) (rowFoot r (.slice (some ⟨g5, 0, none⟩) (R.places.length + 1) cp5)) ∧ ∀ b ∈ rowFoot r (.slice (some ⟨g5, 0, none⟩) (R.places.length + 1) cp5), b ∉ F' := by
  have hnb : (Value.slice (some ⟨g5, 0, none⟩) (R.places.length + 1) cp5).ownBlock = some g5 := rfl
  generalize Value.slice (some ⟨g5, 0, none⟩) (R.places.length + 1) cp5 = nv at *
  have hrl : r < w4.heap.size := lt_of_heap h4.cells
  have hg5r : g5 ≠ r := by
    rcases hlies with h1 | h1
    · exact h4.apart_pv g5 h1
    · have : w4.heap.size ≤ g5 := h1
      omega
  have hTd : Touch (rowFoot r pv) w4 w5 := (((Touch.refl (rowFoot r pv) w4).drew).grown hgr (by intro b hb; exact .inl (by simp [rowFoot, hb])))
  have hTs : Touch (rowFoot r pv) w4 (w5.setCell ⟨r, 3, none⟩ nv) := hTd.setCell _ _ _ _ (.inl (by simp [rowFoot]))
  have hsz : w.heap.size ≤ w3.heap.size := hT.size
  have hsz4 : w3.heap.size ≤ w4.heap.size := hT4.size
  have hF'4 := hD4.lt
  have hdis' : ∀ b ∈ rowFoot r pv, b ∉ F' := hG.apart (fun b hb => Nat.lt_of_lt_of_le (h.lt b hb) hsz) hdis
  have hfr : R.freshed = { R with places := R.places ++ [R.fin] } := by simp [RowM.freshed, ← he]
  have hc5 : w5.heap[r]? = some (.cells #[.pointer (some ⟨d, 0, none⟩), .string R.head, .int .i64 R.size, pv, .int .i64 R.fin, .int .i64 R.synced] 138 (0, 0)) :=
    (hgr.block r hrl (fun e => h4.apart_pv r e.symm rfl)).trans h4.cells
  refine ⟨⟨?_, ?_, ?_, ?_, freshed_ok h.ok⟩, hD4.touch hTs (fun b hb hb2 => hdis' b hb2 hb), ?_, ?_, ?_, ?_⟩
  · have := heap_setCell_at hc5 3 nv
    rw [this, hfr]; rfl
  · have hl : R.freshed.places.length = R.places.length + 1 := by rw [hfr]; simp
    have hf : R.freshed.places.flatMap placeCell = R.places.flatMap placeCell ++ [.int .i64 R.fin] := by rw [hfr]; simp [placeCell]
    rw [hl, hf]
    exact ownsRow_other hown fun b hb => heap_setCell_ne _ _ _ _ _ _ (by rw [hnb] at hb; cases hb; exact hg5r)
  · simp only [rowFoot, hnb, Option.toList]; simp; exact fun e => hg5r e.symm
  · intro b hb
    simp only [rowFoot, hnb, List.mem_cons, Option.toList, List.not_mem_nil, or_false] at hb
    rcases hb with rfl | rfl
    · exact h.low b (by simp [rowFoot])
    · rcases hlies with h1 | h1
      · exact h.low b (by simp [rowFoot, h1])
      · have := h.low r (by simp [rowFoot])
        have : w4.heap.size ≤ b := h1
        omega
  · have e1 : Touch (rowFoot r pv ++ F) w w4 := (hT.nil).trans (hT4.mono (G := rowFoot r pv ++ F) (by intro b hb; simp [hb])) (by intro b hb; exact .inl hb)
    exact e1.trans hTs (by intro b hb; exact .inl (by simp [hb]))
  · intro b hb
    rcases hG b hb with h1 | h1
    · exact .inl h1
    · exact .inr (by omega)
  · intro b hb
    simp only [rowFoot, hnb, List.mem_cons, Option.toList, List.not_mem_nil, or_false] at hb
    rcases hb with rfl | rfl
    · exact .inl (by simp [rowFoot])
    · rcases hlies with h1 | h1
      · exact .inl (by simp [rowFoot, h1])
      · have : w4.heap.size ≤ b := h1
        exact .inr (by omega)
  · intro b hb
    simp only [rowFoot, hnb, List.mem_cons, Option.toList, List.not_mem_nil, or_false] at hb
    rcases hb with rfl | rfl
    · exact hdis' b (by simp [rowFoot])
    · rcases hlies with h1 | h1
      · exact hdis' b (by simp [rowFoot, h1])
      · intro hb
        have := hF'4 b hb
        have : w4.heap.size ≤ b := h1
        omega

set_option maxRecDepth 100000 in
set_option maxHeartbeats 1600000 in
theorem fresh_do {w : World} {r d : Nat} {pv : Value} {R : RowM} {F : List Nat} {V : ByteArray → Option ByteArray} {cap tot q : Nat} {data : ByteArray} (h : RowIn w r d pv R) (hD : DiskV w d F V cap tot q) (hdis : ∀ b ∈ rowFoot r pv, b ∉ F) (hg : Glob w) (hS : SegsIn R data V) (hq : q < 1000000)
    (he : R.fin = R.begin + R.places.length * R.size) :
    Calls Tryz.prog 133 #[.pointer (some ⟨r, 0, none⟩)] w fun e w' => e = .returned (.int .i64 0) ∧
      ∃ pv' F', RowIn w' r d pv' R.freshed ∧ DiskV w' d F' (setV V (segName R.head R.fin) noBytes) cap tot (q + 1) ∧ Touch (rowFoot r pv ++ F) w w' ∧ Grew w.heap.size F F' ∧ Grew w.heap.size (rowFoot r pv) (rowFoot r pv') ∧ ∀ b ∈ rowFoot r pv', b ∉ F' := by
  obtain ⟨c0, c1, c2, c3, c4, -⟩ := h.six
  have hs1 := h.ok.size1
  have hs2 := h.ok.size2
  have hf2 := h.ok.fin2
  have hroom : R.room = R.size := by
    unfold RowM.room
    rw [if_neg (by omega)]
  have hVn := hS.none R.fin (by omega) (by omega)
  have hnl : (segName R.head R.fin).size ≤ 1000 := by
    have h1 := hS.head
    have h2 := digits8_len (n := R.fin) (by omega)
    show (List.toArray _).size ≤ _
    simp only [List.size_toArray, List.length_append, bytes_len]
    omega
  have HROOM : Hid (∀ w', RowIn w' r d pv R → Calls Tryz.prog 130 #[.pointer (some ⟨r, 0, none⟩)] w' fun e w'' => e = .returned (.int .i64 R.size) ∧ Touch [] w' w'') := by
    show ∀ _, _
    intro w' h'
    rw [← hroom]
    exact room_row w' r d _ R h'
  have HH := Lib.hid h
  have HD := Lib.hid hD
  have HX := Lib.hid (And.intro hdis (And.intro hg (And.intro hS (And.intro hVn hnl))))
  have HE := Lib.hid he
  have B1 : (R.fin : Int) ≤ 20000000 := by omega
  have HF2 := Lib.hid hf2
  -- the last place, if there is one
  have hlast : ∃ (a : Option Addr) (cp : Nat), pv = .slice a R.places.length cp ∧ (0 < R.places.length → ∃ g m last, a = some ⟨g, 0, none⟩ ∧ R.places.length = m + 1 ∧ w.cell? ⟨g, m, none⟩ = some (.int .i64 (last : Nat)) ∧ last ≠ R.fin ∧ m < 100000000) := by
    rcases h.pv with ⟨rfl, h0⟩ | ⟨g, cp, rfl, hc⟩
    · exact ⟨none, 0, by rw [h0]; rfl, fun hp => by rw [h0] at hp; simp at hp⟩
    · refine ⟨_, cp, rfl, fun hp => ?_⟩
      obtain ⟨m, hm⟩ : ∃ m, R.places.length = m + 1 := ⟨R.places.length - 1, by omega⟩
      have hmm : m ≤ m * R.size := Nat.le_mul_of_pos_right _ (by omega)
      rw [hm, Nat.succ_mul] at he
      refine ⟨g, m, _, rfl, hm, hc m _ (h.ok.get (by omega)), by omega, by omega⟩
  obtain ⟨a, cp, rfl, hlast⟩ := hlast
  have hnr : decide (R.size < R.size) = false := by simp
  have hreg : ∀ (K : World → Prop), (∀ w2, Touch [] w w2 → K w2) → True := fun _ _ => trivial
  clear hreg
  have HL := Lib.hid hlast
  clear hs1 hs2 hf2 hroom hVn hnl h hD hdis hg hS he hlast
  by_cases hpos : 0 < R.places.length
  · obtain ⟨g, m, last, rfl, hm, hcl, hne, hmb⟩ := HL.out hpos
    have hw1 : IntKind.i64.wrap (m : Int) = m := IntWalk.i64_in _ (by omega)
    have hm0 : (0 : Int) ≤ m := by omega
    have hmt : ((m : Int)).toNat = m := by omega
    have hd2 : ((R.fin : Int) == (last : Int)) = false := by simp; omega
    have hd3 : ¬ R.fin = last := fun e => hne e.symm
    have HM := Lib.hid hm
    rw [hm] at c3
    clear hne hm hpos
    go_enter Tryz.func133, Tryz.ntmps133
    go_wp2_with fail
    refine region_class (fun w' => w'.cell? ⟨r, 2, none⟩ = some (.int .i64 R.size) ∧ w'.cell? ⟨r, 3, none⟩ = some (.slice (some ⟨g, 0, none⟩) (m + 1) cp) ∧ w'.cell? ⟨r, 4, none⟩ = some (.int .i64 R.fin) ∧ w'.cell? ⟨g, m, none⟩ = some (.int .i64 last) ∧ Touch [] w w') (by kernel_rfl) (by kernel_rfl) ⟨c2, c3, c4, hcl, (Touch.refl _ _).drew⟩ ?_
    repeat (first | go_big_quiet_skip | (go_big_quiet_want; go_big_quiet_op; first | go_big_quiet_on | (refine Exists.intro _ ⟨fun _ _ => rfl, ?_⟩; go_big_quiet_on) | (refine Exists.intro _ ⟨fun w' hC => by (first | rw [hC.out.1] | rw [hC.out.2.1] | rw [hC.out.2.2.1] | rw [hC.out.2.2.2.1]); exact ⟨rfl, rfl⟩, ?_⟩; go_big_quiet_on) | (refine Exists.intro _ ⟨fun w' hC => (HROOM.out w' (HH.out.touch hC.out.2.2.2.2 (by simp))).mono fun e w2 hh => ⟨hh.1, hh.2.cell hC.out.1 (by simp), hh.2.cell hC.out.2.1 (by simp), hh.2.cell hC.out.2.2.1 (by simp), hh.2.cell hC.out.2.2.2.1 (by simp), hC.out.2.2.2.2.trans' hh.2⟩, ?_⟩; go_big_quiet_on)))
    refine wpQuiet_nil ?_
    rintro w2 ⟨d2, d3, d4, -, hT⟩
    have HT := Lib.hid hT
    obtain ⟨d0, d1, -, -, -, -⟩ := (HH.out.touch hT (by simp)).six
    clear c0 c1 c2 c3 c4 hT
    go_wp2_with fail
    refine region_class (fun w' => w'.cell? ⟨r, 1, none⟩ = some (.string R.head) ∧ w'.cell? ⟨r, 4, none⟩ = some (.int .i64 R.fin) ∧ Touch [] w w') (by kernel_rfl) (by kernel_rfl) ⟨d1, d4, HT.out.drew⟩ ?_
    repeat (first | go_big_quiet_skip | (go_big_quiet_want; go_big_quiet_op; first | go_big_quiet_on | (refine Exists.intro _ ⟨fun _ _ => rfl, ?_⟩; go_big_quiet_on) | (refine Exists.intro _ ⟨fun w' hC => by (first | rw [hC.out.1] | rw [hC.out.2.1] | rw [hC.out.2.2.1] | rw [hC.out.2.2.2.1]); exact ⟨rfl, rfl⟩, ?_⟩; go_big_quiet_on) | (refine Exists.intro _ ⟨fun w' hC => (name_ok w' (HX.out.2.1.touch hC.out.2.2 (by simp)) R.head R.fin (by have := HF2.out; omega) (by have := HX.out.2.2.1.head; omega)).mono fun e w2 hh => ⟨hh.1, hh.2.cell hC.out.1 (by simp), hh.2.cell hC.out.2.1 (by simp), hC.out.2.2.trans' hh.2⟩, ?_⟩; go_big_quiet_on)))
    refine wpQuiet_nil ?_
    rintro w3 ⟨-, -, hT3⟩
    have HT3 := Lib.hid hT3
    have h3 := HH.out.touch hT3 (by simp)
    obtain ⟨e0, e1, e2, e3, e4, -⟩ := h3.six
    have HD3 := Lib.hid (HD.out.quiet hT3)
    clear d0 d1 d2 d3 d4 HT hT3 h3
    obtain ⟨nm, hnm⟩ : ∃ nm, nm = segName R.head R.fin := ⟨_, rfl⟩
    rw [← hnm] at HX ⊢
    have HNM := Lib.hid hnm
    clear hnm
    go_wp2_with fail
    refine (createV_ok HD3.out nm HX.out.2.2.2.1 HX.out.2.2.2.2).mono ?_
    rintro e w4 ⟨rfl, F', hD4, hT4, hG4⟩
    have hne4 : ∀ b ∈ rowFoot r (.slice (some ⟨g, 0, none⟩) R.places.length cp), b ∉ F := HX.out.1
    have h4 := (HH.out.touch HT3.out (by simp)).touch hT4 hne4
    have HH4 := Lib.hid h4
    have f3f := free_of h4.cells 3
    obtain ⟨-, -, -, f3, f4, -⟩ := h4.six
    have HT4 := Lib.hid hT4
    have HG4 := Lib.hid hG4
    have HD4 := Lib.hid hD4
    clear e0 e1 e2 e3 e4 hT4 h4 hne4 hG4 hD4
    go_wp2_with fail
    have hpl : R.places.length ≤ 10000000 := by
      have h1 := HE.out
      have h2 := HH.out.ok.size1
      have h3 : R.places.length * 16 ≤ R.places.length * R.size := Nat.mul_le_mul_left _ h2
      have h4 := HF2.out
      omega
    obtain ⟨g5, cp5, w5, hrun, hown, hgr, hlies, hlt⟩ := push_int (w := w4.drew) (ty := 43) (v := (.slice (some ⟨g, 0, none⟩) R.places.length cp)) (n := R.places.length) (xs := R.places.flatMap placeCell) HH4.out.places R.fin hpl
    have g3 : w5.cell? ⟨r, 3, none⟩ = some ((.slice (some ⟨g, 0, none⟩) R.places.length cp)) := hgr.cell (w := w4.drew) (by simpa using f3) (by intro e; exact HH4.out.apart_pv r e.symm rfl)
    have hrl : r < w4.heap.size := lt_of_heap HH4.out.cells
    have g3f : w5.frozen? ⟨r, 3, none⟩ = false := by
      rw [World.frozen?_of_block (hgr.block r hrl (by intro e; exact HH4.out.apart_pv r e.symm rfl))]; exact f3f
    have HR := Lib.hid hrun
    have HO := Lib.hid (And.intro hown (And.intro hgr (And.intro hlies hlt)))
    clear hrun hown hgr hlies hlt
    go_region_law (refine step_append_run rfl (.tmp 67) (.tmp 72) 43 43 rfl (by simp [Act.eval, Act.put]) (by simp [Act.eval, Act.put]) HR.out ?_)
    all_goals
      go_wp2
      go_ret
      have hnm := HNM.out
      subst hnm
      exact ⟨rfl, _, _, fresh_fin HH.out HH4.out HE.out HT3.out HT4.out HG4.out HD4.out HX.out.1 HO.out.1 HO.out.2.1 HO.out.2.2.1⟩
  · have h0 : R.places.length = 0 := by omega
    have HM := Lib.hid h0
    rw [h0] at c3
    clear h0 hpos
    go_enter Tryz.func133, Tryz.ntmps133
    go_wp2_with fail
    refine region_class (fun w' => w'.cell? ⟨r, 2, none⟩ = some (.int .i64 R.size) ∧ w'.cell? ⟨r, 3, none⟩ = some (.slice a 0 cp) ∧ w'.cell? ⟨r, 4, none⟩ = some (.int .i64 R.fin) ∧ Touch [] w w') (by kernel_rfl) (by kernel_rfl) ⟨c2, c3, c4, (Touch.refl _ _).drew⟩ ?_
    repeat (first | go_big_quiet_skip | (go_big_quiet_want; go_big_quiet_op; first | go_big_quiet_on | (refine Exists.intro _ ⟨fun _ _ => rfl, ?_⟩; go_big_quiet_on) | (refine Exists.intro _ ⟨fun w' hC => by (first | rw [hC.out.1] | rw [hC.out.2.1] | rw [hC.out.2.2.1] | rw [hC.out.2.2.2.1]); exact ⟨rfl, rfl⟩, ?_⟩; go_big_quiet_on) | (refine Exists.intro _ ⟨fun w' hC => (HROOM.out w' (HH.out.touch hC.out.2.2.2 (by simp))).mono fun e w2 hh => ⟨hh.1, hh.2.cell hC.out.1 (by simp), hh.2.cell hC.out.2.1 (by simp), hh.2.cell hC.out.2.2.1 (by simp), hC.out.2.2.2.trans' hh.2⟩, ?_⟩; go_big_quiet_on)))
    refine wpQuiet_nil ?_
    rintro w2 ⟨d2, d3, d4, hT⟩
    have HT := Lib.hid hT
    obtain ⟨d0, d1, -, -, -, -⟩ := (HH.out.touch hT (by simp)).six
    clear c0 c1 c2 c3 c4 hT
    go_wp2_with fail
    refine region_class (fun w' => w'.cell? ⟨r, 1, none⟩ = some (.string R.head) ∧ w'.cell? ⟨r, 4, none⟩ = some (.int .i64 R.fin) ∧ Touch [] w w') (by kernel_rfl) (by kernel_rfl) ⟨d1, d4, HT.out.drew⟩ ?_
    repeat (first | go_big_quiet_skip | (go_big_quiet_want; go_big_quiet_op; first | go_big_quiet_on | (refine Exists.intro _ ⟨fun _ _ => rfl, ?_⟩; go_big_quiet_on) | (refine Exists.intro _ ⟨fun w' hC => by (first | rw [hC.out.1] | rw [hC.out.2.1] | rw [hC.out.2.2.1] | rw [hC.out.2.2.2.1]); exact ⟨rfl, rfl⟩, ?_⟩; go_big_quiet_on) | (refine Exists.intro _ ⟨fun w' hC => (name_ok w' (HX.out.2.1.touch hC.out.2.2 (by simp)) R.head R.fin (by have := HF2.out; omega) (by have := HX.out.2.2.1.head; omega)).mono fun e w2 hh => ⟨hh.1, hh.2.cell hC.out.1 (by simp), hh.2.cell hC.out.2.1 (by simp), hC.out.2.2.trans' hh.2⟩, ?_⟩; go_big_quiet_on)))
    refine wpQuiet_nil ?_
    rintro w3 ⟨-, -, hT3⟩
    have HT3 := Lib.hid hT3
    have h3 := HH.out.touch hT3 (by simp)
    obtain ⟨e0, e1, e2, e3, e4, -⟩ := h3.six
    have HD3 := Lib.hid (HD.out.quiet hT3)
    clear d0 d1 d2 d3 d4 HT hT3 h3
    obtain ⟨nm, hnm⟩ : ∃ nm, nm = segName R.head R.fin := ⟨_, rfl⟩
    rw [← hnm] at HX ⊢
    have HNM := Lib.hid hnm
    clear hnm
    go_wp2_with fail
    refine (createV_ok HD3.out nm HX.out.2.2.2.1 HX.out.2.2.2.2).mono ?_
    rintro e w4 ⟨rfl, F', hD4, hT4, hG4⟩
    have hne4 : ∀ b ∈ rowFoot r (.slice a R.places.length cp), b ∉ F := HX.out.1
    have h4 := (HH.out.touch HT3.out (by simp)).touch hT4 hne4
    have HH4 := Lib.hid h4
    have f3f := free_of h4.cells 3
    obtain ⟨-, -, -, f3, f4, -⟩ := h4.six
    have HT4 := Lib.hid hT4
    have HG4 := Lib.hid hG4
    have HD4 := Lib.hid hD4
    clear e0 e1 e2 e3 e4 hT4 h4 hne4 hG4 hD4
    go_wp2_with fail
    have hpl : R.places.length ≤ 10000000 := by
      have h1 := HE.out
      have h2 := HH.out.ok.size1
      have h3 : R.places.length * 16 ≤ R.places.length * R.size := Nat.mul_le_mul_left _ h2
      have h4 := HF2.out
      omega
    obtain ⟨g5, cp5, w5, hrun, hown, hgr, hlies, hlt⟩ := push_int (w := w4.drew) (ty := 43) (v := (.slice a R.places.length cp)) (n := R.places.length) (xs := R.places.flatMap placeCell) HH4.out.places R.fin hpl
    have g3 : w5.cell? ⟨r, 3, none⟩ = some ((.slice a R.places.length cp)) := hgr.cell (w := w4.drew) (by simpa using f3) (by intro e; exact HH4.out.apart_pv r e.symm rfl)
    have hrl : r < w4.heap.size := lt_of_heap HH4.out.cells
    have g3f : w5.frozen? ⟨r, 3, none⟩ = false := by
      rw [World.frozen?_of_block (hgr.block r hrl (by intro e; exact HH4.out.apart_pv r e.symm rfl))]; exact f3f
    have HR := Lib.hid hrun
    have HO := Lib.hid (And.intro hown (And.intro hgr (And.intro hlies hlt)))
    clear hrun hown hgr hlies hlt
    go_region_law (refine step_append_run rfl (.tmp 67) (.tmp 72) 43 43 rfl (by simp [Act.eval, Act.put]) (by simp [Act.eval, Act.put]) HR.out ?_)
    all_goals
      go_wp2
      go_ret
      have hnm := HNM.out
      subst hnm
      exact ⟨rfl, _, _, fresh_fin HH.out HH4.out HE.out HT3.out HT4.out HG4.out HD4.out HX.out.1 HO.out.1 HO.out.2.1 HO.out.2.2.1⟩
end Go.Proofs.YtljgifbnmgpdbaaGreatDoor

namespace Go.Proofs.YtljgifbnmgpdbaaGreatDoor
open Go Go.RowKit

theorem room_end {R : RowM} (h : RowOk R) : R.fin + R.room = R.begin + R.freshed.places.length * R.size ∧ R.room ≤ R.size ∧ 0 < R.room := by
  have hs := h.size1
  have hhi := h.hi
  unfold RowM.freshed
  by_cases e : R.fin = R.begin + R.places.length * R.size
  · have hr : R.room = R.size := by unfold RowM.room; rw [if_neg (by omega)]
    rw [if_pos e, hr]
    simp only [List.length_append, List.length_cons, List.length_nil, Nat.zero_add, Nat.succ_mul]
    omega
  · have hp : 0 < R.places.length := by
      have := (freshed_pos h).1
      rwa [RowM.freshed_not e] at this
    have hlo := h.lo hp
    rw [if_neg e]
    have hr : R.room = R.begin + R.places.length * R.size - R.fin := by unfold RowM.room; rw [if_pos ⟨hp, by omega⟩]
    obtain ⟨m, hm⟩ : ∃ m, R.places.length = m + 1 := ⟨R.places.length - 1, by omega⟩
    rw [hm, Nat.add_sub_cancel] at hlo
    rw [hr]
    rw [hm, Nat.succ_mul] at e hhi ⊢
    generalize m * R.size = z at *
    omega

def RowM.more (R : RowM) (n : Nat) : RowM := { R.freshed with fin := R.fin + n }

theorem more_begin {R : RowM} (h : RowOk R) (n : Nat) : (R.more n).begin = R.begin := freshed_begin h

theorem more_ok {R : RowM} (h : RowOk R) {n : Nat} (h0 : 0 < n) (hn : n ≤ R.room) (hb : R.fin + n ≤ 20000000) : RowOk (R.more n) := by
  have hf := freshed_ok h
  have hbe := freshed_begin h
  obtain ⟨p1, p2, p3, p4, p5, p6⟩ := freshed_pos h
  obtain ⟨r1, r2, r3⟩ := room_end h
  refine ⟨hf.size1, hf.size2, hb, ?_, hf.places, hf.whole, fun e => ?_, fun e => ?_, ?_⟩
  · have := h.syn
    show R.freshed.synced ≤ R.fin + n
    rw [p5]; omega
  · have : R.freshed.places.length = 0 := e
    omega
  · have := hf.lo e
    show R.freshed.begin + (R.freshed.places.length - 1) * R.freshed.size ≤ R.fin + n
    rw [p2] at this
    omega
  · show R.fin + n ≤ R.freshed.begin + R.freshed.places.length * R.freshed.size
    rw [hbe, p3]; omega

theorem freshed_segs {R : RowM} {data : ByteArray} {V : ByteArray → Option ByteArray} (h : RowOk R) (hS : SegsIn R data V) (e : R.fin = R.begin + R.places.length * R.size) : SegsIn R.freshed data (setV V (segName R.head R.fin) noBytes) := by
  have hbe := freshed_begin h
  obtain ⟨p1, p2, p3, p4, p5, p6⟩ := freshed_pos h
  have hf2 := h.fin2
  have hs1 := h.size1
  have hfr : R.freshed.places.length = R.places.length + 1 := by unfold RowM.freshed; rw [if_pos e]; simp
  refine ⟨hS.len.trans p2.symm, by rw [p4]; exact hS.head, ?_, ?_⟩
  · intro i hi
    rw [hbe, p3, p4]
    rw [hfr] at hi
    by_cases hil : i = R.places.length
    · subst hil
      rw [← e, setV_at]
      congr 1
      apply bytes_ext
      rw [ByteArray.data_extract]
      have h1 := hS.len
      have h2 : data.data.size = R.fin := h1
      simp [noBytes, h2]
    · have hlt : i < R.places.length := by omega
      have hp := seg_lt h hlt
      have hne : R.begin + i * R.size ≠ R.fin := by
        rw [e]
        have : i * R.size < R.places.length * R.size := Nat.mul_lt_mul_of_pos_right hlt (by omega)
        omega
      rw [setV_ne _ _ (segName_ne (by omega) (by omega) hne)]
      exact hS.seg i hlt
  · intro p hp1 hp2
    rw [hbe, p3, hfr, Nat.succ_mul] at hp1
    rw [p4]
    rw [setV_ne _ _ (segName_ne (by omega) (by omega) (by omega))]
    exact hS.none p (by omega) hp2

/-- The last segment of a row that has one. -/
theorem last_seg {R : RowM} {data : ByteArray} {V : ByteArray → Option ByteArray} (h : RowOk R) (hS : SegsIn R data V) (hp : 0 < R.places.length) :
    V (segName R.head (R.begin + (R.places.length - 1) * R.size)) = some (data.extract (R.begin + (R.places.length - 1) * R.size) R.fin) ∧ R.begin + (R.places.length - 1) * R.size ≤ R.fin := by
  have h1 := hS.seg (R.places.length - 1) (by omega)
  have h2 : R.places.length - 1 + 1 = R.places.length := by omega
  rw [h2] at h1
  refine ⟨?_, h.lo hp⟩
  rw [h1]
  congr 1
  have h3 := h.hi
  have h4 := hS.len
  apply bytes_ext
  rw [ByteArray.data_extract, ByteArray.data_extract]
  have h5 : data.data.size = R.fin := h4
  simp only [Array.toList_extract, List.extract_eq_take_drop]
  have h6 : data.data.toList.length = R.fin := by simpa using h5
  rw [List.take_of_length_le (by simp [h6]; omega), List.take_of_length_le (by simp [h6])]

theorem more_segs {R : RowM} {data : ByteArray} {V : ByteArray → Option ByteArray} (h : RowOk R) (hS : SegsIn R.freshed data V) {s : ByteArray} (h0 : 0 < s.size) (hn : s.size ≤ R.room) (hb : R.fin + s.size ≤ 20000000) :
    SegsIn (R.more s.size) (data ++ s) (setV V (segName R.head (R.begin + (R.freshed.places.length - 1) * R.size)) (data.extract (R.begin + (R.freshed.places.length - 1) * R.size) R.fin ++ s)) := by
  have hbe := freshed_begin h
  obtain ⟨p1, p2, p3, p4, p5, p6⟩ := freshed_pos h
  obtain ⟨r1, r2, r3⟩ := room_end h
  have hok := freshed_ok h
  have hs1 := h.size1
  have hlen : data.size = R.fin := hS.len.trans p2
  obtain ⟨m, hm⟩ : ∃ m, R.freshed.places.length = m + 1 := ⟨R.freshed.places.length - 1, by omega⟩
  have hlo := hok.lo p1
  rw [hbe, p3, p2, hm, Nat.add_sub_cancel] at hlo
  rw [hm, Nat.add_sub_cancel]
  rw [hm, Nat.succ_mul] at r1
  have hdl : data.data.toList.length = R.fin := hlen
  refine ⟨by show (data ++ s).size = R.fin + s.size; rw [ByteArray.size_append, hlen], by show R.freshed.head.size ≤ 900; exact hS.head, ?_, ?_⟩
  · intro i hi
    show _ = some _
    have hi' : i < m + 1 := by rw [← hm]; exact hi
    rw [more_begin h]
    show setV V _ _ (segName R.freshed.head (R.begin + i * R.freshed.size)) = some ((data ++ s).extract (R.begin + i * R.freshed.size) (R.begin + (i + 1) * R.freshed.size))
    rw [p4, p3]
    by_cases him : i = m
    · subst him
      rw [setV_at]
      congr 1
      apply bytes_ext
      rw [ByteArray.data_append, ByteArray.data_extract, ByteArray.data_extract, ByteArray.data_append, Nat.succ_mul]
      simp only [Array.toList_append, Array.toList_extract, List.extract_eq_take_drop]
      rw [List.take_of_length_le (by simp [hdl]), List.take_of_length_le (by simp [hdl]; have : s.data.size = s.size := rfl; omega), List.drop_append_of_le_length (by rw [hdl]; exact hlo)]
    · have hlt : i < m := by omega
      have hmul : (i + 1) * R.size ≤ m * R.size := Nat.mul_le_mul_right _ (by omega)
      rw [Nat.succ_mul] at hmul
      rw [setV_ne _ _ (segName_ne (by omega) (by omega) (by omega))]
      have := hS.seg i (by rw [hm]; omega)
      rw [hbe, p3, p4] at this
      rw [this]
      congr 1
      apply bytes_ext
      rw [ByteArray.data_extract, ByteArray.data_extract, ByteArray.data_append, Nat.succ_mul]
      simp only [Array.toList_append, Array.toList_extract, List.extract_eq_take_drop]
      rw [List.drop_append_of_le_length (by rw [hdl]; omega), List.take_append_of_le_length (by simp [hdl]; omega)]
  · intro p hp1 hp2
    rw [more_begin h] at hp1
    have hp1' : R.begin + R.freshed.places.length * R.freshed.size ≤ p := hp1
    show setV V _ _ (segName R.freshed.head p) = none
    rw [hm, Nat.succ_mul, p3] at hp1'
    have := hS.none p (by rw [hbe, p3, hm, Nat.succ_mul]; omega) hp2
    rw [p4] at this ⊢
    rw [setV_ne _ _ (segName_ne (by omega) (by omega) (by omega))]
    exact this
end Go.Proofs.YtljgifbnmgpdbaaGreatDoor
