/- Law 19, EnqNone: for every input its call returns true, and each argument reads behind the call as it read before; no condition of ours. -/
import Derived.Test.YtljgifbnmgpdbaaGreatDoorZe02
set_option linter.unusedSimpArgs false
set_option linter.unusedVariables false
set_option linter.unnecessarySimpa false
namespace Go.Proofs.YtljgifbnmgpdbaaGreatDoor.enqNone
open Go.ChangeShapes Go.WideShapes Go.ChangeAt Go.RowKit

set_option maxRecDepth 100000 in
set_option maxHeartbeats 1000000 in
theorem contract (H : Type) (enc : TypeId × Value → H) (W : World) (base : Nat) (args : Array Value) (ds gs : List (DataW H)) (before : List MemPlace)
    (hval : ∀ (j : Nat) t v, Tryz.f7.params[j]? = some t → args[j]? = some v → Value.okWide Tryz.prog W .any base t v)
    (hW : DataW.Whole enc Tryz.prog Tryz.f7.params.toList Rows.enqNoneSpec.vars false W args.toList ds gs before) (hL : laidMetH Tryz.prog Rows.enqNoneRow.laid W) (hsh : W.ShapedOpen Tryz.prog) :
    Calls Tryz.prog 7 args W fun e W' => ∃ v, e = .returned v ∧ Rows.enqNoneSpec.post enc Tryz.prog Tryz.f7 false true false false W args v W' := by
  have hW' := hW
  obtain ⟨p, q, hA0, hV, rfl, hfz, hnd⟩ := hW
  have hA : DataW.TrodAll enc Tryz.prog W 0 (fun _ => true) true Tryz.f7.params.toList args.toList ds p := hA0
  rw [Tryz.params7] at hA hval
  obtain ⟨v0, vs0, d0, ds0, p0, q0, hargs, rfl, rfl, h0, r0⟩ := trodAll_cons hA
  obtain ⟨rfl, rfl, rfl⟩ := trodAll_nil r0
  obtain rfl : args = #[v0] := by cases args; simp_all
  have hlt : ∀ x ∈ p0 ++ [], x.block < W.heap.size := fun x hx => by simpa using hW'.lt x (List.mem_append_left _ hx)
  obtain ⟨rfl, rfl⟩ := trodVars_none hV
  have walk : Calls Tryz.prog 7 #[v0] W fun e w' => e = .returned (.bool true) ∧ Touch [] W w' := by
    obtain ⟨f0, f1, f2, rfl⟩ := flags_read (hval 0 22 v0 rfl rfl) h0
    exact enqNone_ok W (glob_of hsh hL) f0 f1 f2
  refine walk.mono fun e W' ⟨he, hT⟩ => ?_
  subst he
  have hB := hT.below
  refine ⟨_, rfl, _, _, _, [], p0 ++ [], [], hW', ?_, ?_, ?_, hB.frame _, fun h => by cases h⟩
  · exact trodAll_cons_mk (shut_bool Tryz.underlying4 _) trodAll_mk0
  · exact trodAll_cons_mk (Below.trod laidOut (by kernel_rfl) (of_decide_eq_true (by kernel_rfl)) h0 hB (fun x hx => hlt x (by simp [hx]))) trodAll_mk0
  · rfl
theorem reads (os : Os) {H : Type} (enc : TypeId × Value → H) : ∃ places, DataW.whole enc Tryz.prog ((laidWorld os).forCall (fun _ _ => 0) ⟨#[], #[.agg #[.bool false, .bool false, .bool false]], []⟩).memory Tryz.f7.params.toList Rows.enqNoneSpec.vars false (#[.agg #[.bool false, .bool false, .bool false]] : Array Value).toList 16 = some ([.agg [.lit (.bool false), .lit (.bool false), .lit (.bool false)]], [], places) :=
    ⟨[], by kernel_rfl⟩
  theorem shaped (os : Os) : ((laidWorld os).forCall (fun _ _ => 0) ⟨#[], #[.agg #[.bool false, .bool false, .bool false]], []⟩).Shaped Tryz.checked.prog := World.shaped_of_ZipB (by kernel_rfl) (by kernel_rfl)
  
  set_option maxRecDepth 100000 in
  theorem lifted (os : Os) (started : os.Started) (H : Type) (enc : TypeId × Value → H) (F : Stop.Interp) :
      ReturnsInHanded {} Tryz.checked os 7 .any ((OpenSpec.ofChange Rows.enqNoneSpec).preRow enc Tryz.prog Tryz.f7 Rows.enqNoneRow.domain false Rows.enqNoneRow.laid) (((OpenSpec.ofChange Rows.enqNoneSpec).at F).post enc Tryz.prog Tryz.f7 false true false false) := by
    obtain ⟨places, hx⟩ := reads os enc
    refine returnsInHanded_of_row (C := Tryz.checked) (s := OpenSpec.ofChange Rows.enqNoneSpec) own started (by kernel_rfl) Tryz.func7
      (witness_laid (enc := enc) (C := Tryz.checked) (laidWorld os) #[.agg #[.bool false, .bool false, .bool false]] (World.laidAll_os _ _ _) (shaped os) (by kernel_rfl)
        (OpenSpec.preRow_of_cond 16 hx rfl (fun k hk => by cases hk) (by kernel_rfl) (laid_met os _))) ?_
    intro W base args ds gs before hval hW _ _ _ hL hsh _
    exact contract H enc W base args ds gs before hval hW hL hsh
  
  theorem hunf : Tryz.prog.unfollowed 7 = true := by kernel_rfl
  theorem hplace : (Rows.enqNoneRow.inPlace == Tryz.prog.inPlace 7) = true := by kernel_rfl
  theorem hnamed : (Rows.enqNoneRow.named == Tryz.prog.varsNamed 7) = true := by kernel_rfl
  theorem hrec : Tryz.prog.recurses 7 = true := by unfold Program.recurses; rw [hunf]; rfl
  theorem closed : joinedFacts Tryz.prog 7 Tryz.f7 Rows.enqNoneSpec Rows.enqNoneRow = true := by
    unfold joinedFacts
    rw [hplace, hnamed, hunf, hrec]
    kernel_rfl
  
  set_option maxRecDepth 100000 in
  theorem said : Rows.EnqNoneSaid :=
    OpenClaim.holds_of_cond 7 Tryz.f7 rfl rfl rfl rfl rfl rfl rfl ⟨rfl, rfl, rfl, rfl, rfl⟩ rfl rfl rfl rfl rfl (by kernel_rfl) Tryz.func7 closed
      (of_decide_eq_true (by kernel_rfl)) (by unfold Func.isWrapper; first | (rw [if_pos (by decide +kernel)]; kernel_rfl) | (rw [if_neg (by decide +kernel)]; exact ⟨rfl, rfl⟩))
      (fun os started H enc _ F => by rw [OpenClaim.pre_eq_preRow]; exact lifted os started H enc F)
  
  theorem plain (f : FuncId) (fn : Func) (hf : Tryz.pinned.checked.prog.funcNamed "reveille/reveillelaw19.EnqNone" = some f) (hfn : Tryz.pinned.checked.prog.funcs[f]? = some fn) :
      true = Tryz.pinned.checked.prog.looks [] ∧ ∀ (j : Nat) t, fn.params[j]? = some t → Tryz.pinned.checked.prog.wantsStandIn t = false := by
    obtain rfl : f = 7 := Option.some.inj ((show Tryz.prog.funcNamed "reveille/reveillelaw19.EnqNone" = some 7 by kernel_rfl).symm.trans hf) |>.symm
    obtain rfl : fn = Tryz.f7 := (Option.some.inj (Tryz.func7.symm.trans hfn)).symm
    refine ⟨by kernel_rfl, fun j t ht => ?_⟩
    rw [Tryz.params7] at ht
    have hm : t ∈ [22] := by simpa using Array.mem_of_getElem? ht
    have hall : ([22].all fun u => !Tryz.prog.wantsStandIn u) = true := by kernel_rfl
    exact (show Tryz.prog.wantsStandIn t = false by simpa using List.all_eq_true.1 hall t hm)
  
  set_option maxRecDepth 100000 in
  theorem card : Rows.EnqNoneCardSaid :=
    Claim7.holds_tied_plain_at .later [] _ _ _ _ said (fun _ h => by cases h) (by kernel_rfl) (fun _ h => by cases h) enqNone_row_tie rfl ⟨rfl, rfl⟩ (by kernel_rfl) rfl plain (goes_of _ rfl)
  #print axioms card
end Go.Proofs.YtljgifbnmgpdbaaGreatDoor.enqNone
