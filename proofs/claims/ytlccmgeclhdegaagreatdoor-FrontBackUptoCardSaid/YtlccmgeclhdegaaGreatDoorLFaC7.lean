/- FrontBack: for every argument the law returns true, and each argument reads afterwards as it read before. No conditions. (the last text) -/
import Derived.Test.YtlccmgeclhdegaaGreatDoorLFaC6
import Derived.Handed
import Derived.SizedLaws
import Derived.Shelf.Vars
import Derived.KernelRfl
import Derived.Stop.LaidErr
import Derived.LaidLaws
import Derived.MakeChecks
import Derived.Lib.LaidU8T
import Derived.Lib.LaidTab
import Derived.Deep.Slices
import Derived.Deep.Fields
import Derived.ChangeSame
import Derived.OpenShut
import Derived.Lib.SmallJoins
import Derived.ProofKit
import Derived.ShutString
import Derived.ChangeOld
import Derived.Below
import Derived.LaidMore
import Derived.Lay
import Derived.SevenTiedAt
import Derived.Stop.Joined
import Derived.JoinedCond
import Derived.Deep.DeepHandedRow
namespace Go.Proofs.YtlccmgeclhdegaaGreatDoor.frontBack
open Go.ChangeShapes Go.WideShapes Go.ChangeAt Go.RowKit Go.Joins
open Go.ChangeMaps (open_string shut_string)
theorem own : ownKnob Tryz.prog.godebug = none := by as_aux_lemma => kernel_rfl
theorem laidOut : laidOutB Tryz.prog = true := by as_aux_lemma => kernel_rfl
theorem reads (os : Os) {H : Type} (enc : TypeId × Value → H) : ∃ places, DataW.whole enc Tryz.prog ((World.laidAll Tryz.prog os Rows.frontBackUptoRow.laid).forCall (fun _ _ => 0) ⟨#[], #[.agg #[.int .i64 0, .string ⟨#[]⟩, .string ⟨#[]⟩, .string ⟨#[]⟩, .string ⟨#[]⟩, .string ⟨#[]⟩, .string ⟨#[]⟩, .int .i64 0, .int .i64 0, .int .i64 0, .int .i64 0, .int .i64 0, .int .i64 0, .int .i64 0, .slice none 0 0], .agg #[.string ⟨#[]⟩, .string ⟨#[]⟩, .slice none 0 0, .bool false]], []⟩).memory Tryz.f6.params.toList Rows.frontBackSpec.vars false #[.agg #[.int .i64 0, .string ⟨#[]⟩, .string ⟨#[]⟩, .string ⟨#[]⟩, .string ⟨#[]⟩, .string ⟨#[]⟩, .string ⟨#[]⟩, .int .i64 0, .int .i64 0, .int .i64 0, .int .i64 0, .int .i64 0, .int .i64 0, .int .i64 0, .slice none 0 0], .agg #[.string ⟨#[]⟩, .string ⟨#[]⟩, .slice none 0 0, .bool false]].toList 8 = some ([.agg [.lit (.int .i64 0), .lit (.string []), .lit (.string []), .lit (.string []), .lit (.string []), .lit (.string []), .lit (.string []), .lit (.int .i64 0), .lit (.int .i64 0), .lit (.int .i64 0), .lit (.int .i64 0), .lit (.int .i64 0), .lit (.int .i64 0), .lit (.int .i64 0), .nil], .agg [.lit (.string []), .lit (.string []), .nil, .lit (.bool false)]], [], places) :=
 ⟨[], by as_aux_lemma => kernel_rfl⟩
theorem laid_met (os : Os) : laidMet Tryz.prog Rows.frontBackUptoRow.laid ((World.laidAll Tryz.prog os Rows.frontBackUptoRow.laid).forCall (fun _ _ => 0) ⟨#[], #[.agg #[.int .i64 0, .string ⟨#[]⟩, .string ⟨#[]⟩, .string ⟨#[]⟩, .string ⟨#[]⟩, .string ⟨#[]⟩, .string ⟨#[]⟩, .int .i64 0, .int .i64 0, .int .i64 0, .int .i64 0, .int .i64 0, .int .i64 0, .int .i64 0, .slice none 0 0], .agg #[.string ⟨#[]⟩, .string ⟨#[]⟩, .slice none 0 0, .bool false]], []⟩).memory :=
 laidMet_laidAll _ (by as_aux_lemma => kernel_rfl) (by as_aux_lemma => kernel_rfl)
set_option maxRecDepth 100000 in
theorem witness (os : Os) (H : Type) (enc : TypeId × Value → H) : ∃ (w : World) (tape : Tape) (i : Input), w.os = os ∧ (w.forCall tape i).Shaped Tryz.prog ∧ i.vars = [] ∧ Input.okWide Tryz.prog (w.forCall tape i) .any w.heap.size 6 i ∧
 (Rows.OpenSpec.upto Rows.frontBackSpec).preRow enc Tryz.prog Tryz.f6 Rows.frontBackUptoRow.domain false Rows.frontBackUptoRow.laid (w.forCall tape i).memory i.args ∧ ({} : Assume).holds Tryz.prog (lone (Frame.enter Tryz.prog 6 i.args .normal) [] (w.forCall tape i)) := by
 obtain ⟨places, hx⟩ := reads os enc
 have hok : Input.okWideB Tryz.prog ((World.laidAll Tryz.prog os Rows.frontBackUptoRow.laid).forCall (fun _ _ => 0) ⟨#[], #[.agg #[.int .i64 0, .string ⟨#[]⟩, .string ⟨#[]⟩, .string ⟨#[]⟩, .string ⟨#[]⟩, .string ⟨#[]⟩, .string ⟨#[]⟩, .int .i64 0, .int .i64 0, .int .i64 0, .int .i64 0, .int .i64 0, .int .i64 0, .int .i64 0, .slice none 0 0], .agg #[.string ⟨#[]⟩, .string ⟨#[]⟩, .slice none 0 0, .bool false]], []⟩) 6 ⟨#[], #[.agg #[.int .i64 0, .string ⟨#[]⟩, .string ⟨#[]⟩, .string ⟨#[]⟩, .string ⟨#[]⟩, .string ⟨#[]⟩, .string ⟨#[]⟩, .int .i64 0, .int .i64 0, .int .i64 0, .int .i64 0, .int .i64 0, .int .i64 0, .int .i64 0, .slice none 0 0], .agg #[.string ⟨#[]⟩, .string ⟨#[]⟩, .slice none 0 0, .bool false]], []⟩ = true := by as_aux_lemma => kernel_rfl
 refine ⟨World.laidAll Tryz.prog os Rows.frontBackUptoRow.laid, fun _ _ => 0, ⟨#[], #[.agg #[.int .i64 0, .string ⟨#[]⟩, .string ⟨#[]⟩, .string ⟨#[]⟩, .string ⟨#[]⟩, .string ⟨#[]⟩, .string ⟨#[]⟩, .int .i64 0, .int .i64 0, .int .i64 0, .int .i64 0, .int .i64 0, .int .i64 0, .int .i64 0, .slice none 0 0], .agg #[.string ⟨#[]⟩, .string ⟨#[]⟩, .slice none 0 0, .bool false]], []⟩, World.laidAll_os _ _ _, World.shaped_of_ZipB (by as_aux_lemma => kernel_rfl) (by as_aux_lemma => kernel_rfl), (Input.okWide_of_okWideB (base := 0) hok).1, (Input.okWide_of_okWideB hok).2,
   OpenSpec.preRow_of_cond 8 hx (by as_aux_lemma => kernel_rfl) (fun k hk => by cases hk; kernel_rfl) (by as_aux_lemma => kernel_rfl) (laid_met os), ?_⟩
 simp only [Assume.holds]
 exact ⟨by simp, by simp, by simp, by simp, by simp⟩
set_option maxRecDepth 100000 in
theorem lifted (os : Os) (started : os.Started) (H : Type) (enc : TypeId × Value → H) (F : Stop.Interp) :
 ReturnsInHanded {} Tryz.checked os 6 .any ((Rows.OpenSpec.upto Rows.frontBackSpec).preRow enc Tryz.prog Tryz.f6 Rows.frontBackUptoRow.domain false Rows.frontBackUptoRow.laid) (((Rows.OpenSpec.upto Rows.frontBackSpec).at F).post enc Tryz.prog Tryz.f6 false true false false) := by
 refine returnsInHanded_of_row (C := Tryz.checked) (s := Rows.OpenSpec.upto Rows.frontBackSpec) own started (by as_aux_lemma => kernel_rfl) Tryz.func6 (witness os H enc) ?_
 intro W base args ds gs before hval0 hW _ hk0 _ hlaid hsh _
 have hval : ∀ (j : Nat) t v, Tryz.f6.params[j]? = some t → args[j]? = some v → Value.okWide Tryz.prog W .any base t v := hval0
 have hk : Rows.uptoSmall H (ds ++ gs) = true := hk0 _ rfl
 have hW' := hW
 obtain ⟨p, q, hA0, hV, rfl, hfz, hnd⟩ := hW
 have hA : DataW.TrodAll enc Tryz.prog W 0 (fun _ => true) true Tryz.f6.params.toList args.toList ds p := hA0
 rw [Tryz.params6] at hA hval
 obtain ⟨v0, vs0, d0, ds0, p0, q0, hargs, rfl, rfl, h0, r0⟩ := trodAll_cons hA
 obtain ⟨v1, vs1, d1, ds1, p1, q1, rfl, rfl, rfl, h1, r1⟩ := trodAll_cons r0
 obtain ⟨rfl, rfl, rfl⟩ := trodAll_nil r1
 obtain rfl : args = #[v0, v1] := by cases args; simp_all
 obtain ⟨rfl, rfl⟩ := trodVars_none hV
 have hbulk := of_decide_eq_true hk
 simp only [List.append_nil, Rows.uptoBulkAll] at hbulk
 have k0 := h0
 have lt0 : ∀ x ∈ p0, x.block < W.heap.size := by obtain ⟨m, hm⟩ := k0; exact DataW.trod_lt m _ _ _ hm
 obtain ⟨c0, f0, m0, rfl, o0, x0, s0, t0⟩ := Open.open_cmd (hval 0 24 v0 rfl rfl) h0 (by omega)
 have k1 := h1
 have lt1 : ∀ x ∈ p1, x.block < W.heap.size := by obtain ⟨m, hm⟩ := k1; exact DataW.trod_lt m _ _ _ hm
 obtain ⟨me1, pa1, l1, u1, m1, b1, rfl, y1⟩ := Open.open_req (hval 1 29 v1 rfl rfl) h1
 have hG := gj_of hsh hlaid
 have hw := FrontBack_P W hG (sy_of hlaid) c0 o0 x0 s0 f0 m0 t0 me1 pa1 l1 u1 m1 y1 b1 W (old_refl W)
 clear hA0 hval0
 refine hw.mono fun e W' ⟨he, hchg⟩ => ?_
 have bel := hchg.below
 subst he
 exact ⟨_, rfl, _, _, _, [], _, [], hW', trodAll_mk1 (shut_bool Tryz.underlying4 _), (trodAll_cons_mk (Below.trod laidOut (by as_aux_lemma => kernel_rfl) (of_decide_eq_true (by as_aux_lemma => kernel_rfl)) k0 bel lt0) (trodAll_cons_mk (Below.trod laidOut (by as_aux_lemma => kernel_rfl) (of_decide_eq_true (by as_aux_lemma => kernel_rfl)) k1 bel lt1) trodAll_mk0)), rfl, bel.frame _, fun h => by cases h⟩
theorem and_i {a b : Bool} (h : a = true) (k : b = true) : (a && b) = true := by rw [h, k]; rfl
set_option maxHeartbeats 16000000 in
theorem joined : joinedFacts Tryz.prog 6 Tryz.f6 (Rows.OpenSpec.upto Rows.frontBackSpec).bare Rows.frontBackUptoRow = true := by
 unfold joinedFacts
 repeat' (with_reducible apply and_i)
 all_goals (as_aux_lemma => kernel_rfl)
theorem over : Rows.frontBackUptoRow.holds Tryz.pinned (Rows.OpenSpec.upto Rows.frontBackSpec) :=
 OpenClaim.holds_of_cond 6 Tryz.f6 rfl rfl rfl rfl rfl rfl rfl ⟨rfl, rfl, rfl, rfl, rfl⟩ rfl rfl rfl rfl rfl (by as_aux_lemma => kernel_rfl) Tryz.func6 joined
  (of_decide_eq_true (by as_aux_lemma => kernel_rfl)) (by unfold Func.isWrapper; first | (rw [if_pos (by as_aux_lemma => decide +kernel)]; kernel_rfl) | (rw [if_neg (by as_aux_lemma => decide +kernel)]; exact ⟨rfl, rfl⟩))
  (fun os started H enc _ F => by rw [OpenClaim.pre_eq_preRow]; exact lifted os started H enc F)
theorem proved : Rows.FrontBackUptoCardSaid :=
 Claim7.holds_tied_plain_at .later [] Rows.frontBackUptoCard.laidKinds true Rows.frontBackUptoCard.stood.harness true over (fun _ h => by cases h) (by as_aux_lemma => kernel_rfl) (fun _ h => by cases h) frontBackUpto_row_tie rfl ⟨rfl, rfl⟩ (by as_aux_lemma => kernel_rfl) rfl
  (fun f fn hf hfn => by
    obtain rfl : f = 6 := Option.some.inj ((show Tryz.prog.funcNamed Rows.frontBackUptoRow.func = some 6 by as_aux_lemma => kernel_rfl).symm.trans hf) |>.symm
    obtain rfl : fn = Tryz.f6 := (Option.some.inj (Tryz.func6.symm.trans hfn)).symm
    exact ⟨by as_aux_lemma => kernel_rfl, fun j t ht => by
      have hm : t ∈ Tryz.f6.params.toList := by simpa using Array.mem_of_getElem? ht
      have hall : (Tryz.f6.params.toList.all fun u => !Tryz.prog.wantsStandIn u) = true := by as_aux_lemma => kernel_rfl
      exact (show Tryz.prog.wantsStandIn t = false by simpa using List.all_eq_true.1 hall t hm)⟩)
  (by as_aux_lemma => kernel_rfl)
end Go.Proofs.YtlccmgeclhdegaaGreatDoor.frontBack
