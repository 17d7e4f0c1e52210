/- The law InvoiceTimes, walked: whatever lines and times, it answers true. -/
import Derived.Test.YtfiaobhkhedpiaaLPays
import Derived.Test.YtfiaobhkhedpiaaInv9
namespace Go.Proofs.Ytfiaobhkhedpiaa
open Go.RowKit

def bob : ByteArray := ⟨#[98, 111, 98]⟩
theorem two_apart {n : Nat} {F0 : Nat → Prop} {w0 : World} {a : Act} {w : World} {L : List (Nat × Value)} {Γ : List Asn} (hS : St n F0 w0 a w L Γ) {X Y : Asn} (h : [X, Y].Sublist Γ) : ∀ b, X.F b → ¬ Y.F b :=
  (List.pairwise_cons.1 (hS.dis.sublist h)).1 Y (.head _)

theorem issue_again {l : List RLine} {f t : Int} (h : issueE [] acme usd 5 f t l = 0) {its : List IA} (hn : its.length < 500) {s : ByteArray} (hs : ValidN s.data.toList) {f' t' : Int} (h1 : 0 ≤ f') (h2 : f' < t') (h3 : t' ≤ 1099511627776) :
    issueE its s usd 5 f' t' l = if someL (billedB s f' t') its ≠ [] then 3 else 0 := by
  obtain ⟨e1, e2, e3, e4⟩ := issueE_zero h
  obtain ⟨n1, n2, n3⟩ := askE_lines e1
  have e0 : askE s usd 5 f' t' l.length its.length = 0 := by
    unfold askE
    rw [if_neg (fun hh => hh hs), if_neg (show ¬ (scaleR usd).2 ≠ 0 by decide +kernel), if_neg (by unfold inst; omega), if_neg (by omega)]
  unfold issueE
  rw [e0, e2, e3]
  simp
theorem acme_valid : ValidN acme.data.toList := by decide +kernel
theorem bob_valid : ValidN bob.data.toList := by decide +kernel
theorem bob_acme : acme ≠ bob := by decide +kernel
theorem some_cons {s : ByteArray} {f t : Int} {x : IA} {its : List IA} : someL (billedB s f t) (x :: its) = if billedB s f t x.v then x.v :: someL (billedB s f t) its else someL (billedB s f t) its := by
  unfold someL
  rw [List.map_cons, List.filter_cons]
theorem some_nil {s : ByteArray} {f t : Int} : someL (billedB s f t) [] = [] := rfl

set_option maxRecDepth 100000 in
theorem InvoiceTimes_bad (p : Option (Nat × Nat)) (c : Nat) (hpc : p = none → c = 0) (l : List RLine) (hfit : ∀ x ∈ l, x.fits) (f t gp : Int) (hlen : l.length ≤ 4611686018427387904)
    (w0 : World) (hrow : RowP p 4 (l.map encL) w0) (hpb : ∀ r, p = some r → r.1 < w0.heap.size)
    (hE : issueE [] acme usd 5 f t l ≠ 0) : PureC Try.prog 5 [sliceV p l.length c, .int .i64 f, .int .i64 t, .int .i64 gp] w0 (.bool true) := by
  have hargs := ok_rowP hrow hpb
  generalize hA : rowP p 4 (l.map encL) = argA at hargs
  have hAφ : ∀ w, argA.φ w → RowP p 4 (l.map encL) w := fun w h => by subst hA; exact h
  have hAF : ∀ b off, p = some (b, off) → argA.F b := fun b off e => by subst hA; exact ⟨off, e⟩
  have hAm : argA.mine = false := by subst hA; rfl
  refine c_enter [(0, sliceV p l.length c), (1, .int .i64 f), (2, .int .i64 t), (3, .int .i64 gp)] [argA] noB Try.func5 rfl Try.ntmps5 ⟨rfl, rfl, rfl, rfl, trivial⟩ rfl (by intro X hX; obtain rfl := List.mem_singleton.1 hX; exact hargs) (by simp) (by intro X hX hm; obtain rfl := List.mem_singleton.1 hX; rw [hAm] at hm; cases hm) ?_
  intro a hS
  refine c_seq ?_
  refine c_region ?_
  refine L_op (s_e hS (e_assign rfl) rfl ?_); clear hS a; intro a hS
  refine L_nil ?_
  refine n_then ?_
  refine c_seq ?_
  refine c_region ?_
  refine L_op (s_callP hS .nil cf13 rfl (ifirst_P _) ?_); clear hS a; (try clear w); intro a w hS
  refine L_op (s_e hS (e_assign rfl) rfl ?_); clear hS a; intro a hS
  refine L_nil ?_
  refine n_then ?_
  refine c_seq ?_
  refine c_seq ?_
  refine c_region ?_
  refine L_op (s_e hS (e_move rfl) rfl ?_); clear hS a; intro a hS
  refine L_op (s_e hS (e_not rfl) rfl ?_); clear hS a; intro a hS
  refine L_op (s_e hS (e_move rfl) rfl ?_); clear hS a; intro a hS
  replace hS := hS.is (t := 28) (c := false) rfl (rfl)
  refine L_go hS rfl rfl (s_e hS (e_move rfl) rfl ?_); clear hS a; intro a hS
  refine L_go hS rfl rfl (s_e hS (e_len rfl rfl ty_sl22) rfl ?_); clear hS a; intro a hS
  refine L_go hS rfl rfl (s_e hS (e_bin rfl rfl rfl) rfl ?_); clear hS a; intro a hS
  first | (refine L_op (s_e hS (e_pick_t rfl rfl) rfl ?_); clear hS a; intro a hS) | (refine L_op (s_e hS (e_pick_f rfl rfl) rfl ?_); clear hS a; intro a hS)
  refine L_op (s_e hS (e_move rfl) rfl ?_); clear hS a; intro a hS
  (first | refine g_splitD (t := 33) hS rfl ?_ ?_ | refine g_split (t := 33) hS rfl ?_ ?_) <;> (clear hS; intro hg33 hS)
  ·
    refine L_skip_f hS rfl rfl rfl ?_; clear hS a; intro a hS
    refine L_skip_f hS rfl rfl rfl ?_; clear hS a; intro a hS
    first | (refine L_op (s_e hS (e_pick_t rfl rfl) rfl ?_); clear hS a; intro a hS) | (refine L_op (s_e hS (e_pick_f rfl rfl) rfl ?_); clear hS a; intro a hS)
    refine L_op (s_e hS (e_move rfl) rfl ?_); clear hS a; intro a hS
    refine L_skip_f hS rfl rfl rfl ?_; clear hS a; intro a hS
    refine L_skip_f hS rfl rfl rfl ?_; clear hS a; intro a hS
    refine L_skip_f hS rfl rfl rfl ?_; clear hS a; intro a hS
    first | (refine L_op (s_e hS (e_pick_t rfl rfl) rfl ?_); clear hS a; intro a hS) | (refine L_op (s_e hS (e_pick_f rfl rfl) rfl ?_); clear hS a; intro a hS)
    refine L_op (s_e hS (e_move rfl) rfl ?_); clear hS a; intro a hS
    refine L_skip_f hS rfl rfl rfl ?_; clear hS a; intro a hS
    refine L_skip_f hS rfl rfl rfl ?_; clear hS a; intro a hS
    first | (refine L_op (s_e hS (e_pick_t rfl rfl) rfl ?_); clear hS a; intro a hS) | (refine L_op (s_e hS (e_pick_f rfl rfl) rfl ?_); clear hS a; intro a hS)
    refine L_nil ?_
    refine n_then ?_
    refine c_if_t hS rfl ?_
    refine c_seq ?_
    refine c_region ?_
    refine L_op (s_e hS (e_move rfl) rfl ?_); clear hS a; intro a hS
    refine L_op (s_e hS (e_assign rfl) rfl ?_); clear hS a; intro a hS
    refine L_nil ?_
    refine n_then ?_
    refine wp_ret ?_
    refine r_then ?_
    refine c_ret1 hS Try.results5 (.tmp rfl) ?_
    exact ⟨by rfl, hS.chg⟩
  ·
    refine L_go hS rfl rfl (s_e hS (e_move rfl) rfl ?_); clear hS a; intro a hS
    refine L_go hS rfl rfl (s_e hS (e_bin rfl rfl rfl) rfl ?_); clear hS a; intro a hS
    first | (refine L_op (s_e hS (e_pick_t rfl rfl) rfl ?_); clear hS a; intro a hS) | (refine L_op (s_e hS (e_pick_f rfl rfl) rfl ?_); clear hS a; intro a hS)
    refine L_op (s_e hS (e_move rfl) rfl ?_); clear hS a; intro a hS
    (first | refine g_splitD (t := 37) hS rfl ?_ ?_ | refine g_split (t := 37) hS rfl ?_ ?_) <;> (clear hS; intro hg37 hS)
    ·
      refine L_skip_f hS rfl rfl rfl ?_; clear hS a; intro a hS
      refine L_skip_f hS rfl rfl rfl ?_; clear hS a; intro a hS
      refine L_skip_f hS rfl rfl rfl ?_; clear hS a; intro a hS
      first | (refine L_op (s_e hS (e_pick_t rfl rfl) rfl ?_); clear hS a; intro a hS) | (refine L_op (s_e hS (e_pick_f rfl rfl) rfl ?_); clear hS a; intro a hS)
      refine L_op (s_e hS (e_move rfl) rfl ?_); clear hS a; intro a hS
      refine L_skip_f hS rfl rfl rfl ?_; clear hS a; intro a hS
      refine L_skip_f hS rfl rfl rfl ?_; clear hS a; intro a hS
      first | (refine L_op (s_e hS (e_pick_t rfl rfl) rfl ?_); clear hS a; intro a hS) | (refine L_op (s_e hS (e_pick_f rfl rfl) rfl ?_); clear hS a; intro a hS)
      refine L_nil ?_
      refine n_then ?_
      refine c_if_t hS rfl ?_
      refine c_seq ?_
      refine c_region ?_
      refine L_op (s_e hS (e_move rfl) rfl ?_); clear hS a; intro a hS
      refine L_op (s_e hS (e_assign rfl) rfl ?_); clear hS a; intro a hS
      refine L_nil ?_
      refine n_then ?_
      refine wp_ret ?_
      refine r_then ?_
      refine c_ret1 hS Try.results5 (.tmp rfl) ?_
      exact ⟨by rfl, hS.chg⟩
    ·
      refine L_go hS rfl rfl (s_e hS (e_move rfl) rfl ?_); clear hS a; intro a hS
      refine L_go hS rfl rfl (s_e hS (e_move rfl) rfl ?_); clear hS a; intro a hS
      refine L_go hS rfl rfl (s_e hS (e_bin rfl rfl rfl) rfl ?_); clear hS a; intro a hS
      first | (refine L_op (s_e hS (e_pick_t rfl rfl) rfl ?_); clear hS a; intro a hS) | (refine L_op (s_e hS (e_pick_f rfl rfl) rfl ?_); clear hS a; intro a hS)
      refine L_op (s_e hS (e_move rfl) rfl ?_); clear hS a; intro a hS
      (first | refine g_splitD (t := 42) hS rfl ?_ ?_ | refine g_split (t := 42) hS rfl ?_ ?_) <;> (clear hS; intro hg42 hS)
      ·
        refine L_skip_f hS rfl rfl rfl ?_; clear hS a; intro a hS
        refine L_skip_f hS rfl rfl rfl ?_; clear hS a; intro a hS
        first | (refine L_op (s_e hS (e_pick_t rfl rfl) rfl ?_); clear hS a; intro a hS) | (refine L_op (s_e hS (e_pick_f rfl rfl) rfl ?_); clear hS a; intro a hS)
        refine L_nil ?_
        refine n_then ?_
        refine c_if_t hS rfl ?_
        refine c_seq ?_
        refine c_region ?_
        refine L_op (s_e hS (e_move rfl) rfl ?_); clear hS a; intro a hS
        refine L_op (s_e hS (e_assign rfl) rfl ?_); clear hS a; intro a hS
        refine L_nil ?_
        refine n_then ?_
        refine wp_ret ?_
        refine r_then ?_
        refine c_ret1 hS Try.results5 (.tmp rfl) ?_
        exact ⟨by rfl, hS.chg⟩
      ·
        refine L_go hS rfl rfl (s_e hS (e_move rfl) rfl ?_); clear hS a; intro a hS
        refine L_go hS rfl rfl (s_e hS (e_bin rfl rfl rfl) rfl ?_); clear hS a; intro a hS
        first | (refine L_op (s_e hS (e_pick_t rfl rfl) rfl ?_); clear hS a; intro a hS) | (refine L_op (s_e hS (e_pick_f rfl rfl) rfl ?_); clear hS a; intro a hS)
        refine L_nil ?_
        refine n_then ?_
        first | refine c_ifD hS rfl (fun hc45 => ?_) (fun hc45 => ?_) | refine c_if hS rfl (fun hc45 => ?_) (fun hc45 => ?_)
        ·
          refine c_seq ?_
          refine c_region ?_
          refine L_op (s_e hS (e_move rfl) rfl ?_); clear hS a; intro a hS
          refine L_op (s_e hS (e_assign rfl) rfl ?_); clear hS a; intro a hS
          refine L_nil ?_
          refine n_then ?_
          refine wp_ret ?_
          refine r_then ?_
          refine c_ret1 hS Try.results5 (.tmp rfl) ?_
          exact ⟨by rfl, hS.chg⟩
        ·
          refine wp_skip ?_
          refine n_then ?_
          refine c_seq ?_
          refine c_seq ?_
          refine c_region ?_
          refine L_op (s_e hS (e_assign rfl) rfl ?_); clear hS a; intro a hS
          refine L_nil ?_
          refine n_then ?_
          refine wp_block ?_
          skip
          refine c_loop (γ := Nat) (fun k a w => St 158 noB w0 a w [(10, .int .i64 (k : Int)), (0, sliceV p l.length c), (1, .int .i64 f), (2, .int .i64 t), (3, .int .i64 gp)] [argA] ∧ k ≤ l.length) (fun k => l.length - k) 0 ⟨hS.slots ⟨rfl, rfl, rfl, rfl, rfl, trivial⟩, Nat.zero_le _⟩ ?_
          clear hS a; (try clear w); intro k a w hI
          obtain ⟨hS, hk⟩ := hI
          refine c_seq ?_
          refine c_seq ?_
          refine c_region ?_
          refine L_op (s_e hS (e_move rfl) rfl ?_); clear hS a; intro a hS
          refine L_op (s_e hS (e_move rfl) rfl ?_); clear hS a; intro a hS
          refine L_op (s_e hS (e_len rfl rfl ty_sl22) rfl ?_); clear hS a; intro a hS
          refine L_op (s_e hS (e_bin rfl rfl rfl) rfl ?_); clear hS a; intro a hS
          refine L_nil ?_
          refine n_then ?_
          first | refine c_ifD hS rfl (fun hc50 => ?_) (fun hc50 => ?_) | refine c_if hS rfl (fun hc50 => ?_) (fun hc50 => ?_)
          ·
            obtain ⟨x, hx⟩ : ∃ x, l[k]? = some x := ⟨l[k], by simp⟩
            have hx' : (l.map encL)[k]? = some (encL x) := by simp [hx]
            obtain ⟨br, off, rfl⟩ := rowP_some hrow hx'
            refine wp_skip ?_
            refine n_then ?_
            refine c_seq ?_
            refine wp_block ?_
            refine c_seq ?_
            refine c_region ?_
            refine L_op (s_e hS (e_move rfl) rfl ?_); clear hS a; intro a hS
            refine L_op (s_e hS (e_move rfl) rfl ?_); clear hS a; intro a hS
            refine L_op (s_e hS (e_ixN rfl rfl ty_sl22 ty_sz26 (by omega)) rfl ?_); clear hS a; intro a hS
            first | (refine L_op (s_e hS (e_fa0 rfl ty_fo26_0) rfl ?_); clear hS a; intro a hS) | (refine L_op (s_e hS (e_faK rfl ty_fo26_0) rfl ?_); clear hS a; intro a hS)
            refine L_op (s_e hS (e_loadC rfl ty_sc9 (fun w hh => (hAφ w (hh _ (.head _))) k (encL x) hx' 0 (.string x.meter) rfl)) rfl ?_); clear hS a; intro a hS
            refine L_op (s_e hS (e_lenS rfl rfl ty_u9) rfl ?_); clear hS a; intro a hS
            refine L_op (s_e hS (e_bin rfl rfl rfl) rfl ?_); clear hS a; intro a hS
            refine L_nil ?_
            refine n_then ?_
            first | refine c_ifD hS rfl (fun hc59 => ?_) (fun hc59 => ?_) | refine c_if hS rfl (fun hc59 => ?_) (fun hc59 => ?_)
            ·
              refine c_seq ?_
              refine c_region ?_
              refine L_op (s_e hS (e_assign rfl) rfl ?_); clear hS a; intro a hS
              refine L_nil ?_
              refine n_then ?_
              refine wp_ret ?_
              refine r_block (r_then (r_then (r_block (r_then ?_))))
              refine c_ret1 hS Try.results5 (.tmp rfl) ?_
              exact ⟨by rfl, hS.chg⟩
            ·
              refine wp_skip ?_
              refine n_block ?_
              refine n_then ?_
              refine c_region ?_
              refine L_op (s_e hS (e_move rfl) rfl ?_); clear hS a; intro a hS
              first | (refine L_op (s_e hS (e_binN rfl rfl rfl (by omega)) rfl ?_); clear hS a; intro a hS) | (refine L_op (s_e hS (e_bin rfl rfl rfl) rfl ?_); clear hS a; intro a hS)
              refine L_op (s_e hS (e_assign rfl) rfl ?_); clear hS a; intro a hS
              refine L_nil ?_
              exact ⟨k + 1, by omega, hS.slots (by exact ⟨rfl, rfl, rfl, rfl, rfl, trivial⟩), by omega⟩
          ·
            refine wp_exit ?_
            refine x_then (x_then (x_hit ?_))
            refine n_then ?_
            refine c_seq ?_
            refine c_region ?_
            refine L_op (s_callN hS .nil cf14 rfl (New_P _) ?_); clear hS a; (try clear w); intro x60 a w hS
            refine L_op (s_e hS (e_assign rfl) rfl ?_); clear hS a; intro a hS
            refine L_nil ?_
            refine n_then ?_
            refine c_seq ?_
            refine c_seq ?_
            refine c_region ?_
            refine L_op (s_e hS (e_move rfl) rfl ?_); clear hS a; intro a hS
            refine L_op (s_e hS (e_nil rfl ty_u27) rfl ?_); clear hS a; intro a hS
            refine L_nil ?_
            refine n_then ?_
            replace hS := hS.is (t := 62) (c := false) rfl (rfl)
            refine c_if_f hS rfl ?_
            refine wp_skip ?_
            refine n_then ?_
            refine c_seq ?_
            refine c_region ?_
            have hbk := hS.get (X := bookA x60 (.slice none 0 0) [] true) (by repeat (first | exact .head _ | refine .tail _ ?_))
            have hri := hAφ w (hS.get (X := argA) (by repeat (first | exact .head _ | refine .tail _ ?_)))
            have hdj : ∀ r, p = some r → r.1 < w.heap.size ∧ ¬ bookF x60 (.slice none 0 0) [] r.1 := fun r hr => ⟨(hS.ok argA (by repeat (first | exact .head _ | refine .tail _ ?_))).lt _ (hAF r.1 r.2 hr), fun hb => two_apart hS (X := bookA x60 (.slice none 0 0) [] true) (Y := argA) (by repeat (first | exact List.nil_sublist _ | apply List.Sublist.cons_cons | apply List.Sublist.cons)) r.1 hb (hAF r.1 r.2 hr)⟩
            refine L_op (s_e hS (e_move rfl) rfl ?_); clear hS a; intro a hS
            refine L_op (s_e hS (e_move rfl) rfl ?_); clear hS a; intro a hS
            refine L_op (s_e hS (e_move rfl) rfl ?_); clear hS a; intro a hS
            refine L_op (s_e hS (e_move rfl) rfl ?_); clear hS a; intro a hS
            refine L_op (s_callP hS (.cons rfl (.cons rfl (.cons rfl (.cons rfl (.cons rfl (.cons rfl (.cons rfl .nil))))))) cf15 rfl (Issue_err x60 (.slice none 0 0) [] acme usd 5 f t p c l (by decide) (by decide) (fun x hx => by cases hx) (by omega) hfit _ hbk hri hdj hE) ?_); clear hS a; (try clear w); intro a w hS
            refine L_op (s_e hS (e_move rfl) rfl ?_); clear hS a; intro a hS
            refine L_op (s_e hS (e_extract rfl rfl) rfl ?_); clear hS a; intro a hS
            refine L_op (s_e hS (e_extract rfl rfl) rfl ?_); clear hS a; intro a hS
            refine L_op (s_e hS (e_assign rfl) rfl ?_); clear hS a; intro a hS
            refine L_op (s_e hS (e_assign rfl) rfl ?_); clear hS a; intro a hS
            refine L_nil ?_
            refine n_then ?_
            refine c_seq ?_
            refine c_seq ?_
            refine c_region ?_
            refine L_op (s_e hS (e_move rfl) rfl ?_); clear hS a; intro a hS
            refine L_op (s_callP hS (.cons rfl .nil) cf16 rfl (Num_w _ _) ?_); clear hS a; (try clear w); intro a w hS
            refine L_op (s_e hS (e_bin rfl rfl rfl) rfl ?_); clear hS a; intro a hS
            refine L_nil ?_
            refine n_then ?_
            replace hS := hS.is (t := 73) (c := true) rfl ((decide_eq_true hE))
            refine c_if_t hS rfl ?_
            refine c_seq ?_
            refine c_region ?_
            refine L_op (s_e hS (e_move rfl) rfl ?_); clear hS a; intro a hS
            refine L_op (s_e hS (e_move rfl) rfl ?_); clear hS a; intro a hS
            refine L_op (s_e hS (e_move rfl) rfl ?_); clear hS a; intro a hS
            refine L_op (s_callP hS (.cons rfl (.cons rfl (.cons rfl (.cons rfl .nil)))) cf26 rfl (Billed_P x60 (.slice none 0 0) [] acme f t (by decide) (fun x hx => by cases hx) _ (hS.get (X := bookA x60 (.slice none 0 0) [] true) (by repeat (first | exact .head _ | refine .tail _ ?_)))) ?_); clear hS a; (try clear w); intro a w hS
            refine L_op (s_e hS (e_not rfl) rfl ?_); clear hS a; intro a hS
            refine L_op (s_e hS (e_assign rfl) rfl ?_); clear hS a; intro a hS
            refine L_nil ?_
            refine n_then ?_
            refine wp_ret ?_
            refine r_then ?_
            refine c_ret1 hS Try.results5 (.tmp rfl) ?_
            exact ⟨by rfl, hS.chg⟩

/-- the bills of the law's story. -/
theorem times_2 {l : List RLine} {f t : Int} (h : issueE [] acme usd 5 f t l = 0) (hf : 0 ≤ f) (ht : f < t) (hx : t ≤ 1073741824) {x1 : IA} (v1 : x1.v = newInv 0 acme usd 5 f t l) : issueE [x1] acme usd 5 f t l = 3 := by
  have hs : x1.v.state ≠ 3 := by rw [v1]; unfold newInv; simp only; split <;> decide
  rw [issue_again h (by simp) acme_valid hf ht (by omega), if_pos]
  rw [some_cons, if_pos]
  · simp
  · unfold billedB
    simp only [Bool.and_eq_true, decide_eq_true_eq]
    exact ⟨⟨⟨by rw [v1]; rfl, hs⟩, by rw [v1]; exact ht⟩, by rw [v1]; exact ht⟩
theorem times_3 {l : List RLine} {f t : Int} (h : issueE [] acme usd 5 f t l = 0) (hf : 0 ≤ f) (ht : f < t) (hx : t ≤ 1073741824) {x1 : IA} (v1 : x1.v = newInv 0 acme usd 5 f t l) : issueE [x1] bob usd 5 f t l = 0 := by
  rw [issue_again h (by simp) bob_valid hf ht (by omega), if_neg]
  rw [some_cons, some_nil, if_neg]
  · simp
  · unfold billedB
    simp only [Bool.and_eq_true, decide_eq_true_eq]
    rintro ⟨⟨⟨e, _⟩, _⟩, _⟩
    rw [v1] at e
    exact bob_acme e
theorem times_4 {l : List RLine} {f t g : Int} (h : issueE [] acme usd 5 f t l = 0) (hf : 0 ≤ f) (ht : f < t) (hx : t ≤ 1073741824) (hg : 0 ≤ g ∧ g ≤ 8) {x1 x2 : IA} (v1 : x1.v = newInv 0 acme usd 5 f t l) (v2 : x2.v = newInv 1 bob usd 5 f t l) : issueE [x1, x2] acme usd 5 t (t + g + 1) l = 0 := by
  rw [issue_again h (by simp) acme_valid (by omega) (by omega) (by omega), if_neg]
  rw [some_cons, some_cons, some_nil, if_neg, if_neg]
  · simp
  · unfold billedB
    simp only [Bool.and_eq_true, decide_eq_true_eq]
    rintro ⟨⟨⟨e, _⟩, _⟩, _⟩
    rw [v2] at e
    exact bob_acme e.symm
  · unfold billedB
    simp only [Bool.and_eq_true, decide_eq_true_eq]
    rintro ⟨⟨_, e⟩, _⟩
    rw [v1] at e
    exact absurd (show t < t from e) (by omega)
theorem times_5 {l : List RLine} {f t g : Int} (h : issueE [] acme usd 5 f t l = 0) (hf : 0 ≤ f) (ht : f < t) (hx : t ≤ 1073741824) {x1 x2 x3 : IA} (v1 : x1.v.state = 3) (v2 : x2.v = newInv 1 bob usd 5 f t l) (v3 : x3.v = newInv 2 acme usd 5 t (t + g + 1) l) : issueE [x1, x2, x3] acme usd 5 f t l = 0 := by
  rw [issue_again h (by simp) acme_valid hf ht (by omega), if_neg]
  rw [some_cons, some_cons, some_cons, some_nil, if_neg, if_neg, if_neg]
  · simp
  · unfold billedB
    simp only [Bool.and_eq_true, decide_eq_true_eq]
    rintro ⟨⟨⟨_, _⟩, _⟩, e⟩
    rw [v3] at e
    exact absurd (show t < t from e) (by omega)
  · unfold billedB
    simp only [Bool.and_eq_true, decide_eq_true_eq]
    rintro ⟨⟨⟨e, _⟩, _⟩, _⟩
    rw [v2] at e
    exact bob_acme e.symm
  · unfold billedB
    simp only [Bool.and_eq_true, decide_eq_true_eq]
    rintro ⟨⟨⟨_, e⟩, _⟩, _⟩
    exact e v1
theorem gap_one (g : Int) : -9 < Int.tmod g 9 ∧ Int.tmod g 9 < 9 := by
  have h1 := Int.tmod_lt_of_pos g (show (0 : Int) < 9 by decide)
  have h2 := Int.tmod_lt_of_pos (-g) (show (0 : Int) < 9 by decide)
  rw [Int.neg_tmod] at h2
  omega

set_option maxHeartbeats 1000000 in
set_option maxRecDepth 100000 in
theorem InvoiceTimes_good (p : Option (Nat × Nat)) (c : Nat) (hpc : p = none → c = 0) (l : List RLine) (hfit : ∀ x ∈ l, x.fits) (f t gp : Int) (hlen : l.length ≤ 4611686018427387904)
    (w0 : World) (hrow : RowP p 4 (l.map encL) w0) (hpb : ∀ r, p = some r → r.1 < w0.heap.size)
    (hE : issueE [] acme usd 5 f t l = 0) : PureC Try.prog 5 [sliceV p l.length c, .int .i64 f, .int .i64 t, .int .i64 gp] w0 (.bool true) := by
  have hargs := ok_rowP hrow hpb
  generalize hA : rowP p 4 (l.map encL) = argA at hargs
  have hAφ : ∀ w, argA.φ w → RowP p 4 (l.map encL) w := fun w h => by subst hA; exact h
  have hAF : ∀ b off, p = some (b, off) → argA.F b := fun b off e => by subst hA; exact ⟨off, e⟩
  have hAm : argA.mine = false := by subst hA; rfl
  refine c_enter [(0, sliceV p l.length c), (1, .int .i64 f), (2, .int .i64 t), (3, .int .i64 gp)] [argA] noB Try.func5 rfl Try.ntmps5 ⟨rfl, rfl, rfl, rfl, trivial⟩ rfl (by intro X hX; obtain rfl := List.mem_singleton.1 hX; exact hargs) (by simp) (by intro X hX hm; obtain rfl := List.mem_singleton.1 hX; rw [hAm] at hm; cases hm) ?_
  intro a hS
  refine c_seq ?_
  refine c_region ?_
  refine L_op (s_e hS (e_assign rfl) rfl ?_); clear hS a; intro a hS
  refine L_nil ?_
  refine n_then ?_
  refine c_seq ?_
  refine c_region ?_
  refine L_op (s_callP hS .nil cf13 rfl (ifirst_P _) ?_); clear hS a; (try clear w); intro a w hS
  refine L_op (s_e hS (e_assign rfl) rfl ?_); clear hS a; intro a hS
  refine L_nil ?_
  refine n_then ?_
  refine c_seq ?_
  refine c_seq ?_
  refine c_region ?_
  refine L_op (s_e hS (e_move rfl) rfl ?_); clear hS a; intro a hS
  refine L_op (s_e hS (e_not rfl) rfl ?_); clear hS a; intro a hS
  refine L_op (s_e hS (e_move rfl) rfl ?_); clear hS a; intro a hS
  replace hS := hS.is (t := 28) (c := false) rfl (rfl)
  refine L_go hS rfl rfl (s_e hS (e_move rfl) rfl ?_); clear hS a; intro a hS
  refine L_go hS rfl rfl (s_e hS (e_len rfl rfl ty_sl22) rfl ?_); clear hS a; intro a hS
  refine L_go hS rfl rfl (s_e hS (e_bin rfl rfl rfl) rfl ?_); clear hS a; intro a hS
  first | (refine L_op (s_e hS (e_pick_t rfl rfl) rfl ?_); clear hS a; intro a hS) | (refine L_op (s_e hS (e_pick_f rfl rfl) rfl ?_); clear hS a; intro a hS)
  refine L_op (s_e hS (e_move rfl) rfl ?_); clear hS a; intro a hS
  (first | refine g_splitD (t := 33) hS rfl ?_ ?_ | refine g_split (t := 33) hS rfl ?_ ?_) <;> (clear hS; intro hg33 hS)
  ·
    refine L_skip_f hS rfl rfl rfl ?_; clear hS a; intro a hS
    refine L_skip_f hS rfl rfl rfl ?_; clear hS a; intro a hS
    first | (refine L_op (s_e hS (e_pick_t rfl rfl) rfl ?_); clear hS a; intro a hS) | (refine L_op (s_e hS (e_pick_f rfl rfl) rfl ?_); clear hS a; intro a hS)
    refine L_op (s_e hS (e_move rfl) rfl ?_); clear hS a; intro a hS
    refine L_skip_f hS rfl rfl rfl ?_; clear hS a; intro a hS
    refine L_skip_f hS rfl rfl rfl ?_; clear hS a; intro a hS
    refine L_skip_f hS rfl rfl rfl ?_; clear hS a; intro a hS
    first | (refine L_op (s_e hS (e_pick_t rfl rfl) rfl ?_); clear hS a; intro a hS) | (refine L_op (s_e hS (e_pick_f rfl rfl) rfl ?_); clear hS a; intro a hS)
    refine L_op (s_e hS (e_move rfl) rfl ?_); clear hS a; intro a hS
    refine L_skip_f hS rfl rfl rfl ?_; clear hS a; intro a hS
    refine L_skip_f hS rfl rfl rfl ?_; clear hS a; intro a hS
    first | (refine L_op (s_e hS (e_pick_t rfl rfl) rfl ?_); clear hS a; intro a hS) | (refine L_op (s_e hS (e_pick_f rfl rfl) rfl ?_); clear hS a; intro a hS)
    refine L_nil ?_
    refine n_then ?_
    refine c_if_t hS rfl ?_
    refine c_seq ?_
    refine c_region ?_
    refine L_op (s_e hS (e_move rfl) rfl ?_); clear hS a; intro a hS
    refine L_op (s_e hS (e_assign rfl) rfl ?_); clear hS a; intro a hS
    refine L_nil ?_
    refine n_then ?_
    refine wp_ret ?_
    refine r_then ?_
    refine c_ret1 hS Try.results5 (.tmp rfl) ?_
    exact ⟨by rfl, hS.chg⟩
  ·
    refine L_go hS rfl rfl (s_e hS (e_move rfl) rfl ?_); clear hS a; intro a hS
    refine L_go hS rfl rfl (s_e hS (e_bin rfl rfl rfl) rfl ?_); clear hS a; intro a hS
    first | (refine L_op (s_e hS (e_pick_t rfl rfl) rfl ?_); clear hS a; intro a hS) | (refine L_op (s_e hS (e_pick_f rfl rfl) rfl ?_); clear hS a; intro a hS)
    refine L_op (s_e hS (e_move rfl) rfl ?_); clear hS a; intro a hS
    (first | refine g_splitD (t := 37) hS rfl ?_ ?_ | refine g_split (t := 37) hS rfl ?_ ?_) <;> (clear hS; intro hg37 hS)
    ·
      refine L_skip_f hS rfl rfl rfl ?_; clear hS a; intro a hS
      refine L_skip_f hS rfl rfl rfl ?_; clear hS a; intro a hS
      refine L_skip_f hS rfl rfl rfl ?_; clear hS a; intro a hS
      first | (refine L_op (s_e hS (e_pick_t rfl rfl) rfl ?_); clear hS a; intro a hS) | (refine L_op (s_e hS (e_pick_f rfl rfl) rfl ?_); clear hS a; intro a hS)
      refine L_op (s_e hS (e_move rfl) rfl ?_); clear hS a; intro a hS
      refine L_skip_f hS rfl rfl rfl ?_; clear hS a; intro a hS
      refine L_skip_f hS rfl rfl rfl ?_; clear hS a; intro a hS
      first | (refine L_op (s_e hS (e_pick_t rfl rfl) rfl ?_); clear hS a; intro a hS) | (refine L_op (s_e hS (e_pick_f rfl rfl) rfl ?_); clear hS a; intro a hS)
      refine L_nil ?_
      refine n_then ?_
      refine c_if_t hS rfl ?_
      refine c_seq ?_
      refine c_region ?_
      refine L_op (s_e hS (e_move rfl) rfl ?_); clear hS a; intro a hS
      refine L_op (s_e hS (e_assign rfl) rfl ?_); clear hS a; intro a hS
      refine L_nil ?_
      refine n_then ?_
      refine wp_ret ?_
      refine r_then ?_
      refine c_ret1 hS Try.results5 (.tmp rfl) ?_
      exact ⟨by rfl, hS.chg⟩
    ·
      refine L_go hS rfl rfl (s_e hS (e_move rfl) rfl ?_); clear hS a; intro a hS
      refine L_go hS rfl rfl (s_e hS (e_move rfl) rfl ?_); clear hS a; intro a hS
      refine L_go hS rfl rfl (s_e hS (e_bin rfl rfl rfl) rfl ?_); clear hS a; intro a hS
      first | (refine L_op (s_e hS (e_pick_t rfl rfl) rfl ?_); clear hS a; intro a hS) | (refine L_op (s_e hS (e_pick_f rfl rfl) rfl ?_); clear hS a; intro a hS)
      refine L_op (s_e hS (e_move rfl) rfl ?_); clear hS a; intro a hS
      (first | refine g_splitD (t := 42) hS rfl ?_ ?_ | refine g_split (t := 42) hS rfl ?_ ?_) <;> (clear hS; intro hg42 hS)
      ·
        refine L_skip_f hS rfl rfl rfl ?_; clear hS a; intro a hS
        refine L_skip_f hS rfl rfl rfl ?_; clear hS a; intro a hS
        first | (refine L_op (s_e hS (e_pick_t rfl rfl) rfl ?_); clear hS a; intro a hS) | (refine L_op (s_e hS (e_pick_f rfl rfl) rfl ?_); clear hS a; intro a hS)
        refine L_nil ?_
        refine n_then ?_
        refine c_if_t hS rfl ?_
        refine c_seq ?_
        refine c_region ?_
        refine L_op (s_e hS (e_move rfl) rfl ?_); clear hS a; intro a hS
        refine L_op (s_e hS (e_assign rfl) rfl ?_); clear hS a; intro a hS
        refine L_nil ?_
        refine n_then ?_
        refine wp_ret ?_
        refine r_then ?_
        refine c_ret1 hS Try.results5 (.tmp rfl) ?_
        exact ⟨by rfl, hS.chg⟩
      ·
        refine L_go hS rfl rfl (s_e hS (e_move rfl) rfl ?_); clear hS a; intro a hS
        refine L_go hS rfl rfl (s_e hS (e_bin rfl rfl rfl) rfl ?_); clear hS a; intro a hS
        first | (refine L_op (s_e hS (e_pick_t rfl rfl) rfl ?_); clear hS a; intro a hS) | (refine L_op (s_e hS (e_pick_f rfl rfl) rfl ?_); clear hS a; intro a hS)
        refine L_nil ?_
        refine n_then ?_
        first | refine c_ifD hS rfl (fun hc45 => ?_) (fun hc45 => ?_) | refine c_if hS rfl (fun hc45 => ?_) (fun hc45 => ?_)
        ·
          refine c_seq ?_
          refine c_region ?_
          refine L_op (s_e hS (e_move rfl) rfl ?_); clear hS a; intro a hS
          refine L_op (s_e hS (e_assign rfl) rfl ?_); clear hS a; intro a hS
          refine L_nil ?_
          refine n_then ?_
          refine wp_ret ?_
          refine r_then ?_
          refine c_ret1 hS Try.results5 (.tmp rfl) ?_
          exact ⟨by rfl, hS.chg⟩
        ·
          refine wp_skip ?_
          refine n_then ?_
          refine c_seq ?_
          refine c_seq ?_
          refine c_region ?_
          refine L_op (s_e hS (e_assign rfl) rfl ?_); clear hS a; intro a hS
          refine L_nil ?_
          refine n_then ?_
          refine wp_block ?_
          skip
          refine c_loop (γ := Nat) (fun k a w => St 158 noB w0 a w [(10, .int .i64 (k : Int)), (0, sliceV p l.length c), (1, .int .i64 f), (2, .int .i64 t), (3, .int .i64 gp)] [argA] ∧ k ≤ l.length) (fun k => l.length - k) 0 ⟨hS.slots ⟨rfl, rfl, rfl, rfl, rfl, trivial⟩, Nat.zero_le _⟩ ?_
          clear hS a; (try clear w); intro k a w hI
          obtain ⟨hS, hk⟩ := hI
          refine c_seq ?_
          refine c_seq ?_
          refine c_region ?_
          refine L_op (s_e hS (e_move rfl) rfl ?_); clear hS a; intro a hS
          refine L_op (s_e hS (e_move rfl) rfl ?_); clear hS a; intro a hS
          refine L_op (s_e hS (e_len rfl rfl ty_sl22) rfl ?_); clear hS a; intro a hS
          refine L_op (s_e hS (e_bin rfl rfl rfl) rfl ?_); clear hS a; intro a hS
          refine L_nil ?_
          refine n_then ?_
          first | refine c_ifD hS rfl (fun hc50 => ?_) (fun hc50 => ?_) | refine c_if hS rfl (fun hc50 => ?_) (fun hc50 => ?_)
          ·
            obtain ⟨x, hx⟩ : ∃ x, l[k]? = some x := ⟨l[k], by simp⟩
            have hx' : (l.map encL)[k]? = some (encL x) := by simp [hx]
            obtain ⟨br, off, rfl⟩ := rowP_some hrow hx'
            refine wp_skip ?_
            refine n_then ?_
            refine c_seq ?_
            refine wp_block ?_
            refine c_seq ?_
            refine c_region ?_
            refine L_op (s_e hS (e_move rfl) rfl ?_); clear hS a; intro a hS
            refine L_op (s_e hS (e_move rfl) rfl ?_); clear hS a; intro a hS
            refine L_op (s_e hS (e_ixN rfl rfl ty_sl22 ty_sz26 (by omega)) rfl ?_); clear hS a; intro a hS
            first | (refine L_op (s_e hS (e_fa0 rfl ty_fo26_0) rfl ?_); clear hS a; intro a hS) | (refine L_op (s_e hS (e_faK rfl ty_fo26_0) rfl ?_); clear hS a; intro a hS)
            refine L_op (s_e hS (e_loadC rfl ty_sc9 (fun w hh => (hAφ w (hh _ (.head _))) k (encL x) hx' 0 (.string x.meter) rfl)) rfl ?_); clear hS a; intro a hS
            refine L_op (s_e hS (e_lenS rfl rfl ty_u9) rfl ?_); clear hS a; intro a hS
            refine L_op (s_e hS (e_bin rfl rfl rfl) rfl ?_); clear hS a; intro a hS
            refine L_nil ?_
            refine n_then ?_
            first | refine c_ifD hS rfl (fun hc59 => ?_) (fun hc59 => ?_) | refine c_if hS rfl (fun hc59 => ?_) (fun hc59 => ?_)
            ·
              refine c_seq ?_
              refine c_region ?_
              refine L_op (s_e hS (e_assign rfl) rfl ?_); clear hS a; intro a hS
              refine L_nil ?_
              refine n_then ?_
              refine wp_ret ?_
              refine r_block (r_then (r_then (r_block (r_then ?_))))
              refine c_ret1 hS Try.results5 (.tmp rfl) ?_
              exact ⟨by rfl, hS.chg⟩
            ·
              refine wp_skip ?_
              refine n_block ?_
              refine n_then ?_
              refine c_region ?_
              refine L_op (s_e hS (e_move rfl) rfl ?_); clear hS a; intro a hS
              first | (refine L_op (s_e hS (e_binN rfl rfl rfl (by omega)) rfl ?_); clear hS a; intro a hS) | (refine L_op (s_e hS (e_bin rfl rfl rfl) rfl ?_); clear hS a; intro a hS)
              refine L_op (s_e hS (e_assign rfl) rfl ?_); clear hS a; intro a hS
              refine L_nil ?_
              exact ⟨k + 1, by omega, hS.slots (by exact ⟨rfl, rfl, rfl, rfl, rfl, trivial⟩), by omega⟩
          ·
            refine wp_exit ?_
            refine x_then (x_then (x_hit ?_))
            refine n_then ?_
            refine c_seq ?_
            refine c_region ?_
            refine L_op (s_callN hS .nil cf14 rfl (New_P _) ?_); clear hS a; (try clear w); intro x60 a w hS
            refine L_op (s_e hS (e_assign rfl) rfl ?_); clear hS a; intro a hS
            refine L_nil ?_
            refine n_then ?_
            refine c_seq ?_
            refine c_seq ?_
            refine c_region ?_
            refine L_op (s_e hS (e_move rfl) rfl ?_); clear hS a; intro a hS
            refine L_op (s_e hS (e_nil rfl ty_u27) rfl ?_); clear hS a; intro a hS
            refine L_nil ?_
            refine n_then ?_
            replace hS := hS.is (t := 62) (c := false) rfl (rfl)
            refine c_if_f hS rfl ?_
            refine wp_skip ?_
            refine n_then ?_
            refine c_seq ?_
            refine c_region ?_
            have hbk := hS.get (X := bookA x60 (.slice none 0 0) [] true) (by repeat (first | exact .head _ | refine .tail _ ?_))
            have hri := hAφ w (hS.get (X := argA) (by repeat (first | exact .head _ | refine .tail _ ?_)))
            have hdj : ∀ r, p = some r → r.1 < w.heap.size ∧ ¬ bookF x60 (.slice none 0 0) [] r.1 := fun r hr => ⟨(hS.ok argA (by repeat (first | exact .head _ | refine .tail _ ?_))).lt _ (hAF r.1 r.2 hr), fun hb => two_apart hS (X := bookA x60 (.slice none 0 0) [] true) (Y := argA) (by repeat (first | exact List.nil_sublist _ | apply List.Sublist.cons_cons | apply List.Sublist.cons)) r.1 hb (hAF r.1 r.2 hr)⟩
            refine L_op (s_e hS (e_move rfl) rfl ?_); clear hS a; intro a hS
            refine L_op (s_e hS (e_move rfl) rfl ?_); clear hS a; intro a hS
            refine L_op (s_e hS (e_move rfl) rfl ?_); clear hS a; intro a hS
            refine L_op (s_e hS (e_move rfl) rfl ?_); clear hS a; intro a hS
            refine L_op (s_callM hS (.cons rfl (.cons rfl (.cons rfl (.cons rfl (.cons rfl (.cons rfl (.cons rfl .nil))))))) cf15 rfl (Issue_ok x60 (.slice none 0 0) [] acme usd 5 f t p c hpc l (by decide) (fun x hx => by cases hx) hfit _ hbk hri hdj hE) (fun x => (by repeat (first | apply Rep.head | apply Rep.tail))) rfl ?_); clear hS a; (try clear w); intro x68 a w hS
            obtain ⟨⟨sv, it0⟩, hv⟩ := x68
            simp only [List.nil_append] at hS
            have hv : it0.v = newInv 0 acme usd 5 f t l := hv
            obtain ⟨hg0, hs0⟩ := new_good (n := 0) hE
            have hll := hg0.lines
            rw [← hv] at hg0 hs0
            have hp0 : it0.v.paid = 0 := by rw [hv]; rfl
            have hc0 : it0.v.credited = 0 := by rw [hv]; rfl
            clear hbk hri hdj
            have e2 := times_2 hE (by omega) (by omega) (by omega) hv
            have e3 := times_3 hE (by omega) (by omega) (by omega) hv
            refine L_op (s_e hS (e_move rfl) rfl ?_); clear hS a; intro a hS
            refine L_op (s_e hS (e_extract rfl rfl) rfl ?_); clear hS a; intro a hS
            refine L_op (s_e hS (e_extract rfl rfl) rfl ?_); clear hS a; intro a hS
            refine L_op (s_e hS (e_assign rfl) rfl ?_); clear hS a; intro a hS
            refine L_op (s_e hS (e_assign rfl) rfl ?_); clear hS a; intro a hS
            refine L_nil ?_
            refine n_then ?_
            refine c_seq ?_
            refine c_seq ?_
            refine c_region ?_
            refine L_op (s_e hS (e_move rfl) rfl ?_); clear hS a; intro a hS
            refine L_op (s_callP hS (.cons rfl .nil) cf16 rfl (Num_w 0 _) ?_); clear hS a; (try clear w); intro a w hS
            refine L_op (s_e hS (e_bin rfl rfl rfl) rfl ?_); clear hS a; intro a hS
            refine L_nil ?_
            refine n_then ?_
            replace hS := hS.is (t := 73) (c := false) rfl ((by decide))
            refine c_if_f hS rfl ?_
            refine wp_skip ?_
            refine n_then ?_
            refine c_seq ?_
            refine c_region ?_
            refine L_op (s_e hS (e_move rfl) rfl ?_); clear hS a; intro a hS
            first | (refine L_op (s_e hS (e_remN rfl rfl (by omega)) rfl ?_); clear hS a; intro a hS) | (refine L_op (s_e hS (e_rem rfl rfl (by omega)) rfl ?_); clear hS a; intro a hS)
            have hgm := gap_one gp
            first | (refine L_op (s_e hS (e_binN rfl rfl rfl (by omega)) rfl ?_); clear hS a; intro a hS) | (refine L_op (s_e hS (e_bin rfl rfl rfl) rfl ?_); clear hS a; intro a hS)
            first | (refine L_op (s_e hS (e_remN rfl rfl (by omega)) rfl ?_); clear hS a; intro a hS) | (refine L_op (s_e hS (e_rem rfl rfl (by omega)) rfl ?_); clear hS a; intro a hS)
            refine L_op (s_e hS (e_assign rfl) rfl ?_); clear hS a; intro a hS
            refine L_nil ?_
            refine n_then ?_
            refine c_seq ?_
            refine c_region ?_
            obtain ⟨gg, hgg⟩ : ∃ gg, gg = (Int.tmod gp 9 + 9) % 9 := ⟨_, rfl⟩
            rw [← hgg] at hS
            have hgr : 0 ≤ gg ∧ gg ≤ 8 := by rw [hgg]; omega
            have hbk := hS.get (X := bookA x60 sv [it0] true) (by repeat (first | exact .head _ | refine .tail _ ?_))
            have hri := hAφ w (hS.get (X := argA) (by repeat (first | exact .head _ | refine .tail _ ?_)))
            have hdj : ∀ r, p = some r → r.1 < w.heap.size ∧ ¬ bookF x60 sv [it0] r.1 := fun r hr => ⟨(hS.ok argA (by repeat (first | exact .head _ | refine .tail _ ?_))).lt _ (hAF r.1 r.2 hr), fun hb => two_apart hS (X := bookA x60 sv [it0] true) (Y := argA) (by repeat (first | exact List.nil_sublist _ | apply List.Sublist.cons_cons | apply List.Sublist.cons)) r.1 hb (hAF r.1 r.2 hr)⟩
            refine L_op (s_e hS (e_move rfl) rfl ?_); clear hS a; intro a hS
            refine L_op (s_e hS (e_move rfl) rfl ?_); clear hS a; intro a hS
            refine L_op (s_e hS (e_move rfl) rfl ?_); clear hS a; intro a hS
            refine L_op (s_e hS (e_move rfl) rfl ?_); clear hS a; intro a hS
            refine L_op (s_callP hS (.cons rfl (.cons rfl (.cons rfl (.cons rfl (.cons rfl (.cons rfl (.cons rfl .nil))))))) cf15 rfl (Issue_err x60 sv [it0] acme usd 5 f t p c l (by decide) (by simp) (fun x hx => by obtain rfl := List.mem_singleton.1 hx; have := hg0.lines; omega) (by have := hll; simp only [newInv] at this; omega) hfit _ hbk hri hdj (by rw [e2]; decide)) ?_); clear hS a; (try clear w); intro a w hS
            rw [e2] at hS; clear hbk hri hdj
            refine L_op (s_e hS (e_move rfl) rfl ?_); clear hS a; intro a hS
            refine L_op (s_e hS (e_extract rfl rfl) rfl ?_); clear hS a; intro a hS
            refine L_op (s_e hS (e_extract rfl rfl) rfl ?_); clear hS a; intro a hS
            refine L_op (s_e hS (e_assign rfl) rfl ?_); clear hS a; intro a hS
            refine L_op (s_e hS (e_assign rfl) rfl ?_); clear hS a; intro a hS
            refine L_nil ?_
            refine n_then ?_
            refine c_seq ?_
            refine c_region ?_
            have hbk := hS.get (X := bookA x60 sv [it0] true) (by repeat (first | exact .head _ | refine .tail _ ?_))
            have hri := hAφ w (hS.get (X := argA) (by repeat (first | exact .head _ | refine .tail _ ?_)))
            have hdj : ∀ r, p = some r → r.1 < w.heap.size ∧ ¬ bookF x60 sv [it0] r.1 := fun r hr => ⟨(hS.ok argA (by repeat (first | exact .head _ | refine .tail _ ?_))).lt _ (hAF r.1 r.2 hr), fun hb => two_apart hS (X := bookA x60 sv [it0] true) (Y := argA) (by repeat (first | exact List.nil_sublist _ | apply List.Sublist.cons_cons | apply List.Sublist.cons)) r.1 hb (hAF r.1 r.2 hr)⟩
            refine L_op (s_e hS (e_move rfl) rfl ?_); clear hS a; intro a hS
            refine L_op (s_e hS (e_move rfl) rfl ?_); clear hS a; intro a hS
            refine L_op (s_e hS (e_move rfl) rfl ?_); clear hS a; intro a hS
            refine L_op (s_e hS (e_move rfl) rfl ?_); clear hS a; intro a hS
            refine L_op (s_callM hS (.cons rfl (.cons rfl (.cons rfl (.cons rfl (.cons rfl (.cons rfl (.cons rfl .nil))))))) cf15 rfl (Issue_ok x60 sv [it0] bob usd 5 f t p c hpc l (by decide) (fun x hx => by obtain rfl := List.mem_singleton.1 hx; have := hg0.lines; omega) hfit _ hbk hri hdj e3) (fun x => (by repeat (first | apply Rep.head | apply Rep.tail))) rfl ?_); clear hS a; (try clear w); intro x96 a w hS
            obtain ⟨⟨sv2, it1⟩, hv1⟩ := x96
            simp only [List.cons_append, List.nil_append] at hS
            have hv1 : it1.v = newInv 1 bob usd 5 f t l := hv1
            have hl1 : it1.v.lines.length ≤ 50 := by rw [hv1]; exact hll
            have e4 := times_4 hE (by omega) (by omega) (by omega) hgr hv hv1
            clear hbk hri hdj
            refine L_op (s_e hS (e_move rfl) rfl ?_); clear hS a; intro a hS
            refine L_op (s_e hS (e_extract rfl rfl) rfl ?_); clear hS a; intro a hS
            refine L_op (s_e hS (e_extract rfl rfl) rfl ?_); clear hS a; intro a hS
            refine L_op (s_e hS (e_assign rfl) rfl ?_); clear hS a; intro a hS
            refine L_op (s_e hS (e_assign rfl) rfl ?_); clear hS a; intro a hS
            refine L_nil ?_
            refine n_then ?_
            refine c_seq ?_
            refine c_region ?_
            have hbk := hS.get (X := bookA x60 sv2 [it0, it1] true) (by repeat (first | exact .head _ | refine .tail _ ?_))
            have hri := hAφ w (hS.get (X := argA) (by repeat (first | exact .head _ | refine .tail _ ?_)))
            have hdj : ∀ r, p = some r → r.1 < w.heap.size ∧ ¬ bookF x60 sv2 [it0, it1] r.1 := fun r hr => ⟨(hS.ok argA (by repeat (first | exact .head _ | refine .tail _ ?_))).lt _ (hAF r.1 r.2 hr), fun hb => two_apart hS (X := bookA x60 sv2 [it0, it1] true) (Y := argA) (by repeat (first | exact List.nil_sublist _ | apply List.Sublist.cons_cons | apply List.Sublist.cons)) r.1 hb (hAF r.1 r.2 hr)⟩
            refine L_op (s_e hS (e_move rfl) rfl ?_); clear hS a; intro a hS
            refine L_op (s_e hS (e_move rfl) rfl ?_); clear hS a; intro a hS
            refine L_op (s_e hS (e_move rfl) rfl ?_); clear hS a; intro a hS
            refine L_op (s_e hS (e_move rfl) rfl ?_); clear hS a; intro a hS
            first | (refine L_op (s_e hS (e_binN rfl rfl rfl (by omega)) rfl ?_); clear hS a; intro a hS) | (refine L_op (s_e hS (e_bin rfl rfl rfl) rfl ?_); clear hS a; intro a hS)
            first | (refine L_op (s_e hS (e_binN rfl rfl rfl (by omega)) rfl ?_); clear hS a; intro a hS) | (refine L_op (s_e hS (e_bin rfl rfl rfl) rfl ?_); clear hS a; intro a hS)
            refine L_op (s_e hS (e_move rfl) rfl ?_); clear hS a; intro a hS
            refine L_op (s_callM hS (.cons rfl (.cons rfl (.cons rfl (.cons rfl (.cons rfl (.cons rfl (.cons rfl .nil))))))) cf15 rfl (Issue_ok x60 sv2 [it0, it1] acme usd 5 t (t + gg + 1) p c hpc l (by decide) (fun x hx => by have := hg0.lines; simp only [List.mem_cons, List.not_mem_nil, or_false] at hx; rcases hx with rfl | rfl <;> omega) hfit _ hbk hri hdj e4) (fun x => (by repeat (first | apply Rep.head | apply Rep.tail))) rfl ?_); clear hS a; (try clear w); intro x107 a w hS
            obtain ⟨⟨sv3, it2⟩, hv2⟩ := x107
            simp only [List.cons_append, List.nil_append] at hS
            have hv2 : it2.v = newInv 2 acme usd 5 t (t + gg + 1) l := hv2
            have hl2 : it2.v.lines.length ≤ 50 := by rw [hv2]; exact hll
            clear hbk hri hdj
            refine L_op (s_e hS (e_move rfl) rfl ?_); clear hS a; intro a hS
            refine L_op (s_e hS (e_extract rfl rfl) rfl ?_); clear hS a; intro a hS
            refine L_op (s_e hS (e_extract rfl rfl) rfl ?_); clear hS a; intro a hS
            refine L_op (s_e hS (e_assign rfl) rfl ?_); clear hS a; intro a hS
            refine L_op (s_e hS (e_assign rfl) rfl ?_); clear hS a; intro a hS
            refine L_nil ?_
            refine n_then ?_
            refine c_seq ?_
            refine c_region ?_
            refine L_op (s_e hS (e_move rfl) rfl ?_); clear hS a; intro a hS
            refine L_op (s_e hS (e_move rfl) rfl ?_); clear hS a; intro a hS
            refine L_op (s_callN hS (.cons rfl (.cons rfl .nil)) cf17 rfl (Get_some x60 sv3 [it0, it1, it2] 0 it0 rfl (by simp) (by have := hg0.lines; omega) _ (hS.get (X := bookA x60 sv3 [it0, it1, it2] true) (by repeat (first | exact .head _ | refine .tail _ ?_)))) ?_); clear hS a; (try clear w); intro x113 a w hS
            refine L_op (s_e hS (e_move rfl) rfl ?_); clear hS a; intro a hS
            refine L_op (s_e hS (e_extract rfl rfl) rfl ?_); clear hS a; intro a hS
            refine L_op (s_e hS (e_extract rfl rfl) rfl ?_); clear hS a; intro a hS
            refine L_op (s_alloc hS ty_z34 rfl ?_); clear hS a; (try clear w); intro a w b20 hS
            refine L_op (s_storeA hS rfl rfl ty_sz34 (by repeat (first | apply Rep.head | apply Rep.tail)) (by rfl) (by rfl) (by rfl) ?_); clear hS; (try clear w); intro w hS
            refine L_op (s_e hS (e_assign rfl) rfl ?_); clear hS a; intro a hS
            refine L_nil ?_
            refine n_then ?_
            refine c_seq ?_
            refine c_region ?_
            refine L_op (s_e hS (e_move rfl) rfl ?_); clear hS a; intro a hS
            refine L_op (s_e hS (e_move rfl) rfl ?_); clear hS a; intro a hS
            refine L_op (s_callM hS (.cons rfl (.cons rfl .nil)) cf22 rfl (Void_any x60 sv3 [it0, it1, it2] 0 it0 rfl hg0 (by simp) _ (hS.get (X := bookA x60 sv3 [it0, it1, it2] true) (by repeat (first | exact .head _ | refine .tail _ ?_)))) (fun x => (by repeat (first | apply Rep.head | apply Rep.tail))) rfl ?_); clear hS a; (try clear w); intro x118 a w hS
            obtain ⟨⟨itv, ve⟩, hrel⟩ := x118
            simp only [List.set_cons_zero] at hS
            have hrel : VoidRel it0 itv ve := hrel
            unfold VoidRel at hrel
            have hst0 := hs0
            unfold stOf leftI at hst0
            refine L_op (s_e hS (e_assign rfl) rfl ?_); clear hS a; intro a hS
            refine L_nil ?_
            refine n_then ?_
            refine c_seq ?_
            refine c_seq ?_
            refine c_region ?_
            refine L_op (s_e hS (e_move rfl) rfl ?_); clear hS a; intro a hS
            refine L_op (s_callP hS (.cons rfl .nil) cf16 rfl (Num_w 3 _) ?_); clear hS a; (try clear w); intro a w hS
            refine L_op (s_e hS (e_bin rfl rfl rfl) rfl ?_); clear hS a; intro a hS
            refine L_op (s_e hS (e_move rfl) rfl ?_); clear hS a; intro a hS
            replace hS := hS.is (t := 122) (c := false) rfl ((by decide))
            refine L_go hS rfl rfl (s_e hS (e_move rfl) rfl ?_); clear hS a; intro a hS
            refine L_go hS rfl rfl (s_callP hS (.cons rfl .nil) cf16 rfl (Num_w 0 _) ?_); clear hS a; (try clear w); intro a w hS
            refine L_go hS rfl rfl (s_e hS (e_bin rfl rfl rfl) rfl ?_); clear hS a; intro a hS
            first | (refine L_op (s_e hS (e_pick_t rfl rfl) rfl ?_); clear hS a; intro a hS) | (refine L_op (s_e hS (e_pick_f rfl rfl) rfl ?_); clear hS a; intro a hS)
            refine L_op (s_e hS (e_move rfl) rfl ?_); clear hS a; intro a hS
            replace hS := hS.is (t := 127) (c := false) rfl ((by decide))
            refine L_go hS rfl rfl (s_e hS (e_move rfl) rfl ?_); clear hS a; intro a hS
            refine L_go hS rfl rfl (s_callP hS (.cons rfl .nil) cf16 rfl (Num_w 0 _) ?_); clear hS a; (try clear w); intro a w hS
            refine L_go hS rfl rfl (s_e hS (e_bin rfl rfl rfl) rfl ?_); clear hS a; intro a hS
            first | (refine L_op (s_e hS (e_pick_t rfl rfl) rfl ?_); clear hS a; intro a hS) | (refine L_op (s_e hS (e_pick_f rfl rfl) rfl ?_); clear hS a; intro a hS)
            refine L_nil ?_
            refine n_then ?_
            replace hS := hS.is (t := 131) (c := false) rfl ((by decide))
            refine c_if_f hS rfl ?_
            refine wp_skip ?_
            refine n_then ?_
            refine c_seq ?_
            refine c_seq ?_
            refine c_region ?_
            first | (refine L_op (s_e hS (e_fa0 rfl ty_fo34_9) rfl ?_); clear hS a; intro a hS) | (refine L_op (s_e hS (e_faK rfl ty_fo34_9) rfl ?_); clear hS a; intro a hS)
            refine L_op (s_e hS (e_load rfl (by repeat (first | exact .head _ | refine .tail _ ?_)) ty_sc3 (by rfl)) rfl ?_); clear hS a; intro a hS
            refine L_op (s_e hS (e_bin rfl rfl rfl) rfl ?_); clear hS a; intro a hS
            refine L_nil ?_
            refine n_then ?_
            first | refine c_ifD hS rfl (fun hc134 => ?_) (fun hc134 => ?_) | refine c_if hS rfl (fun hc134 => ?_) (fun hc134 => ?_)
            ·
              refine c_seq ?_
              refine c_region ?_
              refine L_op (s_e hS (e_move rfl) rfl ?_); clear hS a; intro a hS
              refine L_op (s_callP hS (.cons rfl .nil) cf16 rfl (Num_w _ _) ?_); clear hS a; (try clear w); intro a w hS
              refine L_op (s_e hS (e_bin rfl rfl rfl) rfl ?_); clear hS a; intro a hS
              refine L_op (s_e hS (e_assign rfl) rfl ?_); clear hS a; intro a hS
              refine L_nil ?_
              refine n_then ?_
              refine wp_ret ?_
              refine r_then ?_
              refine c_ret1 hS Try.results5 (.tmp rfl) ?_
              have hve : ve = 25 := by rcases hrel with ⟨_, h, _⟩ | ⟨h1, _, _, _⟩ <;> omega
              subst hve
              exact ⟨by rfl, hS.chg⟩
            ·
              refine wp_skip ?_
              refine n_then ?_
              refine c_seq ?_
              refine c_region ?_
              have hve : ve = 0 ∧ itv.v.state = 3 := by
                rcases hrel with ⟨h1, _⟩ | ⟨_, _, h3, h4⟩
                · exfalso; omega
                · exact ⟨h3, by rw [h4]; rfl⟩
              have hlv : itv.v.lines.length ≤ 50 := by
                have := hg0.lines
                rcases hrel with ⟨_, _, h4⟩ | ⟨_, _, _, h4⟩ <;> rw [h4]
                · exact this
                · exact this
              obtain ⟨rfl, hv3⟩ := hve
              have e5 := times_5 (g := gg) hE (by omega) (by omega) (by omega) hv3 hv1 hv2
              have hbk := hS.get (X := bookA x60 sv3 [itv, it1, it2] true) (by repeat (first | exact .head _ | refine .tail _ ?_))
              have hri := hAφ w (hS.get (X := argA) (by repeat (first | exact .head _ | refine .tail _ ?_)))
              have hdj : ∀ r, p = some r → r.1 < w.heap.size ∧ ¬ bookF x60 sv3 [itv, it1, it2] r.1 := fun r hr => ⟨(hS.ok argA (by repeat (first | exact .head _ | refine .tail _ ?_))).lt _ (hAF r.1 r.2 hr), fun hb => two_apart hS (X := bookA x60 sv3 [itv, it1, it2] true) (Y := argA) (by repeat (first | exact List.nil_sublist _ | apply List.Sublist.cons_cons | apply List.Sublist.cons)) r.1 hb (hAF r.1 r.2 hr)⟩
              refine L_op (s_e hS (e_move rfl) rfl ?_); clear hS a; intro a hS
              refine L_op (s_e hS (e_move rfl) rfl ?_); clear hS a; intro a hS
              refine L_op (s_e hS (e_move rfl) rfl ?_); clear hS a; intro a hS
              refine L_op (s_e hS (e_move rfl) rfl ?_); clear hS a; intro a hS
              refine L_op (s_callM hS (.cons rfl (.cons rfl (.cons rfl (.cons rfl (.cons rfl (.cons rfl (.cons rfl .nil))))))) cf15 rfl (Issue_ok x60 sv3 [itv, it1, it2] acme usd 5 f t p c hpc l (by decide) (fun x hx => by simp only [List.mem_cons, List.not_mem_nil, or_false] at hx; rcases hx with rfl | rfl | rfl <;> omega) hfit _ hbk hri hdj e5) (fun x => (by repeat (first | apply Rep.head | apply Rep.tail))) rfl ?_); clear hS a; (try clear w); intro x143 a w hS
              refine L_op (s_e hS (e_move rfl) rfl ?_); clear hS a; intro a hS
              refine L_op (s_e hS (e_extract rfl rfl) rfl ?_); clear hS a; intro a hS
              refine L_op (s_e hS (e_extract rfl rfl) rfl ?_); clear hS a; intro a hS
              refine L_op (s_e hS (e_assign rfl) rfl ?_); clear hS a; intro a hS
              refine L_op (s_e hS (e_assign rfl) rfl ?_); clear hS a; intro a hS
              refine L_nil ?_
              refine n_then ?_
              refine c_seq ?_
              refine c_region ?_
              refine L_op (s_e hS (e_move rfl) rfl ?_); clear hS a; intro a hS
              refine L_op (s_callP hS (.cons rfl .nil) cf16 rfl (Num_w 0 _) ?_); clear hS a; (try clear w); intro a w hS
              refine L_op (s_e hS (e_bin rfl rfl rfl) rfl ?_); clear hS a; intro a hS
              refine L_op (s_e hS (e_move rfl) rfl ?_); clear hS a; intro a hS
              replace hS := hS.is (t := 149) (c := true) rfl ((by decide))
              refine L_go hS rfl rfl (s_e hS (e_move rfl) rfl ?_); clear hS a; intro a hS
              refine L_go hS rfl rfl (s_callP hS (.cons rfl .nil) cf16 rfl (Num_w 0 _) ?_); clear hS a; (try clear w); intro a w hS
              refine L_go hS rfl rfl (s_e hS (e_bin rfl rfl rfl) rfl ?_); clear hS a; intro a hS
              first | (refine L_op (s_e hS (e_pick_t rfl rfl) rfl ?_); clear hS a; intro a hS) | (refine L_op (s_e hS (e_pick_f rfl rfl) rfl ?_); clear hS a; intro a hS)
              refine L_op (s_e hS (e_move rfl) rfl ?_); clear hS a; intro a hS
              replace hS := hS.is (t := 154) (c := true) rfl ((by decide))
              refine L_go hS rfl rfl (s_e hS (e_move rfl) rfl ?_); clear hS a; intro a hS
              refine L_go hS rfl rfl (s_e hS (e_bin rfl rfl rfl) rfl ?_); clear hS a; intro a hS
              first | (refine L_op (s_e hS (e_pick_t rfl rfl) rfl ?_); clear hS a; intro a hS) | (refine L_op (s_e hS (e_pick_f rfl rfl) rfl ?_); clear hS a; intro a hS)
              refine L_op (s_e hS (e_assign rfl) rfl ?_); clear hS a; intro a hS
              refine L_nil ?_
              refine n_then ?_
              refine wp_ret ?_
              refine c_ret1 hS Try.results5 (.tmp rfl) ?_
              exact ⟨by rfl, hS.chg⟩

theorem InvoiceTimes_P (p : Option (Nat × Nat)) (c : Nat) (hpc : p = none → c = 0) (l : List RLine) (hfit : ∀ x ∈ l, x.fits) (f t gp : Int) (hlen : l.length ≤ 4611686018427387904)
    (w0 : World) (hrow : RowP p 4 (l.map encL) w0) (hpb : ∀ r, p = some r → r.1 < w0.heap.size) : PureC Try.prog 5 [sliceV p l.length c, .int .i64 f, .int .i64 t, .int .i64 gp] w0 (.bool true) := by
  by_cases hE : issueE [] acme usd 5 f t l = 0
  · exact InvoiceTimes_good p c hpc l hfit f t gp hlen w0 hrow hpb hE
  · exact InvoiceTimes_bad p c hpc l hfit f t gp hlen w0 hrow hpb hE
end Go.Proofs.Ytfiaobhkhedpiaa
