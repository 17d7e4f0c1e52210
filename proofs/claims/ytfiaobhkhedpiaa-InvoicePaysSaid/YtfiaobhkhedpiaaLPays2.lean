/- The law InvoicePays, walked: whatever lines and parts, it answers true. -/
import Derived.Test.YtfiaobhkhedpiaaLPays
namespace Go.Proofs.Ytfiaobhkhedpiaa
open Go.RowKit

set_option maxRecDepth 100000 in
theorem InvoicePays_bad (p : Option (Nat × Nat)) (c : Nat) (hpc : p = none → c = 0) (l : List RLine) (hfit : ∀ x ∈ l, x.fits) (q : Option (Nat × Nat)) (cq : Nat) (parts : List Int) (hlen : l.length ≤ 4611686018427387904)
    (hE : issueE [] acme usd 5 0 5 l ≠ 0)
    (w0 : World) (hrow : RowP p 4 (l.map encL) w0) (hpb : ∀ r, p = some r → r.1 < w0.heap.size) (hrow2 : RowP q 1 (parts.map encZ) w0) (hqb : ∀ r, q = some r → r.1 < w0.heap.size) :
    PureC Try.prog 3 [sliceV p l.length c, sliceV q parts.length cq] w0 (.bool true) := by
  have hargs : (Asn.any (fun b => (∃ off, p = some (b, off)) ∨ ∃ off, q = some (b, off)) (fun w => RowP p 4 (l.map encL) w ∧ RowP q 1 (parts.map encZ) w) false).ok w0 := by
    refine ⟨fun b hb => ?_, fun w' hw => ⟨((ok_rowP hrow hpb).hold w' (fun b hb => hw b (.inl hb))), ((ok_rowP hrow2 hqb).hold w' (fun b hb => hw b (.inr hb)))⟩⟩
    rcases hb with ⟨off, e⟩ | ⟨off, e⟩
    · exact hpb _ e
    · exact hqb _ e
  generalize hA : (Asn.any (fun b => (∃ off, p = some (b, off)) ∨ ∃ off, q = some (b, off)) (fun w => RowP p 4 (l.map encL) w ∧ RowP q 1 (parts.map encZ) w) false) = argA at hargs
  have hAφ : ∀ w, argA.φ w → RowP p 4 (l.map encL) w ∧ RowP q 1 (parts.map encZ) w := fun w h => by subst hA; exact h
  have hAF : ∀ b off, p = some (b, off) → argA.F b := fun b off e => by subst hA; exact .inl ⟨off, e⟩
  have hAm : argA.mine = false := by subst hA; rfl
  refine c_enter [(0, sliceV p l.length c), (1, sliceV q parts.length cq)] [argA] noB Try.func3 rfl Try.ntmps3 ⟨rfl, rfl, trivial⟩ rfl (by intro X hX; obtain rfl := List.mem_singleton.1 hX; exact hargs) (by simp) (by intro X hX hm; obtain rfl := List.mem_singleton.1 hX; rw [hAm] at hm; cases hm) ?_
  intro a hS
  refine c_seq ?_
  refine c_region ?_
  refine L_op (s_e hS (e_assign rfl) rfl ?_); clear hS a; intro a hS
  refine L_nil ?_
  refine n_then ?_
  refine c_seq ?_
  refine c_region ?_
  refine L_op (s_callP hS .nil cf13 rfl (ifirst_P _) ?_); clear hS a; (try clear w); intro a w hS
  refine L_op (s_e hS (e_assign rfl) rfl ?_); clear hS a; intro a hS
  refine L_nil ?_
  refine n_then ?_
  refine c_seq ?_
  refine c_seq ?_
  refine c_region ?_
  refine L_op (s_e hS (e_move rfl) rfl ?_); clear hS a; intro a hS
  refine L_op (s_e hS (e_not rfl) rfl ?_); clear hS a; intro a hS
  refine L_op (s_e hS (e_move rfl) rfl ?_); clear hS a; intro a hS
  replace hS := hS.is (t := 27) (c := false) rfl (rfl)
  refine L_go hS rfl rfl (s_e hS (e_move rfl) rfl ?_); clear hS a; intro a hS
  refine L_go hS rfl rfl (s_e hS (e_len rfl rfl ty_sl22) rfl ?_); clear hS a; intro a hS
  refine L_go hS rfl rfl (s_e hS (e_bin rfl rfl rfl) rfl ?_); clear hS a; intro a hS
  first | (refine L_op (s_e hS (e_pick_t rfl rfl) rfl ?_); clear hS a; intro a hS) | (refine L_op (s_e hS (e_pick_f rfl rfl) rfl ?_); clear hS a; intro a hS)
  refine L_op (s_e hS (e_move rfl) rfl ?_); clear hS a; intro a hS
  (first | refine g_splitD (t := 32) hS rfl ?_ ?_ | refine g_split (t := 32) hS rfl ?_ ?_) <;> (clear hS; intro hg32 hS)
  ·
    refine L_skip_f hS rfl rfl rfl ?_; clear hS a; intro a hS
    refine L_skip_f hS rfl rfl rfl ?_; clear hS a; intro a hS
    refine L_skip_f hS rfl rfl rfl ?_; clear hS a; intro a hS
    first | (refine L_op (s_e hS (e_pick_t rfl rfl) rfl ?_); clear hS a; intro a hS) | (refine L_op (s_e hS (e_pick_f rfl rfl) rfl ?_); clear hS a; intro a hS)
    refine L_nil ?_
    refine n_then ?_
    refine c_if_t hS rfl ?_
    refine c_seq ?_
    refine c_region ?_
    refine L_op (s_e hS (e_move rfl) rfl ?_); clear hS a; intro a hS
    refine L_op (s_e hS (e_assign rfl) rfl ?_); clear hS a; intro a hS
    refine L_nil ?_
    refine n_then ?_
    refine wp_ret ?_
    refine r_then ?_
    refine c_ret1 hS Try.results3 (.tmp rfl) ?_
    exact ⟨by rfl, hS.chg⟩
  ·
    refine L_go hS rfl rfl (s_e hS (e_move rfl) rfl ?_); clear hS a; intro a hS
    refine L_go hS rfl rfl (s_e hS (e_len rfl rfl ty_sl23) rfl ?_); clear hS a; intro a hS
    refine L_go hS rfl rfl (s_e hS (e_bin rfl rfl rfl) rfl ?_); clear hS a; intro a hS
    first | (refine L_op (s_e hS (e_pick_t rfl rfl) rfl ?_); clear hS a; intro a hS) | (refine L_op (s_e hS (e_pick_f rfl rfl) rfl ?_); clear hS a; intro a hS)
    refine L_nil ?_
    refine n_then ?_
    first | refine c_ifD hS rfl (fun hc36 => ?_) (fun hc36 => ?_) | refine c_if hS rfl (fun hc36 => ?_) (fun hc36 => ?_)
    ·
      refine c_seq ?_
      refine c_region ?_
      refine L_op (s_e hS (e_move rfl) rfl ?_); clear hS a; intro a hS
      refine L_op (s_e hS (e_assign rfl) rfl ?_); clear hS a; intro a hS
      refine L_nil ?_
      refine n_then ?_
      refine wp_ret ?_
      refine r_then ?_
      refine c_ret1 hS Try.results3 (.tmp rfl) ?_
      exact ⟨by rfl, hS.chg⟩
    ·
      refine wp_skip ?_
      refine n_then ?_
      refine c_seq ?_
      refine c_seq ?_
      refine c_region ?_
      refine L_op (s_e hS (e_assign rfl) rfl ?_); clear hS a; intro a hS
      refine L_nil ?_
      refine n_then ?_
      refine wp_block ?_
      skip
      refine c_loop (γ := Nat) (fun k a w => St 156 noB w0 a w [(6, .int .i64 (k : Int)), (0, sliceV p l.length c), (1, sliceV q parts.length cq)] [argA] ∧ k ≤ l.length) (fun k => l.length - k) 0 ⟨hS.slots ⟨rfl, rfl, rfl, trivial⟩, Nat.zero_le _⟩ ?_
      clear hS a; (try clear w); intro k a w hI
      obtain ⟨hS, hk⟩ := hI
      refine c_seq ?_
      refine c_seq ?_
      refine c_region ?_
      refine L_op (s_e hS (e_move rfl) rfl ?_); clear hS a; intro a hS
      refine L_op (s_e hS (e_move rfl) rfl ?_); clear hS a; intro a hS
      refine L_op (s_e hS (e_len rfl rfl ty_sl22) rfl ?_); clear hS a; intro a hS
      refine L_op (s_e hS (e_bin rfl rfl rfl) rfl ?_); clear hS a; intro a hS
      refine L_nil ?_
      refine n_then ?_
      first | refine c_ifD hS rfl (fun hc41 => ?_) (fun hc41 => ?_) | refine c_if hS rfl (fun hc41 => ?_) (fun hc41 => ?_)
      ·
        obtain ⟨x, hx⟩ : ∃ x, l[k]? = some x := ⟨l[k], by simp⟩
        have hx' : (l.map encL)[k]? = some (encL x) := by simp [hx]
        obtain ⟨br, off, rfl⟩ := rowP_some hrow hx'
        refine wp_skip ?_
        refine n_then ?_
        refine c_seq ?_
        refine wp_block ?_
        refine c_seq ?_
        refine c_region ?_
        refine L_op (s_e hS (e_move rfl) rfl ?_); clear hS a; intro a hS
        refine L_op (s_e hS (e_move rfl) rfl ?_); clear hS a; intro a hS
        refine L_op (s_e hS (e_ixN rfl rfl ty_sl22 ty_sz26 (by omega)) rfl ?_); clear hS a; intro a hS
        first | (refine L_op (s_e hS (e_fa0 rfl ty_fo26_0) rfl ?_); clear hS a; intro a hS) | (refine L_op (s_e hS (e_faK rfl ty_fo26_0) rfl ?_); clear hS a; intro a hS)
        refine L_op (s_e hS (e_loadC rfl ty_sc9 (fun w hh => (hAφ w (hh _ (.head _))).1 k (encL x) hx' 0 (.string x.meter) rfl)) rfl ?_); clear hS a; intro a hS
        refine L_op (s_e hS (e_lenS rfl rfl ty_u9) rfl ?_); clear hS a; intro a hS
        refine L_op (s_e hS (e_bin rfl rfl rfl) rfl ?_); clear hS a; intro a hS
        refine L_nil ?_
        refine n_then ?_
        first | refine c_ifD hS rfl (fun hc50 => ?_) (fun hc50 => ?_) | refine c_if hS rfl (fun hc50 => ?_) (fun hc50 => ?_)
        ·
          refine c_seq ?_
          refine c_region ?_
          refine L_op (s_e hS (e_assign rfl) rfl ?_); clear hS a; intro a hS
          refine L_nil ?_
          refine n_then ?_
          refine wp_ret ?_
          refine r_block (r_then (r_then (r_block (r_then ?_))))
          refine c_ret1 hS Try.results3 (.tmp rfl) ?_
          exact ⟨by rfl, hS.chg⟩
        ·
          refine wp_skip ?_
          refine n_block ?_
          refine n_then ?_
          refine c_region ?_
          refine L_op (s_e hS (e_move rfl) rfl ?_); clear hS a; intro a hS
          first | (refine L_op (s_e hS (e_binN rfl rfl rfl (by omega)) rfl ?_); clear hS a; intro a hS) | (refine L_op (s_e hS (e_bin rfl rfl rfl) rfl ?_); clear hS a; intro a hS)
          refine L_op (s_e hS (e_assign rfl) rfl ?_); clear hS a; intro a hS
          refine L_nil ?_
          exact ⟨k + 1, by omega, hS.slots (by exact ⟨rfl, rfl, rfl, trivial⟩), by omega⟩
      ·
        refine wp_exit ?_
        refine x_then (x_then (x_hit ?_))
        refine n_then ?_
        refine c_seq ?_
        refine c_region ?_
        refine L_op (s_callN hS .nil cf14 rfl (New_P _) ?_); clear hS a; (try clear w); intro x51 a w hS
        refine L_op (s_e hS (e_assign rfl) rfl ?_); clear hS a; intro a hS
        refine L_nil ?_
        refine n_then ?_
        refine c_seq ?_
        refine c_seq ?_
        refine c_region ?_
        refine L_op (s_e hS (e_move rfl) rfl ?_); clear hS a; intro a hS
        refine L_op (s_e hS (e_nil rfl ty_u27) rfl ?_); clear hS a; intro a hS
        refine L_nil ?_
        refine n_then ?_
        replace hS := hS.is (t := 53) (c := false) rfl (rfl)
        refine c_if_f hS rfl ?_
        refine wp_skip ?_
        refine n_then ?_
        refine c_seq ?_
        refine c_region ?_
        have hbk := hS.get (X := bookA x51 (.slice none 0 0) [] true) (.head _)
        have hri := (hAφ w (hS.get (X := argA) (by repeat (first | exact .head _ | refine .tail _ ?_)))).1
        have hro := (hAφ w (hS.get (X := argA) (by repeat (first | exact .head _ | refine .tail _ ?_)))).2
        have hsz := (hS.ok argA (by repeat (first | exact .head _ | refine .tail _ ?_))).lt
        have hdj : ∀ r, p = some r → r.1 < w.heap.size ∧ ¬ bookF x51 (.slice none 0 0) [] r.1 := fun r hr => ⟨hsz _ (hAF r.1 r.2 hr), fun hb => (List.pairwise_cons.1 hS.dis).1 argA (.head _) r.1 hb (hAF r.1 r.2 hr)⟩
        refine L_op (s_e hS (e_move rfl) rfl ?_); clear hS a; intro a hS
        refine L_op (s_e hS (e_move rfl) rfl ?_); clear hS a; intro a hS
        refine L_op (s_callP hS (.cons rfl (.cons rfl (.cons rfl (.cons rfl (.cons rfl (.cons rfl (.cons rfl .nil))))))) cf15 rfl (Issue_err x51 (.slice none 0 0) [] acme usd 5 0 5 p c l (by decide) (by decide) (fun x hx => by cases hx) (by omega) hfit _ hbk hri hdj hE) ?_); clear hS a; (try clear w); intro a w hS
        refine L_op (s_e hS (e_move rfl) rfl ?_); clear hS a; intro a hS
        refine L_op (s_e hS (e_extract rfl rfl) rfl ?_); clear hS a; intro a hS
        refine L_op (s_e hS (e_extract rfl rfl) rfl ?_); clear hS a; intro a hS
        refine L_op (s_e hS (e_assign rfl) rfl ?_); clear hS a; intro a hS
        refine L_op (s_e hS (e_assign rfl) rfl ?_); clear hS a; intro a hS
        refine L_nil ?_
        refine n_then ?_
        refine c_seq ?_
        refine c_seq ?_
        refine c_region ?_
        refine L_op (s_e hS (e_move rfl) rfl ?_); clear hS a; intro a hS
        refine L_op (s_callP hS (.cons rfl .nil) cf16 rfl (Num_w _ _) ?_); clear hS a; (try clear w); intro a w hS
        refine L_op (s_e hS (e_bin rfl rfl rfl) rfl ?_); clear hS a; intro a hS
        refine L_nil ?_
        refine n_then ?_
        replace hS := hS.is (t := 62) (c := true) rfl ((decide_eq_true hE))
        refine c_if_t hS rfl ?_
        refine c_seq ?_
        refine c_region ?_
        refine L_op (s_e hS (e_move rfl) rfl ?_); clear hS a; intro a hS
        refine L_op (s_e hS (e_bin rfl rfl rfl) rfl ?_); clear hS a; intro a hS
        refine L_op (s_e hS (e_assign rfl) rfl ?_); clear hS a; intro a hS
        refine L_nil ?_
        refine n_then ?_
        refine wp_ret ?_
        refine r_then ?_
        refine c_ret1 hS Try.results3 (.tmp rfl) ?_
        exact ⟨by rfl, hS.chg⟩
set_option maxRecDepth 100000 in
theorem InvoicePays_good (p : Option (Nat × Nat)) (c : Nat) (hpc : p = none → c = 0) (l : List RLine) (hfit : ∀ x ∈ l, x.fits) (q : Option (Nat × Nat)) (cq : Nat) (parts : List Int) (hparts : ∀ n ∈ parts, -9223372036854775808 ≤ n ∧ n ≤ 9223372036854775807) (hlen : l.length ≤ 4611686018427387904) (hlen2 : parts.length ≤ 4611686018427387904)
    (hE : issueE [] acme usd 5 0 5 l = 0)
    (w0 : World) (hrow : RowP p 4 (l.map encL) w0) (hpb : ∀ r, p = some r → r.1 < w0.heap.size) (hrow2 : RowP q 1 (parts.map encZ) w0) (hqb : ∀ r, q = some r → r.1 < w0.heap.size) :
    PureC Try.prog 3 [sliceV p l.length c, sliceV q parts.length cq] w0 (.bool true) := by
  have hargs : (Asn.any (fun b => (∃ off, p = some (b, off)) ∨ ∃ off, q = some (b, off)) (fun w => RowP p 4 (l.map encL) w ∧ RowP q 1 (parts.map encZ) w) false).ok w0 := by
    refine ⟨fun b hb => ?_, fun w' hw => ⟨((ok_rowP hrow hpb).hold w' (fun b hb => hw b (.inl hb))), ((ok_rowP hrow2 hqb).hold w' (fun b hb => hw b (.inr hb)))⟩⟩
    rcases hb with ⟨off, e⟩ | ⟨off, e⟩
    · exact hpb _ e
    · exact hqb _ e
  generalize hA : (Asn.any (fun b => (∃ off, p = some (b, off)) ∨ ∃ off, q = some (b, off)) (fun w => RowP p 4 (l.map encL) w ∧ RowP q 1 (parts.map encZ) w) false) = argA at hargs
  have hAφ : ∀ w, argA.φ w → RowP p 4 (l.map encL) w ∧ RowP q 1 (parts.map encZ) w := fun w h => by subst hA; exact h
  have hAF : ∀ b off, p = some (b, off) → argA.F b := fun b off e => by subst hA; exact .inl ⟨off, e⟩
  have hAm : argA.mine = false := by subst hA; rfl
  refine c_enter [(0, sliceV p l.length c), (1, sliceV q parts.length cq)] [argA] noB Try.func3 rfl Try.ntmps3 ⟨rfl, rfl, trivial⟩ rfl (by intro X hX; obtain rfl := List.mem_singleton.1 hX; exact hargs) (by simp) (by intro X hX hm; obtain rfl := List.mem_singleton.1 hX; rw [hAm] at hm; cases hm) ?_
  intro a hS
  refine c_seq ?_
  refine c_region ?_
  refine L_op (s_e hS (e_assign rfl) rfl ?_); clear hS a; intro a hS
  refine L_nil ?_
  refine n_then ?_
  refine c_seq ?_
  refine c_region ?_
  refine L_op (s_callP hS .nil cf13 rfl (ifirst_P _) ?_); clear hS a; (try clear w); intro a w hS
  refine L_op (s_e hS (e_assign rfl) rfl ?_); clear hS a; intro a hS
  refine L_nil ?_
  refine n_then ?_
  refine c_seq ?_
  refine c_seq ?_
  refine c_region ?_
  refine L_op (s_e hS (e_move rfl) rfl ?_); clear hS a; intro a hS
  refine L_op (s_e hS (e_not rfl) rfl ?_); clear hS a; intro a hS
  refine L_op (s_e hS (e_move rfl) rfl ?_); clear hS a; intro a hS
  replace hS := hS.is (t := 27) (c := false) rfl (rfl)
  refine L_go hS rfl rfl (s_e hS (e_move rfl) rfl ?_); clear hS a; intro a hS
  refine L_go hS rfl rfl (s_e hS (e_len rfl rfl ty_sl22) rfl ?_); clear hS a; intro a hS
  refine L_go hS rfl rfl (s_e hS (e_bin rfl rfl rfl) rfl ?_); clear hS a; intro a hS
  first | (refine L_op (s_e hS (e_pick_t rfl rfl) rfl ?_); clear hS a; intro a hS) | (refine L_op (s_e hS (e_pick_f rfl rfl) rfl ?_); clear hS a; intro a hS)
  refine L_op (s_e hS (e_move rfl) rfl ?_); clear hS a; intro a hS
  (first | refine g_splitD (t := 32) hS rfl ?_ ?_ | refine g_split (t := 32) hS rfl ?_ ?_) <;> (clear hS; intro hg32 hS)
  ·
    refine L_skip_f hS rfl rfl rfl ?_; clear hS a; intro a hS
    refine L_skip_f hS rfl rfl rfl ?_; clear hS a; intro a hS
    refine L_skip_f hS rfl rfl rfl ?_; clear hS a; intro a hS
    first | (refine L_op (s_e hS (e_pick_t rfl rfl) rfl ?_); clear hS a; intro a hS) | (refine L_op (s_e hS (e_pick_f rfl rfl) rfl ?_); clear hS a; intro a hS)
    refine L_nil ?_
    refine n_then ?_
    refine c_if_t hS rfl ?_
    refine c_seq ?_
    refine c_region ?_
    refine L_op (s_e hS (e_move rfl) rfl ?_); clear hS a; intro a hS
    refine L_op (s_e hS (e_assign rfl) rfl ?_); clear hS a; intro a hS
    refine L_nil ?_
    refine n_then ?_
    refine wp_ret ?_
    refine r_then ?_
    refine c_ret1 hS Try.results3 (.tmp rfl) ?_
    exact ⟨rfl, hS.chg⟩
  ·
    refine L_go hS rfl rfl (s_e hS (e_move rfl) rfl ?_); clear hS a; intro a hS
    refine L_go hS rfl rfl (s_e hS (e_len rfl rfl ty_sl23) rfl ?_); clear hS a; intro a hS
    refine L_go hS rfl rfl (s_e hS (e_bin rfl rfl rfl) rfl ?_); clear hS a; intro a hS
    first | (refine L_op (s_e hS (e_pick_t rfl rfl) rfl ?_); clear hS a; intro a hS) | (refine L_op (s_e hS (e_pick_f rfl rfl) rfl ?_); clear hS a; intro a hS)
    refine L_nil ?_
    refine n_then ?_
    first | refine c_ifD hS rfl (fun hc36 => ?_) (fun hc36 => ?_) | refine c_if hS rfl (fun hc36 => ?_) (fun hc36 => ?_)
    ·
      refine c_seq ?_
      refine c_region ?_
      refine L_op (s_e hS (e_move rfl) rfl ?_); clear hS a; intro a hS
      refine L_op (s_e hS (e_assign rfl) rfl ?_); clear hS a; intro a hS
      refine L_nil ?_
      refine n_then ?_
      refine wp_ret ?_
      refine r_then ?_
      refine c_ret1 hS Try.results3 (.tmp rfl) ?_
      exact ⟨rfl, hS.chg⟩
    ·
      refine wp_skip ?_
      refine n_then ?_
      refine c_seq ?_
      refine c_seq ?_
      refine c_region ?_
      refine L_op (s_e hS (e_assign rfl) rfl ?_); clear hS a; intro a hS
      refine L_nil ?_
      refine n_then ?_
      refine wp_block ?_
      skip
      refine c_loop (γ := Nat) (fun k a w => St 156 noB w0 a w [(6, .int .i64 (k : Int)), (0, sliceV p l.length c), (1, sliceV q parts.length cq)] [argA] ∧ k ≤ l.length) (fun k => l.length - k) 0 ⟨hS.slots ⟨rfl, rfl, rfl, trivial⟩, Nat.zero_le _⟩ ?_
      clear hS a; (try clear w); intro k a w hI
      obtain ⟨hS, hk⟩ := hI
      refine c_seq ?_
      refine c_seq ?_
      refine c_region ?_
      refine L_op (s_e hS (e_move rfl) rfl ?_); clear hS a; intro a hS
      refine L_op (s_e hS (e_move rfl) rfl ?_); clear hS a; intro a hS
      refine L_op (s_e hS (e_len rfl rfl ty_sl22) rfl ?_); clear hS a; intro a hS
      refine L_op (s_e hS (e_bin rfl rfl rfl) rfl ?_); clear hS a; intro a hS
      refine L_nil ?_
      refine n_then ?_
      first | refine c_ifD hS rfl (fun hc41 => ?_) (fun hc41 => ?_) | refine c_if hS rfl (fun hc41 => ?_) (fun hc41 => ?_)
      ·
        obtain ⟨x, hx⟩ : ∃ x, l[k]? = some x := ⟨l[k], by simp⟩
        have hx' : (l.map encL)[k]? = some (encL x) := by simp [hx]
        obtain ⟨br, off, rfl⟩ := rowP_some hrow hx'
        refine wp_skip ?_
        refine n_then ?_
        refine c_seq ?_
        refine wp_block ?_
        refine c_seq ?_
        refine c_region ?_
        refine L_op (s_e hS (e_move rfl) rfl ?_); clear hS a; intro a hS
        refine L_op (s_e hS (e_move rfl) rfl ?_); clear hS a; intro a hS
        refine L_op (s_e hS (e_ixN rfl rfl ty_sl22 ty_sz26 (by omega)) rfl ?_); clear hS a; intro a hS
        first | (refine L_op (s_e hS (e_fa0 rfl ty_fo26_0) rfl ?_); clear hS a; intro a hS) | (refine L_op (s_e hS (e_faK rfl ty_fo26_0) rfl ?_); clear hS a; intro a hS)
        refine L_op (s_e hS (e_loadC rfl ty_sc9 (fun w hh => (hAφ w (hh _ (.head _))).1 k (encL x) hx' 0 (.string x.meter) rfl)) rfl ?_); clear hS a; intro a hS
        refine L_op (s_e hS (e_lenS rfl rfl ty_u9) rfl ?_); clear hS a; intro a hS
        refine L_op (s_e hS (e_bin rfl rfl rfl) rfl ?_); clear hS a; intro a hS
        refine L_nil ?_
        refine n_then ?_
        first | refine c_ifD hS rfl (fun hc50 => ?_) (fun hc50 => ?_) | refine c_if hS rfl (fun hc50 => ?_) (fun hc50 => ?_)
        ·
          refine c_seq ?_
          refine c_region ?_
          refine L_op (s_e hS (e_assign rfl) rfl ?_); clear hS a; intro a hS
          refine L_nil ?_
          refine n_then ?_
          refine wp_ret ?_
          refine r_block (r_then (r_then (r_block (r_then ?_))))
          refine c_ret1 hS Try.results3 (.tmp rfl) ?_
          exact ⟨rfl, hS.chg⟩
        ·
          refine wp_skip ?_
          refine n_block ?_
          refine n_then ?_
          refine c_region ?_
          refine L_op (s_e hS (e_move rfl) rfl ?_); clear hS a; intro a hS
          first | (refine L_op (s_e hS (e_binN rfl rfl rfl (by omega)) rfl ?_); clear hS a; intro a hS) | (refine L_op (s_e hS (e_bin rfl rfl rfl) rfl ?_); clear hS a; intro a hS)
          refine L_op (s_e hS (e_assign rfl) rfl ?_); clear hS a; intro a hS
          refine L_nil ?_
          exact ⟨k + 1, by omega, hS.slots (by exact ⟨rfl, rfl, rfl, trivial⟩), by omega⟩
      ·
        refine wp_exit ?_
        refine x_then (x_then (x_hit ?_))
        refine n_then ?_
        refine c_seq ?_
        refine c_region ?_
        refine L_op (s_callN hS .nil cf14 rfl (New_P _) ?_); clear hS a; (try clear w); intro x51 a w hS
        refine L_op (s_e hS (e_assign rfl) rfl ?_); clear hS a; intro a hS
        refine L_nil ?_
        refine n_then ?_
        refine c_seq ?_
        refine c_seq ?_
        refine c_region ?_
        refine L_op (s_e hS (e_move rfl) rfl ?_); clear hS a; intro a hS
        refine L_op (s_e hS (e_nil rfl ty_u27) rfl ?_); clear hS a; intro a hS
        refine L_nil ?_
        refine n_then ?_
        replace hS := hS.is (t := 53) (c := false) rfl (rfl)
        refine c_if_f hS rfl ?_
        refine wp_skip ?_
        refine n_then ?_
        refine c_seq ?_
        refine c_region ?_
        have hbk := hS.get (X := bookA x51 (.slice none 0 0) [] true) (.head _)
        have hri := (hAφ w (hS.get (X := argA) (by repeat (first | exact .head _ | refine .tail _ ?_)))).1
        have hro := (hAφ w (hS.get (X := argA) (by repeat (first | exact .head _ | refine .tail _ ?_)))).2
        have hsz := (hS.ok argA (by repeat (first | exact .head _ | refine .tail _ ?_))).lt
        have hdj : ∀ r, p = some r → r.1 < w.heap.size ∧ ¬ bookF x51 (.slice none 0 0) [] r.1 := fun r hr => ⟨hsz _ (hAF r.1 r.2 hr), fun hb => (List.pairwise_cons.1 hS.dis).1 argA (.head _) r.1 hb (hAF r.1 r.2 hr)⟩
        refine L_op (s_e hS (e_move rfl) rfl ?_); clear hS a; intro a hS
        refine L_op (s_e hS (e_move rfl) rfl ?_); clear hS a; intro a hS
        refine L_op (s_callM hS (.cons rfl (.cons rfl (.cons rfl (.cons rfl (.cons rfl (.cons rfl (.cons rfl .nil))))))) cf15 rfl (Issue_ok x51 (.slice none 0 0) [] acme usd 5 0 5 p c hpc l (by decide) (fun x hx => by cases hx) hfit _ hbk hri hdj hE) (fun x => (by repeat (first | apply Rep.head | apply Rep.tail))) rfl ?_); clear hS a; (try clear w); intro x57 a w hS
        obtain ⟨⟨sv, it0⟩, hv⟩ := x57
        simp only [List.nil_append] at hS
        have hv : it0.v = newInv 0 acme usd 5 0 5 l := hv
        obtain ⟨hg0, hs0⟩ := new_good (n := 0) hE
        rw [← hv] at hg0 hs0
        have hp0 : it0.v.paid = 0 := by rw [hv]; rfl
        have hc0 : it0.v.credited = 0 := by rw [hv]; rfl
        refine L_op (s_e hS (e_move rfl) rfl ?_); clear hS a; intro a hS
        refine L_op (s_e hS (e_extract rfl rfl) rfl ?_); clear hS a; intro a hS
        refine L_op (s_e hS (e_extract rfl rfl) rfl ?_); clear hS a; intro a hS
        refine L_op (s_e hS (e_assign rfl) rfl ?_); clear hS a; intro a hS
        refine L_op (s_e hS (e_assign rfl) rfl ?_); clear hS a; intro a hS
        refine L_nil ?_
        refine n_then ?_
        refine c_seq ?_
        refine c_seq ?_
        refine c_region ?_
        refine L_op (s_e hS (e_move rfl) rfl ?_); clear hS a; intro a hS
        refine L_op (s_callP hS (.cons rfl .nil) cf16 rfl (Num_w 0 _) ?_); clear hS a; (try clear w); intro a w hS
        refine L_op (s_e hS (e_bin rfl rfl rfl) rfl ?_); clear hS a; intro a hS
        refine L_nil ?_
        refine n_then ?_
        replace hS := hS.is (t := 62) (c := false) rfl ((by decide))
        refine c_if_f hS rfl ?_
        refine wp_skip ?_
        refine n_then ?_
        refine c_seq ?_
        refine c_region ?_
        refine L_op (s_e hS (e_move rfl) rfl ?_); clear hS a; intro a hS
        refine L_op (s_e hS (e_move rfl) rfl ?_); clear hS a; intro a hS
        refine L_op (s_callN hS (.cons rfl (.cons rfl .nil)) cf17 rfl (Get_some x51 sv [it0] 0 it0 rfl (by simp) (by have := hg0.lines; omega) _ (hS.get (X := bookA x51 sv [it0] true) (by repeat (first | exact .head _ | refine .tail _ ?_)))) ?_); clear hS a; (try clear w); intro x68 a w hS
        refine L_op (s_e hS (e_move rfl) rfl ?_); clear hS a; intro a hS
        refine L_op (s_e hS (e_extract rfl rfl) rfl ?_); clear hS a; intro a hS
        refine L_op (s_e hS (e_extract rfl rfl) rfl ?_); clear hS a; intro a hS
        refine L_op (s_alloc hS ty_z34 rfl ?_); clear hS a; (try clear w); intro a w b10 hS
        refine L_op (s_storeA hS rfl rfl ty_sz34 (by repeat (first | apply Rep.head | apply Rep.tail)) (by rfl) (by rfl) (by rfl) ?_); clear hS; (try clear w); intro w hS
        refine L_op (s_e hS (e_assign rfl) rfl ?_); clear hS a; intro a hS
        refine L_nil ?_
        refine n_then ?_
        refine c_seq ?_
        refine c_region ?_
        first | (refine L_op (s_e hS (e_fa0 rfl ty_fo34_9) rfl ?_); clear hS a; intro a hS) | (refine L_op (s_e hS (e_faK rfl ty_fo34_9) rfl ?_); clear hS a; intro a hS)
        refine L_op (s_e hS (e_load rfl (by repeat (first | exact .head _ | refine .tail _ ?_)) ty_sc3 (by rfl)) rfl ?_); clear hS a; intro a hS
        refine L_op (s_e hS (e_assign rfl) rfl ?_); clear hS a; intro a hS
        refine L_nil ?_
        refine n_then ?_
        refine c_seq ?_
        refine c_seq ?_
        refine c_region ?_
        refine L_op (s_e hS (e_assign rfl) rfl ?_); clear hS a; intro a hS
        refine L_nil ?_
        refine n_then ?_
        refine wp_block ?_
        have hl0 : it0.v.total = leftI it0.v := by unfold leftI; omega
        have hS2 := hS.slots (L' := [(13, .int .i64 ((0 : Nat) : Int)), (1, sliceV q parts.length cq), (7, .pointer (some ⟨x51, 0, none⟩)), (8, .int .i64 1), (12, .int .i64 it0.v.total)]) ⟨rfl, rfl, rfl, rfl, rfl, trivial⟩
        rw [hl0] at hS2
        replace hS := hS2.drop (Γ' := [bookA x51 sv [it0] true, argA]) (by repeat (first | exact List.Sublist.refl _ | apply List.Sublist.cons))
        clear hS2
        refine c_loop (γ := (Nat × IA)) (fun G a w => St 156 noB w0 a w [(13, .int .i64 (G.1 : Int)), (1, sliceV q parts.length cq), (7, .pointer (some ⟨x51, 0, none⟩)), (8, .int .i64 1), (12, .int .i64 (leftI G.2.v))] [bookA x51 sv [G.2] true, argA] ∧ G.1 ≤ parts.length ∧ goodI G.2.v ∧ stOf G.2.v) (fun G => parts.length - G.1) (0, it0) ⟨hS, Nat.zero_le _, hg0, hs0⟩ ?_
        clear hS a; (try clear w); intro G a w hI
        obtain ⟨i, it⟩ := G
        obtain ⟨hS, hk2, hgd, hst⟩ := hI
        simp only at hS hk2 hgd hst
        refine c_seq ?_
        refine c_seq ?_
        refine c_region ?_
        refine L_op (s_e hS (e_move rfl) rfl ?_); clear hS a; intro a hS
        refine L_op (s_e hS (e_move rfl) rfl ?_); clear hS a; intro a hS
        refine L_op (s_e hS (e_len rfl rfl ty_sl23) rfl ?_); clear hS a; intro a hS
        refine L_op (s_e hS (e_bin rfl rfl rfl) rfl ?_); clear hS a; intro a hS
        refine L_nil ?_
        refine n_then ?_
        first | refine c_ifD hS rfl (fun hc76 => ?_) (fun hc76 => ?_) | refine c_if hS rfl (fun hc76 => ?_) (fun hc76 => ?_)
        ·
          obtain ⟨pay, hpay⟩ : ∃ n, parts[i]? = some n := ⟨parts[i], by simp⟩
          have hpay' : (parts.map encZ)[i]? = some (encZ pay) := by simp [hpay]
          obtain ⟨bq, offq, rfl⟩ := rowP_some hrow2 hpay'
          have hpb2 := hparts pay (List.mem_of_getElem? hpay)
          refine wp_skip ?_
          refine n_then ?_
          refine c_seq ?_
          refine wp_block ?_
          refine c_seq ?_
          refine c_region ?_
          refine L_op (s_e hS (e_move rfl) rfl ?_); clear hS a; intro a hS
          refine L_op (s_e hS (e_move rfl) rfl ?_); clear hS a; intro a hS
          refine L_op (s_e hS (e_ixN rfl rfl ty_sl23 ty_sz3 (by omega)) rfl ?_); clear hS a; intro a hS
          refine L_op (s_e hS (e_loadC rfl ty_sc3 (fun w hh => (hAφ w (hh _ (by repeat (first | exact .head _ | refine .tail _ ?_)))).2 i (encZ pay) hpay' 0 (.int .i64 pay) rfl)) rfl ?_); clear hS a; intro a hS
          refine L_op (s_e hS (e_assign rfl) rfl ?_); clear hS a; intro a hS
          refine L_nil ?_
          refine n_then ?_
          refine c_seq ?_
          refine c_region ?_
          refine L_op (s_e hS (e_assign rfl) rfl ?_); clear hS a; intro a hS
          refine L_nil ?_
          refine n_then ?_
          refine c_seq ?_
          refine c_region ?_
          refine L_op (s_e hS (e_assign rfl) rfl ?_); clear hS a; intro a hS
          refine L_nil ?_
          refine n_then ?_
          refine c_cut (fun a w => ∃ it1 m f, St 156 noB w0 a w [(13, .int .i64 (i : Int)), (1, sliceV (some (bq, offq)) parts.length cq), (7, .pointer (some ⟨x51, 0, none⟩)), (8, .int .i64 1), (12, .int .i64 (leftI it.v)), (14, .int .i64 pay), (15, .int .i64 m), (16, .int .i64 f)] [bookA x51 sv [it1] true, argA] ∧ Part (leftI it.v) pay m f (leftI it1.v) ∧ goodI it1.v ∧ stOf it1.v) ?_ ?_
          ·
            refine c_seq ?_
            refine c_region ?_
            refine L_op (s_e hS (e_move rfl) rfl ?_); clear hS a; intro a hS
            first | (refine L_op (s_e hS (e_remN rfl rfl (by omega)) rfl ?_); clear hS a; intro a hS) | (refine L_op (s_e hS (e_rem rfl rfl (by omega)) rfl ?_); clear hS a; intro a hS)
            refine L_op (s_e hS (e_bin rfl rfl rfl) rfl ?_); clear hS a; intro a hS
            refine L_nil ?_
            refine n_then ?_
            first | refine c_ifD hS rfl (fun hc85 => ?_) (fun hc85 => ?_) | refine c_if hS rfl (fun hc85 => ?_) (fun hc85 => ?_)
            ·
              refine c_seq ?_
              refine c_region ?_
              refine L_op (s_e hS (e_move rfl) rfl ?_); clear hS a; intro a hS
              refine L_op (s_e hS (e_move rfl) rfl ?_); clear hS a; intro a hS
              refine L_op (s_e hS (e_move rfl) rfl ?_); clear hS a; intro a hS
              refine L_op (s_callM hS (.cons rfl (.cons rfl (.cons rfl .nil))) cf18 rfl (Pay_any x51 sv [it] 0 it rfl hgd pay (by simp) _ (hS.get (X := bookA x51 sv [it] true) (by repeat (first | exact .head _ | refine .tail _ ?_)))) (fun x => (by repeat (first | apply Rep.head | apply Rep.tail))) rfl ?_); clear hS a; (try clear w); intro x90 a w hS
              refine L_op (s_e hS (e_move rfl) rfl ?_); clear hS a; intro a hS
              refine L_op (s_e hS (e_extract rfl rfl) rfl ?_); clear hS a; intro a hS
              refine L_op (s_e hS (e_extract rfl rfl) rfl ?_); clear hS a; intro a hS
              refine L_op (s_e hS (e_assign rfl) rfl ?_); clear hS a; intro a hS
              refine L_op (s_e hS (e_assign rfl) rfl ?_); clear hS a; intro a hS
              refine L_nil ?_
              refine n_then ?_
              refine c_seq ?_
              refine c_region ?_
              refine L_op (s_e hS (e_move rfl) rfl ?_); clear hS a; intro a hS
              refine L_op (s_e hS (e_assign rfl) rfl ?_); clear hS a; intro a hS
              refine L_nil ?_
              refine n_then ?_
              refine c_region ?_
              refine L_op (s_e hS (e_move rfl) rfl ?_); clear hS a; intro a hS
              refine L_op (s_callP hS (.cons rfl .nil) cf16 rfl (Num_w _ _) ?_); clear hS a; (try clear w); intro a w hS
              refine L_op (s_e hS (e_assign rfl) rfl ?_); clear hS a; intro a hS
              refine L_nil ?_
              first
              | (
                obtain ⟨⟨it1, m, f⟩, hrel⟩ := x90
                simp only [List.set_cons_zero] at hS hrel
                obtain ⟨r1, r2, r3⟩ := part_P hgd hst hrel
                exact ⟨it1, m, f, hS.slots (by exact ⟨rfl, rfl, rfl, rfl, rfl, rfl, rfl, rfl, trivial⟩), r1, r2, r3⟩)
              | (
                obtain ⟨⟨it1, m, f⟩, hrel⟩ := x100
                simp only [List.set_cons_zero] at hS hrel
                obtain ⟨r1, r2, r3⟩ := part_C hgd hst hrel
                exact ⟨it1, m, f, hS.slots (by exact ⟨rfl, rfl, rfl, rfl, rfl, rfl, rfl, rfl, trivial⟩), r1, r2, r3⟩)
            ·
              refine c_seq ?_
              refine c_region ?_
              refine L_op (s_e hS (e_move rfl) rfl ?_); clear hS a; intro a hS
              refine L_op (s_e hS (e_move rfl) rfl ?_); clear hS a; intro a hS
              refine L_op (s_e hS (e_move rfl) rfl ?_); clear hS a; intro a hS
              refine L_op (s_callM hS (.cons rfl (.cons rfl (.cons rfl .nil))) cf19 rfl (Credit_any x51 sv [it] 0 it rfl hgd pay (by simp) _ (hS.get (X := bookA x51 sv [it] true) (by repeat (first | exact .head _ | refine .tail _ ?_)))) (fun x => (by repeat (first | apply Rep.head | apply Rep.tail))) rfl ?_); clear hS a; (try clear w); intro x100 a w hS
              refine L_op (s_e hS (e_move rfl) rfl ?_); clear hS a; intro a hS
              refine L_op (s_e hS (e_extract rfl rfl) rfl ?_); clear hS a; intro a hS
              refine L_op (s_e hS (e_extract rfl rfl) rfl ?_); clear hS a; intro a hS
              refine L_op (s_e hS (e_assign rfl) rfl ?_); clear hS a; intro a hS
              refine L_op (s_e hS (e_assign rfl) rfl ?_); clear hS a; intro a hS
              refine L_nil ?_
              refine n_then ?_
              refine c_seq ?_
              refine c_region ?_
              refine L_op (s_e hS (e_move rfl) rfl ?_); clear hS a; intro a hS
              refine L_op (s_e hS (e_assign rfl) rfl ?_); clear hS a; intro a hS
              refine L_nil ?_
              refine n_then ?_
              refine c_region ?_
              refine L_op (s_e hS (e_move rfl) rfl ?_); clear hS a; intro a hS
              refine L_op (s_callP hS (.cons rfl .nil) cf16 rfl (Num_w _ _) ?_); clear hS a; (try clear w); intro a w hS
              refine L_op (s_e hS (e_assign rfl) rfl ?_); clear hS a; intro a hS
              refine L_nil ?_
              first
              | (
                obtain ⟨⟨it1, m, f⟩, hrel⟩ := x90
                simp only [List.set_cons_zero] at hS hrel
                obtain ⟨r1, r2, r3⟩ := part_P hgd hst hrel
                exact ⟨it1, m, f, hS.slots (by exact ⟨rfl, rfl, rfl, rfl, rfl, rfl, rfl, rfl, trivial⟩), r1, r2, r3⟩)
              | (
                obtain ⟨⟨it1, m, f⟩, hrel⟩ := x100
                simp only [List.set_cons_zero] at hS hrel
                obtain ⟨r1, r2, r3⟩ := part_C hgd hst hrel
                exact ⟨it1, m, f, hS.slots (by exact ⟨rfl, rfl, rfl, rfl, rfl, rfl, rfl, rfl, trivial⟩), r1, r2, r3⟩)
          ·
            clear hS a; (try clear w); intro a w hS
            obtain ⟨it1, m, f, hS, hpart, hgd1, hst1⟩ := hS
            unfold Part at hpart
            have b0 := hgd.tot
            have b1 := hgd.sum
            have b2 := hgd.paid
            have b3 := hgd.cred
            have b4 : leftI it.v = it.v.total - it.v.paid - it.v.credited := rfl
            have d1 := hgd1.tot
            have d2 := hgd1.sum
            have d3 := hgd1.paid
            have d4 := hgd1.cred
            have d5 : leftI it1.v = it1.v.total - it1.v.paid - it1.v.credited := rfl
            have d6 : stOf it1.v := hst1
            unfold stOf at d6
            refine c_seq ?_
            refine c_region ?_
            refine L_op (s_e hS (e_assign rfl) rfl ?_); clear hS a; intro a hS
            refine L_nil ?_
            refine n_then ?_
            refine c_seq ?_
            refine c_seq ?_
            refine c_region ?_
            refine L_op (s_e hS (e_move rfl) rfl ?_); clear hS a; intro a hS
            refine L_op (s_e hS (e_bin rfl rfl rfl) rfl ?_); clear hS a; intro a hS
            refine L_nil ?_
            refine n_then ?_
            first | refine c_ifD hS rfl (fun hc107 => ?_) (fun hc107 => ?_) | refine c_if hS rfl (fun hc107 => ?_) (fun hc107 => ?_)
            ·
              refine c_region ?_
              refine L_op (s_e hS (e_assign rfl) rfl ?_); clear hS a; intro a hS
              refine L_nil ?_
              refine n_then ?_
              refine c_seq ?_
              refine c_region ?_
              refine L_op (s_e hS (e_move rfl) rfl ?_); clear hS a; intro a hS
              refine L_op (s_e hS (e_move rfl) rfl ?_); clear hS a; intro a hS
              refine L_op (s_callN hS (.cons rfl (.cons rfl .nil)) cf17 rfl (Get_some x51 sv [it1] 0 it1 rfl (by simp) (by have := hgd1.lines; omega) _ (hS.get (X := bookA x51 sv [it1] true) (by repeat (first | exact .head _ | refine .tail _ ?_)))) ?_); clear hS a; (try clear w); intro x121 a w hS
              refine L_op (s_e hS (e_move rfl) rfl ?_); clear hS a; intro a hS
              refine L_op (s_e hS (e_extract rfl rfl) rfl ?_); clear hS a; intro a hS
              refine L_op (s_e hS (e_extract rfl rfl) rfl ?_); clear hS a; intro a hS
              refine L_op (s_alloc hS ty_z34 rfl ?_); clear hS a; (try clear w); intro a w b22 hS
              refine L_op (s_storeA hS rfl rfl ty_sz34 (by repeat (first | apply Rep.head | apply Rep.tail)) (by rfl) (by rfl) (by rfl) ?_); clear hS; (try clear w); intro w hS
              refine L_op (s_e hS (e_assign rfl) rfl ?_); clear hS a; intro a hS
              refine L_nil ?_
              refine n_then ?_
              refine c_seq ?_
              refine c_region ?_
              refine L_op (s_e hS (e_move rfl) rfl ?_); clear hS a; intro a hS
              refine L_op (s_e hS (e_move rfl) rfl ?_); clear hS a; intro a hS
              refine L_op (s_e hS (e_bin rfl rfl rfl) rfl ?_); clear hS a; intro a hS
              refine L_op (s_e hS (e_move rfl) rfl ?_); clear hS a; intro a hS
              replace hS := hS.is (t := 127) (c := false) rfl ((decide_eq_false (by omega)))
              refine L_go hS rfl rfl (s_e hS (e_move rfl) rfl ?_); clear hS a; intro a hS
              refine L_go hS rfl rfl (s_e hS (e_bin rfl rfl rfl) rfl ?_); clear hS a; intro a hS
              refine L_go hS rfl rfl (s_e hS (e_move rfl) rfl ?_); clear hS a; intro a hS
              (first | refine g_splitD (t := 130) hS rfl ?_ ?_ | refine g_split (t := 130) hS rfl ?_ ?_) <;> (clear hS; intro hg130 hS)
              ·
                refine L_go hS rfl rfl (s_e hS (e_move rfl) rfl ?_); clear hS a; intro a hS
                refine L_go hS rfl rfl (s_e hS (e_move rfl) rfl ?_); clear hS a; intro a hS
                refine L_go hS rfl rfl (s_e hS (e_bin rfl rfl rfl) rfl ?_); clear hS a; intro a hS
                first | (refine L_go hS rfl rfl (s_e hS (e_pick_t rfl rfl) rfl ?_); clear hS a; intro a hS) | (refine L_go hS rfl rfl (s_e hS (e_pick_f rfl rfl) rfl ?_); clear hS a; intro a hS)
                first | (refine L_op (s_e hS (e_pick_t rfl rfl) rfl ?_); clear hS a; intro a hS) | (refine L_op (s_e hS (e_pick_f rfl rfl) rfl ?_); clear hS a; intro a hS)
                refine L_op (s_e hS (e_move rfl) rfl ?_); clear hS a; intro a hS
                replace hS := hS.is (t := 136) (c := false) rfl ((by first | rfl | exact decide_eq_false (by omega)))
                first | (refine L_go hS rfl rfl (s_e hS (e_fa0 rfl ty_fo34_12) rfl ?_); clear hS a; intro a hS) | (refine L_go hS rfl rfl (s_e hS (e_faK rfl ty_fo34_12) rfl ?_); clear hS a; intro a hS)
                refine L_go hS rfl rfl (s_e hS (e_load rfl (by repeat (first | exact .head _ | refine .tail _ ?_)) ty_sc3 (by rfl)) rfl ?_); clear hS a; intro a hS
                refine L_go hS rfl rfl (s_e hS (e_bin rfl rfl rfl) rfl ?_); clear hS a; intro a hS
                refine L_go hS rfl rfl (s_e hS (e_move rfl) rfl ?_); clear hS a; intro a hS
                refine L_go hS rfl rfl (s_e hS (e_bin rfl rfl rfl) rfl ?_); clear hS a; intro a hS
                refine L_go hS rfl rfl (s_e hS (e_binBn rfl rfl ty_u4) rfl ?_); clear hS a; intro a hS
                first | (refine L_op (s_e hS (e_pick_t rfl rfl) rfl ?_); clear hS a; intro a hS) | (refine L_op (s_e hS (e_pick_f rfl rfl) rfl ?_); clear hS a; intro a hS)
                refine L_op (s_e hS (e_move rfl) rfl ?_); clear hS a; intro a hS
                replace hS := hS.is (t := 144) (c := false) rfl ((by simp; omega))
                first | (refine L_go hS rfl rfl (s_e hS (e_fa0 rfl ty_fo34_9) rfl ?_); clear hS a; intro a hS) | (refine L_go hS rfl rfl (s_e hS (e_faK rfl ty_fo34_9) rfl ?_); clear hS a; intro a hS)
                refine L_go hS rfl rfl (s_e hS (e_load rfl (by repeat (first | exact .head _ | refine .tail _ ?_)) ty_sc3 (by rfl)) rfl ?_); clear hS a; intro a hS
                first | (refine L_go hS rfl rfl (s_e hS (e_fa0 rfl ty_fo34_10) rfl ?_); clear hS a; intro a hS) | (refine L_go hS rfl rfl (s_e hS (e_faK rfl ty_fo34_10) rfl ?_); clear hS a; intro a hS)
                refine L_go hS rfl rfl (s_e hS (e_load rfl (by repeat (first | exact .head _ | refine .tail _ ?_)) ty_sc3 (by rfl)) rfl ?_); clear hS a; intro a hS
                first | (refine L_go hS rfl rfl (s_e hS (e_binN rfl rfl rfl (by omega)) rfl ?_); clear hS a; intro a hS) | (refine L_go hS rfl rfl (s_e hS (e_bin rfl rfl rfl) rfl ?_); clear hS a; intro a hS)
                first | (refine L_go hS rfl rfl (s_e hS (e_fa0 rfl ty_fo34_11) rfl ?_); clear hS a; intro a hS) | (refine L_go hS rfl rfl (s_e hS (e_faK rfl ty_fo34_11) rfl ?_); clear hS a; intro a hS)
                refine L_go hS rfl rfl (s_e hS (e_load rfl (by repeat (first | exact .head _ | refine .tail _ ?_)) ty_sc3 (by rfl)) rfl ?_); clear hS a; intro a hS
                first | (refine L_go hS rfl rfl (s_e hS (e_binN rfl rfl rfl (by omega)) rfl ?_); clear hS a; intro a hS) | (refine L_go hS rfl rfl (s_e hS (e_bin rfl rfl rfl) rfl ?_); clear hS a; intro a hS)
                refine L_go hS rfl rfl (s_e hS (e_move rfl) rfl ?_); clear hS a; intro a hS
                refine L_go hS rfl rfl (s_e hS (e_bin rfl rfl rfl) rfl ?_); clear hS a; intro a hS
                first | (refine L_op (s_e hS (e_pick_t rfl rfl) rfl ?_); clear hS a; intro a hS) | (refine L_op (s_e hS (e_pick_f rfl rfl) rfl ?_); clear hS a; intro a hS)
                refine L_nil ?_
                refine n_then ?_
                replace hS := hS.is (t := 155) (c := false) rfl ((by first | rfl | exact decide_eq_false (by omega)))
                refine c_if_f hS rfl ?_
                refine wp_skip ?_
                refine n_block ?_
                refine n_then ?_
                refine c_region ?_
                refine L_op (s_e hS (e_move rfl) rfl ?_); clear hS a; intro a hS
                first | (refine L_op (s_e hS (e_binN rfl rfl rfl (by omega)) rfl ?_); clear hS a; intro a hS) | (refine L_op (s_e hS (e_bin rfl rfl rfl) rfl ?_); clear hS a; intro a hS)
                refine L_op (s_e hS (e_assign rfl) rfl ?_); clear hS a; intro a hS
                refine L_nil ?_
                replace hS := hS.drop (Γ' := [bookA x51 sv [it1] true, argA]) (by repeat (first | exact List.Sublist.refl _ | apply List.Sublist.cons))
                first
                | (
                  have el : leftI it.v - pay = leftI it1.v := by omega
                  rw [el] at hS
                  exact ⟨(i + 1, it1), by simp only; omega, hS.slots (by exact ⟨rfl, rfl, rfl, rfl, rfl, trivial⟩), by simp only; omega, hgd1, hst1⟩)
                | (
                  have el : leftI it.v = leftI it1.v := by omega
                  rw [el] at hS
                  exact ⟨(i + 1, it1), by simp only; omega, hS.slots (by exact ⟨rfl, rfl, rfl, rfl, rfl, trivial⟩), by simp only; omega, hgd1, hst1⟩)
              ·
                refine L_skip_t hS rfl rfl rfl ?_; clear hS a; intro a hS
                refine L_skip_t hS rfl rfl rfl ?_; clear hS a; intro a hS
                refine L_skip_t hS rfl rfl rfl ?_; clear hS a; intro a hS
                first | (refine L_go hS rfl rfl (s_e hS (e_pick_t rfl rfl) rfl ?_); clear hS a; intro a hS) | (refine L_go hS rfl rfl (s_e hS (e_pick_f rfl rfl) rfl ?_); clear hS a; intro a hS)
                first | (refine L_op (s_e hS (e_pick_t rfl rfl) rfl ?_); clear hS a; intro a hS) | (refine L_op (s_e hS (e_pick_f rfl rfl) rfl ?_); clear hS a; intro a hS)
                refine L_op (s_e hS (e_move rfl) rfl ?_); clear hS a; intro a hS
                first | (refine L_go hS rfl rfl (s_e hS (e_fa0 rfl ty_fo34_12) rfl ?_); clear hS a; intro a hS) | (refine L_go hS rfl rfl (s_e hS (e_faK rfl ty_fo34_12) rfl ?_); clear hS a; intro a hS)
                refine L_go hS rfl rfl (s_e hS (e_load rfl (by repeat (first | exact .head _ | refine .tail _ ?_)) ty_sc3 (by rfl)) rfl ?_); clear hS a; intro a hS
                refine L_go hS rfl rfl (s_e hS (e_bin rfl rfl rfl) rfl ?_); clear hS a; intro a hS
                refine L_go hS rfl rfl (s_e hS (e_move rfl) rfl ?_); clear hS a; intro a hS
                refine L_go hS rfl rfl (s_e hS (e_bin rfl rfl rfl) rfl ?_); clear hS a; intro a hS
                refine L_go hS rfl rfl (s_e hS (e_binBn rfl rfl ty_u4) rfl ?_); clear hS a; intro a hS
                first | (refine L_op (s_e hS (e_pick_t rfl rfl) rfl ?_); clear hS a; intro a hS) | (refine L_op (s_e hS (e_pick_f rfl rfl) rfl ?_); clear hS a; intro a hS)
                refine L_op (s_e hS (e_move rfl) rfl ?_); clear hS a; intro a hS
                replace hS := hS.is (t := 144) (c := false) rfl ((by simp; omega))
                first | (refine L_go hS rfl rfl (s_e hS (e_fa0 rfl ty_fo34_9) rfl ?_); clear hS a; intro a hS) | (refine L_go hS rfl rfl (s_e hS (e_faK rfl ty_fo34_9) rfl ?_); clear hS a; intro a hS)
                refine L_go hS rfl rfl (s_e hS (e_load rfl (by repeat (first | exact .head _ | refine .tail _ ?_)) ty_sc3 (by rfl)) rfl ?_); clear hS a; intro a hS
                first | (refine L_go hS rfl rfl (s_e hS (e_fa0 rfl ty_fo34_10) rfl ?_); clear hS a; intro a hS) | (refine L_go hS rfl rfl (s_e hS (e_faK rfl ty_fo34_10) rfl ?_); clear hS a; intro a hS)
                refine L_go hS rfl rfl (s_e hS (e_load rfl (by repeat (first | exact .head _ | refine .tail _ ?_)) ty_sc3 (by rfl)) rfl ?_); clear hS a; intro a hS
                first | (refine L_go hS rfl rfl (s_e hS (e_binN rfl rfl rfl (by omega)) rfl ?_); clear hS a; intro a hS) | (refine L_go hS rfl rfl (s_e hS (e_bin rfl rfl rfl) rfl ?_); clear hS a; intro a hS)
                first | (refine L_go hS rfl rfl (s_e hS (e_fa0 rfl ty_fo34_11) rfl ?_); clear hS a; intro a hS) | (refine L_go hS rfl rfl (s_e hS (e_faK rfl ty_fo34_11) rfl ?_); clear hS a; intro a hS)
                refine L_go hS rfl rfl (s_e hS (e_load rfl (by repeat (first | exact .head _ | refine .tail _ ?_)) ty_sc3 (by rfl)) rfl ?_); clear hS a; intro a hS
                first | (refine L_go hS rfl rfl (s_e hS (e_binN rfl rfl rfl (by omega)) rfl ?_); clear hS a; intro a hS) | (refine L_go hS rfl rfl (s_e hS (e_bin rfl rfl rfl) rfl ?_); clear hS a; intro a hS)
                refine L_go hS rfl rfl (s_e hS (e_move rfl) rfl ?_); clear hS a; intro a hS
                refine L_go hS rfl rfl (s_e hS (e_bin rfl rfl rfl) rfl ?_); clear hS a; intro a hS
                first | (refine L_op (s_e hS (e_pick_t rfl rfl) rfl ?_); clear hS a; intro a hS) | (refine L_op (s_e hS (e_pick_f rfl rfl) rfl ?_); clear hS a; intro a hS)
                refine L_nil ?_
                refine n_then ?_
                replace hS := hS.is (t := 155) (c := false) rfl ((by first | rfl | exact decide_eq_false (by omega)))
                refine c_if_f hS rfl ?_
                refine wp_skip ?_
                refine n_block ?_
                refine n_then ?_
                refine c_region ?_
                refine L_op (s_e hS (e_move rfl) rfl ?_); clear hS a; intro a hS
                first | (refine L_op (s_e hS (e_binN rfl rfl rfl (by omega)) rfl ?_); clear hS a; intro a hS) | (refine L_op (s_e hS (e_bin rfl rfl rfl) rfl ?_); clear hS a; intro a hS)
                refine L_op (s_e hS (e_assign rfl) rfl ?_); clear hS a; intro a hS
                refine L_nil ?_
                replace hS := hS.drop (Γ' := [bookA x51 sv [it1] true, argA]) (by repeat (first | exact List.Sublist.refl _ | apply List.Sublist.cons))
                first
                | (
                  have el : leftI it.v - pay = leftI it1.v := by omega
                  rw [el] at hS
                  exact ⟨(i + 1, it1), by simp only; omega, hS.slots (by exact ⟨rfl, rfl, rfl, rfl, rfl, trivial⟩), by simp only; omega, hgd1, hst1⟩)
                | (
                  have el : leftI it.v = leftI it1.v := by omega
                  rw [el] at hS
                  exact ⟨(i + 1, it1), by simp only; omega, hS.slots (by exact ⟨rfl, rfl, rfl, rfl, rfl, trivial⟩), by simp only; omega, hgd1, hst1⟩)
            ·
              refine c_seq ?_
              refine c_region ?_
              refine L_op (s_e hS (e_move rfl) rfl ?_); clear hS a; intro a hS
              refine L_op (s_e hS (e_bin rfl rfl rfl) rfl ?_); clear hS a; intro a hS
              refine L_op (s_e hS (e_move rfl) rfl ?_); clear hS a; intro a hS
              (first | refine g_splitD (t := 110) hS rfl ?_ ?_ | refine g_split (t := 110) hS rfl ?_ ?_) <;> (clear hS; intro hg110 hS)
              ·
                refine L_skip_f hS rfl rfl rfl ?_; clear hS a; intro a hS
                refine L_skip_f hS rfl rfl rfl ?_; clear hS a; intro a hS
                refine L_skip_f hS rfl rfl rfl ?_; clear hS a; intro a hS
                first | (refine L_op (s_e hS (e_pick_t rfl rfl) rfl ?_); clear hS a; intro a hS) | (refine L_op (s_e hS (e_pick_f rfl rfl) rfl ?_); clear hS a; intro a hS)
                refine L_nil ?_
                refine n_then ?_
                refine c_if_t hS rfl ?_
                refine c_region ?_
                refine L_op (s_e hS (e_assign rfl) rfl ?_); clear hS a; intro a hS
                refine L_nil ?_
                refine n_then ?_
                refine c_seq ?_
                refine c_region ?_
                refine L_op (s_e hS (e_move rfl) rfl ?_); clear hS a; intro a hS
                refine L_op (s_e hS (e_move rfl) rfl ?_); clear hS a; intro a hS
                refine L_op (s_callN hS (.cons rfl (.cons rfl .nil)) cf17 rfl (Get_some x51 sv [it1] 0 it1 rfl (by simp) (by have := hgd1.lines; omega) _ (hS.get (X := bookA x51 sv [it1] true) (by repeat (first | exact .head _ | refine .tail _ ?_)))) ?_); clear hS a; (try clear w); intro x121 a w hS
                refine L_op (s_e hS (e_move rfl) rfl ?_); clear hS a; intro a hS
                refine L_op (s_e hS (e_extract rfl rfl) rfl ?_); clear hS a; intro a hS
                refine L_op (s_e hS (e_extract rfl rfl) rfl ?_); clear hS a; intro a hS
                refine L_op (s_alloc hS ty_z34 rfl ?_); clear hS a; (try clear w); intro a w b22 hS
                refine L_op (s_storeA hS rfl rfl ty_sz34 (by repeat (first | apply Rep.head | apply Rep.tail)) (by rfl) (by rfl) (by rfl) ?_); clear hS; (try clear w); intro w hS
                refine L_op (s_e hS (e_assign rfl) rfl ?_); clear hS a; intro a hS
                refine L_nil ?_
                refine n_then ?_
                refine c_seq ?_
                refine c_region ?_
                refine L_op (s_e hS (e_move rfl) rfl ?_); clear hS a; intro a hS
                refine L_op (s_e hS (e_move rfl) rfl ?_); clear hS a; intro a hS
                refine L_op (s_e hS (e_bin rfl rfl rfl) rfl ?_); clear hS a; intro a hS
                refine L_op (s_e hS (e_move rfl) rfl ?_); clear hS a; intro a hS
                replace hS := hS.is (t := 127) (c := false) rfl ((decide_eq_false (by omega)))
                refine L_go hS rfl rfl (s_e hS (e_move rfl) rfl ?_); clear hS a; intro a hS
                refine L_go hS rfl rfl (s_e hS (e_bin rfl rfl rfl) rfl ?_); clear hS a; intro a hS
                refine L_go hS rfl rfl (s_e hS (e_move rfl) rfl ?_); clear hS a; intro a hS
                (first | refine g_splitD (t := 130) hS rfl ?_ ?_ | refine g_split (t := 130) hS rfl ?_ ?_) <;> (clear hS; intro hg130 hS)
                ·
                  refine L_go hS rfl rfl (s_e hS (e_move rfl) rfl ?_); clear hS a; intro a hS
                  refine L_go hS rfl rfl (s_e hS (e_move rfl) rfl ?_); clear hS a; intro a hS
                  refine L_go hS rfl rfl (s_e hS (e_bin rfl rfl rfl) rfl ?_); clear hS a; intro a hS
                  first | (refine L_go hS rfl rfl (s_e hS (e_pick_t rfl rfl) rfl ?_); clear hS a; intro a hS) | (refine L_go hS rfl rfl (s_e hS (e_pick_f rfl rfl) rfl ?_); clear hS a; intro a hS)
                  first | (refine L_op (s_e hS (e_pick_t rfl rfl) rfl ?_); clear hS a; intro a hS) | (refine L_op (s_e hS (e_pick_f rfl rfl) rfl ?_); clear hS a; intro a hS)
                  refine L_op (s_e hS (e_move rfl) rfl ?_); clear hS a; intro a hS
                  replace hS := hS.is (t := 136) (c := false) rfl ((by first | rfl | exact decide_eq_false (by omega)))
                  first | (refine L_go hS rfl rfl (s_e hS (e_fa0 rfl ty_fo34_12) rfl ?_); clear hS a; intro a hS) | (refine L_go hS rfl rfl (s_e hS (e_faK rfl ty_fo34_12) rfl ?_); clear hS a; intro a hS)
                  refine L_go hS rfl rfl (s_e hS (e_load rfl (by repeat (first | exact .head _ | refine .tail _ ?_)) ty_sc3 (by rfl)) rfl ?_); clear hS a; intro a hS
                  refine L_go hS rfl rfl (s_e hS (e_bin rfl rfl rfl) rfl ?_); clear hS a; intro a hS
                  refine L_go hS rfl rfl (s_e hS (e_move rfl) rfl ?_); clear hS a; intro a hS
                  refine L_go hS rfl rfl (s_e hS (e_bin rfl rfl rfl) rfl ?_); clear hS a; intro a hS
                  refine L_go hS rfl rfl (s_e hS (e_binBn rfl rfl ty_u4) rfl ?_); clear hS a; intro a hS
                  first | (refine L_op (s_e hS (e_pick_t rfl rfl) rfl ?_); clear hS a; intro a hS) | (refine L_op (s_e hS (e_pick_f rfl rfl) rfl ?_); clear hS a; intro a hS)
                  refine L_op (s_e hS (e_move rfl) rfl ?_); clear hS a; intro a hS
                  replace hS := hS.is (t := 144) (c := false) rfl ((by simp; omega))
                  first | (refine L_go hS rfl rfl (s_e hS (e_fa0 rfl ty_fo34_9) rfl ?_); clear hS a; intro a hS) | (refine L_go hS rfl rfl (s_e hS (e_faK rfl ty_fo34_9) rfl ?_); clear hS a; intro a hS)
                  refine L_go hS rfl rfl (s_e hS (e_load rfl (by repeat (first | exact .head _ | refine .tail _ ?_)) ty_sc3 (by rfl)) rfl ?_); clear hS a; intro a hS
                  first | (refine L_go hS rfl rfl (s_e hS (e_fa0 rfl ty_fo34_10) rfl ?_); clear hS a; intro a hS) | (refine L_go hS rfl rfl (s_e hS (e_faK rfl ty_fo34_10) rfl ?_); clear hS a; intro a hS)
                  refine L_go hS rfl rfl (s_e hS (e_load rfl (by repeat (first | exact .head _ | refine .tail _ ?_)) ty_sc3 (by rfl)) rfl ?_); clear hS a; intro a hS
                  first | (refine L_go hS rfl rfl (s_e hS (e_binN rfl rfl rfl (by omega)) rfl ?_); clear hS a; intro a hS) | (refine L_go hS rfl rfl (s_e hS (e_bin rfl rfl rfl) rfl ?_); clear hS a; intro a hS)
                  first | (refine L_go hS rfl rfl (s_e hS (e_fa0 rfl ty_fo34_11) rfl ?_); clear hS a; intro a hS) | (refine L_go hS rfl rfl (s_e hS (e_faK rfl ty_fo34_11) rfl ?_); clear hS a; intro a hS)
                  refine L_go hS rfl rfl (s_e hS (e_load rfl (by repeat (first | exact .head _ | refine .tail _ ?_)) ty_sc3 (by rfl)) rfl ?_); clear hS a; intro a hS
                  first | (refine L_go hS rfl rfl (s_e hS (e_binN rfl rfl rfl (by omega)) rfl ?_); clear hS a; intro a hS) | (refine L_go hS rfl rfl (s_e hS (e_bin rfl rfl rfl) rfl ?_); clear hS a; intro a hS)
                  refine L_go hS rfl rfl (s_e hS (e_move rfl) rfl ?_); clear hS a; intro a hS
                  refine L_go hS rfl rfl (s_e hS (e_bin rfl rfl rfl) rfl ?_); clear hS a; intro a hS
                  first | (refine L_op (s_e hS (e_pick_t rfl rfl) rfl ?_); clear hS a; intro a hS) | (refine L_op (s_e hS (e_pick_f rfl rfl) rfl ?_); clear hS a; intro a hS)
                  refine L_nil ?_
                  refine n_then ?_
                  replace hS := hS.is (t := 155) (c := false) rfl ((by first | rfl | exact decide_eq_false (by omega)))
                  refine c_if_f hS rfl ?_
                  refine wp_skip ?_
                  refine n_block ?_
                  refine n_then ?_
                  refine c_region ?_
                  refine L_op (s_e hS (e_move rfl) rfl ?_); clear hS a; intro a hS
                  first | (refine L_op (s_e hS (e_binN rfl rfl rfl (by omega)) rfl ?_); clear hS a; intro a hS) | (refine L_op (s_e hS (e_bin rfl rfl rfl) rfl ?_); clear hS a; intro a hS)
                  refine L_op (s_e hS (e_assign rfl) rfl ?_); clear hS a; intro a hS
                  refine L_nil ?_
                  replace hS := hS.drop (Γ' := [bookA x51 sv [it1] true, argA]) (by repeat (first | exact List.Sublist.refl _ | apply List.Sublist.cons))
                  first
                  | (
                    have el : leftI it.v - pay = leftI it1.v := by omega
                    rw [el] at hS
                    exact ⟨(i + 1, it1), by simp only; omega, hS.slots (by exact ⟨rfl, rfl, rfl, rfl, rfl, trivial⟩), by simp only; omega, hgd1, hst1⟩)
                  | (
                    have el : leftI it.v = leftI it1.v := by omega
                    rw [el] at hS
                    exact ⟨(i + 1, it1), by simp only; omega, hS.slots (by exact ⟨rfl, rfl, rfl, rfl, rfl, trivial⟩), by simp only; omega, hgd1, hst1⟩)
                ·
                  refine L_skip_t hS rfl rfl rfl ?_; clear hS a; intro a hS
                  refine L_skip_t hS rfl rfl rfl ?_; clear hS a; intro a hS
                  refine L_skip_t hS rfl rfl rfl ?_; clear hS a; intro a hS
                  first | (refine L_go hS rfl rfl (s_e hS (e_pick_t rfl rfl) rfl ?_); clear hS a; intro a hS) | (refine L_go hS rfl rfl (s_e hS (e_pick_f rfl rfl) rfl ?_); clear hS a; intro a hS)
                  first | (refine L_op (s_e hS (e_pick_t rfl rfl) rfl ?_); clear hS a; intro a hS) | (refine L_op (s_e hS (e_pick_f rfl rfl) rfl ?_); clear hS a; intro a hS)
                  refine L_op (s_e hS (e_move rfl) rfl ?_); clear hS a; intro a hS
                  first | (refine L_go hS rfl rfl (s_e hS (e_fa0 rfl ty_fo34_12) rfl ?_); clear hS a; intro a hS) | (refine L_go hS rfl rfl (s_e hS (e_faK rfl ty_fo34_12) rfl ?_); clear hS a; intro a hS)
                  refine L_go hS rfl rfl (s_e hS (e_load rfl (by repeat (first | exact .head _ | refine .tail _ ?_)) ty_sc3 (by rfl)) rfl ?_); clear hS a; intro a hS
                  refine L_go hS rfl rfl (s_e hS (e_bin rfl rfl rfl) rfl ?_); clear hS a; intro a hS
                  refine L_go hS rfl rfl (s_e hS (e_move rfl) rfl ?_); clear hS a; intro a hS
                  refine L_go hS rfl rfl (s_e hS (e_bin rfl rfl rfl) rfl ?_); clear hS a; intro a hS
                  refine L_go hS rfl rfl (s_e hS (e_binBn rfl rfl ty_u4) rfl ?_); clear hS a; intro a hS
                  first | (refine L_op (s_e hS (e_pick_t rfl rfl) rfl ?_); clear hS a; intro a hS) | (refine L_op (s_e hS (e_pick_f rfl rfl) rfl ?_); clear hS a; intro a hS)
                  refine L_op (s_e hS (e_move rfl) rfl ?_); clear hS a; intro a hS
                  replace hS := hS.is (t := 144) (c := false) rfl ((by simp; omega))
                  first | (refine L_go hS rfl rfl (s_e hS (e_fa0 rfl ty_fo34_9) rfl ?_); clear hS a; intro a hS) | (refine L_go hS rfl rfl (s_e hS (e_faK rfl ty_fo34_9) rfl ?_); clear hS a; intro a hS)
                  refine L_go hS rfl rfl (s_e hS (e_load rfl (by repeat (first | exact .head _ | refine .tail _ ?_)) ty_sc3 (by rfl)) rfl ?_); clear hS a; intro a hS
                  first | (refine L_go hS rfl rfl (s_e hS (e_fa0 rfl ty_fo34_10) rfl ?_); clear hS a; intro a hS) | (refine L_go hS rfl rfl (s_e hS (e_faK rfl ty_fo34_10) rfl ?_); clear hS a; intro a hS)
                  refine L_go hS rfl rfl (s_e hS (e_load rfl (by repeat (first | exact .head _ | refine .tail _ ?_)) ty_sc3 (by rfl)) rfl ?_); clear hS a; intro a hS
                  first | (refine L_go hS rfl rfl (s_e hS (e_binN rfl rfl rfl (by omega)) rfl ?_); clear hS a; intro a hS) | (refine L_go hS rfl rfl (s_e hS (e_bin rfl rfl rfl) rfl ?_); clear hS a; intro a hS)
                  first | (refine L_go hS rfl rfl (s_e hS (e_fa0 rfl ty_fo34_11) rfl ?_); clear hS a; intro a hS) | (refine L_go hS rfl rfl (s_e hS (e_faK rfl ty_fo34_11) rfl ?_); clear hS a; intro a hS)
                  refine L_go hS rfl rfl (s_e hS (e_load rfl (by repeat (first | exact .head _ | refine .tail _ ?_)) ty_sc3 (by rfl)) rfl ?_); clear hS a; intro a hS
                  first | (refine L_go hS rfl rfl (s_e hS (e_binN rfl rfl rfl (by omega)) rfl ?_); clear hS a; intro a hS) | (refine L_go hS rfl rfl (s_e hS (e_bin rfl rfl rfl) rfl ?_); clear hS a; intro a hS)
                  refine L_go hS rfl rfl (s_e hS (e_move rfl) rfl ?_); clear hS a; intro a hS
                  refine L_go hS rfl rfl (s_e hS (e_bin rfl rfl rfl) rfl ?_); clear hS a; intro a hS
                  first | (refine L_op (s_e hS (e_pick_t rfl rfl) rfl ?_); clear hS a; intro a hS) | (refine L_op (s_e hS (e_pick_f rfl rfl) rfl ?_); clear hS a; intro a hS)
                  refine L_nil ?_
                  refine n_then ?_
                  replace hS := hS.is (t := 155) (c := false) rfl ((by first | rfl | exact decide_eq_false (by omega)))
                  refine c_if_f hS rfl ?_
                  refine wp_skip ?_
                  refine n_block ?_
                  refine n_then ?_
                  refine c_region ?_
                  refine L_op (s_e hS (e_move rfl) rfl ?_); clear hS a; intro a hS
                  first | (refine L_op (s_e hS (e_binN rfl rfl rfl (by omega)) rfl ?_); clear hS a; intro a hS) | (refine L_op (s_e hS (e_bin rfl rfl rfl) rfl ?_); clear hS a; intro a hS)
                  refine L_op (s_e hS (e_assign rfl) rfl ?_); clear hS a; intro a hS
                  refine L_nil ?_
                  replace hS := hS.drop (Γ' := [bookA x51 sv [it1] true, argA]) (by repeat (first | exact List.Sublist.refl _ | apply List.Sublist.cons))
                  first
                  | (
                    have el : leftI it.v - pay = leftI it1.v := by omega
                    rw [el] at hS
                    exact ⟨(i + 1, it1), by simp only; omega, hS.slots (by exact ⟨rfl, rfl, rfl, rfl, rfl, trivial⟩), by simp only; omega, hgd1, hst1⟩)
                  | (
                    have el : leftI it.v = leftI it1.v := by omega
                    rw [el] at hS
                    exact ⟨(i + 1, it1), by simp only; omega, hS.slots (by exact ⟨rfl, rfl, rfl, rfl, rfl, trivial⟩), by simp only; omega, hgd1, hst1⟩)
              ·
                refine L_go hS rfl rfl (s_e hS (e_move rfl) rfl ?_); clear hS a; intro a hS
                refine L_go hS rfl rfl (s_e hS (e_move rfl) rfl ?_); clear hS a; intro a hS
                refine L_go hS rfl rfl (s_e hS (e_bin rfl rfl rfl) rfl ?_); clear hS a; intro a hS
                first | (refine L_op (s_e hS (e_pick_t rfl rfl) rfl ?_); clear hS a; intro a hS) | (refine L_op (s_e hS (e_pick_f rfl rfl) rfl ?_); clear hS a; intro a hS)
                refine L_nil ?_
                refine n_then ?_
                first | refine c_ifD hS rfl (fun hc114 => ?_) (fun hc114 => ?_) | refine c_if hS rfl (fun hc114 => ?_) (fun hc114 => ?_)
                ·
                  refine c_region ?_
                  refine L_op (s_e hS (e_assign rfl) rfl ?_); clear hS a; intro a hS
                  refine L_nil ?_
                  refine n_then ?_
                  refine c_seq ?_
                  refine c_region ?_
                  refine L_op (s_e hS (e_move rfl) rfl ?_); clear hS a; intro a hS
                  refine L_op (s_e hS (e_move rfl) rfl ?_); clear hS a; intro a hS
                  refine L_op (s_callN hS (.cons rfl (.cons rfl .nil)) cf17 rfl (Get_some x51 sv [it1] 0 it1 rfl (by simp) (by have := hgd1.lines; omega) _ (hS.get (X := bookA x51 sv [it1] true) (by repeat (first | exact .head _ | refine .tail _ ?_)))) ?_); clear hS a; (try clear w); intro x121 a w hS
                  refine L_op (s_e hS (e_move rfl) rfl ?_); clear hS a; intro a hS
                  refine L_op (s_e hS (e_extract rfl rfl) rfl ?_); clear hS a; intro a hS
                  refine L_op (s_e hS (e_extract rfl rfl) rfl ?_); clear hS a; intro a hS
                  refine L_op (s_alloc hS ty_z34 rfl ?_); clear hS a; (try clear w); intro a w b22 hS
                  refine L_op (s_storeA hS rfl rfl ty_sz34 (by repeat (first | apply Rep.head | apply Rep.tail)) (by rfl) (by rfl) (by rfl) ?_); clear hS; (try clear w); intro w hS
                  refine L_op (s_e hS (e_assign rfl) rfl ?_); clear hS a; intro a hS
                  refine L_nil ?_
                  refine n_then ?_
                  refine c_seq ?_
                  refine c_region ?_
                  refine L_op (s_e hS (e_move rfl) rfl ?_); clear hS a; intro a hS
                  refine L_op (s_e hS (e_move rfl) rfl ?_); clear hS a; intro a hS
                  refine L_op (s_e hS (e_bin rfl rfl rfl) rfl ?_); clear hS a; intro a hS
                  refine L_op (s_e hS (e_move rfl) rfl ?_); clear hS a; intro a hS
                  replace hS := hS.is (t := 127) (c := false) rfl ((decide_eq_false (by omega)))
                  refine L_go hS rfl rfl (s_e hS (e_move rfl) rfl ?_); clear hS a; intro a hS
                  refine L_go hS rfl rfl (s_e hS (e_bin rfl rfl rfl) rfl ?_); clear hS a; intro a hS
                  refine L_go hS rfl rfl (s_e hS (e_move rfl) rfl ?_); clear hS a; intro a hS
                  (first | refine g_splitD (t := 130) hS rfl ?_ ?_ | refine g_split (t := 130) hS rfl ?_ ?_) <;> (clear hS; intro hg130 hS)
                  ·
                    refine L_go hS rfl rfl (s_e hS (e_move rfl) rfl ?_); clear hS a; intro a hS
                    refine L_go hS rfl rfl (s_e hS (e_move rfl) rfl ?_); clear hS a; intro a hS
                    refine L_go hS rfl rfl (s_e hS (e_bin rfl rfl rfl) rfl ?_); clear hS a; intro a hS
                    first | (refine L_go hS rfl rfl (s_e hS (e_pick_t rfl rfl) rfl ?_); clear hS a; intro a hS) | (refine L_go hS rfl rfl (s_e hS (e_pick_f rfl rfl) rfl ?_); clear hS a; intro a hS)
                    first | (refine L_op (s_e hS (e_pick_t rfl rfl) rfl ?_); clear hS a; intro a hS) | (refine L_op (s_e hS (e_pick_f rfl rfl) rfl ?_); clear hS a; intro a hS)
                    refine L_op (s_e hS (e_move rfl) rfl ?_); clear hS a; intro a hS
                    replace hS := hS.is (t := 136) (c := false) rfl ((by first | rfl | exact decide_eq_false (by omega)))
                    first | (refine L_go hS rfl rfl (s_e hS (e_fa0 rfl ty_fo34_12) rfl ?_); clear hS a; intro a hS) | (refine L_go hS rfl rfl (s_e hS (e_faK rfl ty_fo34_12) rfl ?_); clear hS a; intro a hS)
                    refine L_go hS rfl rfl (s_e hS (e_load rfl (by repeat (first | exact .head _ | refine .tail _ ?_)) ty_sc3 (by rfl)) rfl ?_); clear hS a; intro a hS
                    refine L_go hS rfl rfl (s_e hS (e_bin rfl rfl rfl) rfl ?_); clear hS a; intro a hS
                    refine L_go hS rfl rfl (s_e hS (e_move rfl) rfl ?_); clear hS a; intro a hS
                    refine L_go hS rfl rfl (s_e hS (e_bin rfl rfl rfl) rfl ?_); clear hS a; intro a hS
                    refine L_go hS rfl rfl (s_e hS (e_binBn rfl rfl ty_u4) rfl ?_); clear hS a; intro a hS
                    first | (refine L_op (s_e hS (e_pick_t rfl rfl) rfl ?_); clear hS a; intro a hS) | (refine L_op (s_e hS (e_pick_f rfl rfl) rfl ?_); clear hS a; intro a hS)
                    refine L_op (s_e hS (e_move rfl) rfl ?_); clear hS a; intro a hS
                    replace hS := hS.is (t := 144) (c := false) rfl ((by simp; omega))
                    first | (refine L_go hS rfl rfl (s_e hS (e_fa0 rfl ty_fo34_9) rfl ?_); clear hS a; intro a hS) | (refine L_go hS rfl rfl (s_e hS (e_faK rfl ty_fo34_9) rfl ?_); clear hS a; intro a hS)
                    refine L_go hS rfl rfl (s_e hS (e_load rfl (by repeat (first | exact .head _ | refine .tail _ ?_)) ty_sc3 (by rfl)) rfl ?_); clear hS a; intro a hS
                    first | (refine L_go hS rfl rfl (s_e hS (e_fa0 rfl ty_fo34_10) rfl ?_); clear hS a; intro a hS) | (refine L_go hS rfl rfl (s_e hS (e_faK rfl ty_fo34_10) rfl ?_); clear hS a; intro a hS)
                    refine L_go hS rfl rfl (s_e hS (e_load rfl (by repeat (first | exact .head _ | refine .tail _ ?_)) ty_sc3 (by rfl)) rfl ?_); clear hS a; intro a hS
                    first | (refine L_go hS rfl rfl (s_e hS (e_binN rfl rfl rfl (by omega)) rfl ?_); clear hS a; intro a hS) | (refine L_go hS rfl rfl (s_e hS (e_bin rfl rfl rfl) rfl ?_); clear hS a; intro a hS)
                    first | (refine L_go hS rfl rfl (s_e hS (e_fa0 rfl ty_fo34_11) rfl ?_); clear hS a; intro a hS) | (refine L_go hS rfl rfl (s_e hS (e_faK rfl ty_fo34_11) rfl ?_); clear hS a; intro a hS)
                    refine L_go hS rfl rfl (s_e hS (e_load rfl (by repeat (first | exact .head _ | refine .tail _ ?_)) ty_sc3 (by rfl)) rfl ?_); clear hS a; intro a hS
                    first | (refine L_go hS rfl rfl (s_e hS (e_binN rfl rfl rfl (by omega)) rfl ?_); clear hS a; intro a hS) | (refine L_go hS rfl rfl (s_e hS (e_bin rfl rfl rfl) rfl ?_); clear hS a; intro a hS)
                    refine L_go hS rfl rfl (s_e hS (e_move rfl) rfl ?_); clear hS a; intro a hS
                    refine L_go hS rfl rfl (s_e hS (e_bin rfl rfl rfl) rfl ?_); clear hS a; intro a hS
                    first | (refine L_op (s_e hS (e_pick_t rfl rfl) rfl ?_); clear hS a; intro a hS) | (refine L_op (s_e hS (e_pick_f rfl rfl) rfl ?_); clear hS a; intro a hS)
                    refine L_nil ?_
                    refine n_then ?_
                    replace hS := hS.is (t := 155) (c := false) rfl ((by first | rfl | exact decide_eq_false (by omega)))
                    refine c_if_f hS rfl ?_
                    refine wp_skip ?_
                    refine n_block ?_
                    refine n_then ?_
                    refine c_region ?_
                    refine L_op (s_e hS (e_move rfl) rfl ?_); clear hS a; intro a hS
                    first | (refine L_op (s_e hS (e_binN rfl rfl rfl (by omega)) rfl ?_); clear hS a; intro a hS) | (refine L_op (s_e hS (e_bin rfl rfl rfl) rfl ?_); clear hS a; intro a hS)
                    refine L_op (s_e hS (e_assign rfl) rfl ?_); clear hS a; intro a hS
                    refine L_nil ?_
                    replace hS := hS.drop (Γ' := [bookA x51 sv [it1] true, argA]) (by repeat (first | exact List.Sublist.refl _ | apply List.Sublist.cons))
                    first
                    | (
                      have el : leftI it.v - pay = leftI it1.v := by omega
                      rw [el] at hS
                      exact ⟨(i + 1, it1), by simp only; omega, hS.slots (by exact ⟨rfl, rfl, rfl, rfl, rfl, trivial⟩), by simp only; omega, hgd1, hst1⟩)
                    | (
                      have el : leftI it.v = leftI it1.v := by omega
                      rw [el] at hS
                      exact ⟨(i + 1, it1), by simp only; omega, hS.slots (by exact ⟨rfl, rfl, rfl, rfl, rfl, trivial⟩), by simp only; omega, hgd1, hst1⟩)
                  ·
                    refine L_skip_t hS rfl rfl rfl ?_; clear hS a; intro a hS
                    refine L_skip_t hS rfl rfl rfl ?_; clear hS a; intro a hS
                    refine L_skip_t hS rfl rfl rfl ?_; clear hS a; intro a hS
                    first | (refine L_go hS rfl rfl (s_e hS (e_pick_t rfl rfl) rfl ?_); clear hS a; intro a hS) | (refine L_go hS rfl rfl (s_e hS (e_pick_f rfl rfl) rfl ?_); clear hS a; intro a hS)
                    first | (refine L_op (s_e hS (e_pick_t rfl rfl) rfl ?_); clear hS a; intro a hS) | (refine L_op (s_e hS (e_pick_f rfl rfl) rfl ?_); clear hS a; intro a hS)
                    refine L_op (s_e hS (e_move rfl) rfl ?_); clear hS a; intro a hS
                    first | (refine L_go hS rfl rfl (s_e hS (e_fa0 rfl ty_fo34_12) rfl ?_); clear hS a; intro a hS) | (refine L_go hS rfl rfl (s_e hS (e_faK rfl ty_fo34_12) rfl ?_); clear hS a; intro a hS)
                    refine L_go hS rfl rfl (s_e hS (e_load rfl (by repeat (first | exact .head _ | refine .tail _ ?_)) ty_sc3 (by rfl)) rfl ?_); clear hS a; intro a hS
                    refine L_go hS rfl rfl (s_e hS (e_bin rfl rfl rfl) rfl ?_); clear hS a; intro a hS
                    refine L_go hS rfl rfl (s_e hS (e_move rfl) rfl ?_); clear hS a; intro a hS
                    refine L_go hS rfl rfl (s_e hS (e_bin rfl rfl rfl) rfl ?_); clear hS a; intro a hS
                    refine L_go hS rfl rfl (s_e hS (e_binBn rfl rfl ty_u4) rfl ?_); clear hS a; intro a hS
                    first | (refine L_op (s_e hS (e_pick_t rfl rfl) rfl ?_); clear hS a; intro a hS) | (refine L_op (s_e hS (e_pick_f rfl rfl) rfl ?_); clear hS a; intro a hS)
                    refine L_op (s_e hS (e_move rfl) rfl ?_); clear hS a; intro a hS
                    replace hS := hS.is (t := 144) (c := false) rfl ((by simp; omega))
                    first | (refine L_go hS rfl rfl (s_e hS (e_fa0 rfl ty_fo34_9) rfl ?_); clear hS a; intro a hS) | (refine L_go hS rfl rfl (s_e hS (e_faK rfl ty_fo34_9) rfl ?_); clear hS a; intro a hS)
                    refine L_go hS rfl rfl (s_e hS (e_load rfl (by repeat (first | exact .head _ | refine .tail _ ?_)) ty_sc3 (by rfl)) rfl ?_); clear hS a; intro a hS
                    first | (refine L_go hS rfl rfl (s_e hS (e_fa0 rfl ty_fo34_10) rfl ?_); clear hS a; intro a hS) | (refine L_go hS rfl rfl (s_e hS (e_faK rfl ty_fo34_10) rfl ?_); clear hS a; intro a hS)
                    refine L_go hS rfl rfl (s_e hS (e_load rfl (by repeat (first | exact .head _ | refine .tail _ ?_)) ty_sc3 (by rfl)) rfl ?_); clear hS a; intro a hS
                    first | (refine L_go hS rfl rfl (s_e hS (e_binN rfl rfl rfl (by omega)) rfl ?_); clear hS a; intro a hS) | (refine L_go hS rfl rfl (s_e hS (e_bin rfl rfl rfl) rfl ?_); clear hS a; intro a hS)
                    first | (refine L_go hS rfl rfl (s_e hS (e_fa0 rfl ty_fo34_11) rfl ?_); clear hS a; intro a hS) | (refine L_go hS rfl rfl (s_e hS (e_faK rfl ty_fo34_11) rfl ?_); clear hS a; intro a hS)
                    refine L_go hS rfl rfl (s_e hS (e_load rfl (by repeat (first | exact .head _ | refine .tail _ ?_)) ty_sc3 (by rfl)) rfl ?_); clear hS a; intro a hS
                    first | (refine L_go hS rfl rfl (s_e hS (e_binN rfl rfl rfl (by omega)) rfl ?_); clear hS a; intro a hS) | (refine L_go hS rfl rfl (s_e hS (e_bin rfl rfl rfl) rfl ?_); clear hS a; intro a hS)
                    refine L_go hS rfl rfl (s_e hS (e_move rfl) rfl ?_); clear hS a; intro a hS
                    refine L_go hS rfl rfl (s_e hS (e_bin rfl rfl rfl) rfl ?_); clear hS a; intro a hS
                    first | (refine L_op (s_e hS (e_pick_t rfl rfl) rfl ?_); clear hS a; intro a hS) | (refine L_op (s_e hS (e_pick_f rfl rfl) rfl ?_); clear hS a; intro a hS)
                    refine L_nil ?_
                    refine n_then ?_
                    replace hS := hS.is (t := 155) (c := false) rfl ((by first | rfl | exact decide_eq_false (by omega)))
                    refine c_if_f hS rfl ?_
                    refine wp_skip ?_
                    refine n_block ?_
                    refine n_then ?_
                    refine c_region ?_
                    refine L_op (s_e hS (e_move rfl) rfl ?_); clear hS a; intro a hS
                    first | (refine L_op (s_e hS (e_binN rfl rfl rfl (by omega)) rfl ?_); clear hS a; intro a hS) | (refine L_op (s_e hS (e_bin rfl rfl rfl) rfl ?_); clear hS a; intro a hS)
                    refine L_op (s_e hS (e_assign rfl) rfl ?_); clear hS a; intro a hS
                    refine L_nil ?_
                    replace hS := hS.drop (Γ' := [bookA x51 sv [it1] true, argA]) (by repeat (first | exact List.Sublist.refl _ | apply List.Sublist.cons))
                    first
                    | (
                      have el : leftI it.v - pay = leftI it1.v := by omega
                      rw [el] at hS
                      exact ⟨(i + 1, it1), by simp only; omega, hS.slots (by exact ⟨rfl, rfl, rfl, rfl, rfl, trivial⟩), by simp only; omega, hgd1, hst1⟩)
                    | (
                      have el : leftI it.v = leftI it1.v := by omega
                      rw [el] at hS
                      exact ⟨(i + 1, it1), by simp only; omega, hS.slots (by exact ⟨rfl, rfl, rfl, rfl, rfl, trivial⟩), by simp only; omega, hgd1, hst1⟩)
                ·
                  refine c_region ?_
                  refine L_op (s_e hS (e_move rfl) rfl ?_); clear hS a; intro a hS
                  refine L_op (s_e hS (e_move rfl) rfl ?_); clear hS a; intro a hS
                  first | (refine L_op (s_e hS (e_binN rfl rfl rfl (by omega)) rfl ?_); clear hS a; intro a hS) | (refine L_op (s_e hS (e_bin rfl rfl rfl) rfl ?_); clear hS a; intro a hS)
                  refine L_op (s_e hS (e_assign rfl) rfl ?_); clear hS a; intro a hS
                  refine L_nil ?_
                  refine n_then ?_
                  refine c_seq ?_
                  refine c_region ?_
                  refine L_op (s_e hS (e_move rfl) rfl ?_); clear hS a; intro a hS
                  refine L_op (s_e hS (e_move rfl) rfl ?_); clear hS a; intro a hS
                  refine L_op (s_callN hS (.cons rfl (.cons rfl .nil)) cf17 rfl (Get_some x51 sv [it1] 0 it1 rfl (by simp) (by have := hgd1.lines; omega) _ (hS.get (X := bookA x51 sv [it1] true) (by repeat (first | exact .head _ | refine .tail _ ?_)))) ?_); clear hS a; (try clear w); intro x121 a w hS
                  refine L_op (s_e hS (e_move rfl) rfl ?_); clear hS a; intro a hS
                  refine L_op (s_e hS (e_extract rfl rfl) rfl ?_); clear hS a; intro a hS
                  refine L_op (s_e hS (e_extract rfl rfl) rfl ?_); clear hS a; intro a hS
                  refine L_op (s_alloc hS ty_z34 rfl ?_); clear hS a; (try clear w); intro a w b22 hS
                  refine L_op (s_storeA hS rfl rfl ty_sz34 (by repeat (first | apply Rep.head | apply Rep.tail)) (by rfl) (by rfl) (by rfl) ?_); clear hS; (try clear w); intro w hS
                  refine L_op (s_e hS (e_assign rfl) rfl ?_); clear hS a; intro a hS
                  refine L_nil ?_
                  refine n_then ?_
                  refine c_seq ?_
                  refine c_region ?_
                  refine L_op (s_e hS (e_move rfl) rfl ?_); clear hS a; intro a hS
                  refine L_op (s_e hS (e_move rfl) rfl ?_); clear hS a; intro a hS
                  refine L_op (s_e hS (e_bin rfl rfl rfl) rfl ?_); clear hS a; intro a hS
                  refine L_op (s_e hS (e_move rfl) rfl ?_); clear hS a; intro a hS
                  replace hS := hS.is (t := 127) (c := false) rfl ((decide_eq_false (by omega)))
                  refine L_go hS rfl rfl (s_e hS (e_move rfl) rfl ?_); clear hS a; intro a hS
                  refine L_go hS rfl rfl (s_e hS (e_bin rfl rfl rfl) rfl ?_); clear hS a; intro a hS
                  refine L_go hS rfl rfl (s_e hS (e_move rfl) rfl ?_); clear hS a; intro a hS
                  (first | refine g_splitD (t := 130) hS rfl ?_ ?_ | refine g_split (t := 130) hS rfl ?_ ?_) <;> (clear hS; intro hg130 hS)
                  ·
                    refine L_go hS rfl rfl (s_e hS (e_move rfl) rfl ?_); clear hS a; intro a hS
                    refine L_go hS rfl rfl (s_e hS (e_move rfl) rfl ?_); clear hS a; intro a hS
                    refine L_go hS rfl rfl (s_e hS (e_bin rfl rfl rfl) rfl ?_); clear hS a; intro a hS
                    first | (refine L_go hS rfl rfl (s_e hS (e_pick_t rfl rfl) rfl ?_); clear hS a; intro a hS) | (refine L_go hS rfl rfl (s_e hS (e_pick_f rfl rfl) rfl ?_); clear hS a; intro a hS)
                    first | (refine L_op (s_e hS (e_pick_t rfl rfl) rfl ?_); clear hS a; intro a hS) | (refine L_op (s_e hS (e_pick_f rfl rfl) rfl ?_); clear hS a; intro a hS)
                    refine L_op (s_e hS (e_move rfl) rfl ?_); clear hS a; intro a hS
                    replace hS := hS.is (t := 136) (c := false) rfl ((by first | rfl | exact decide_eq_false (by omega)))
                    first | (refine L_go hS rfl rfl (s_e hS (e_fa0 rfl ty_fo34_12) rfl ?_); clear hS a; intro a hS) | (refine L_go hS rfl rfl (s_e hS (e_faK rfl ty_fo34_12) rfl ?_); clear hS a; intro a hS)
                    refine L_go hS rfl rfl (s_e hS (e_load rfl (by repeat (first | exact .head _ | refine .tail _ ?_)) ty_sc3 (by rfl)) rfl ?_); clear hS a; intro a hS
                    refine L_go hS rfl rfl (s_e hS (e_bin rfl rfl rfl) rfl ?_); clear hS a; intro a hS
                    refine L_go hS rfl rfl (s_e hS (e_move rfl) rfl ?_); clear hS a; intro a hS
                    refine L_go hS rfl rfl (s_e hS (e_bin rfl rfl rfl) rfl ?_); clear hS a; intro a hS
                    refine L_go hS rfl rfl (s_e hS (e_binBn rfl rfl ty_u4) rfl ?_); clear hS a; intro a hS
                    first | (refine L_op (s_e hS (e_pick_t rfl rfl) rfl ?_); clear hS a; intro a hS) | (refine L_op (s_e hS (e_pick_f rfl rfl) rfl ?_); clear hS a; intro a hS)
                    refine L_op (s_e hS (e_move rfl) rfl ?_); clear hS a; intro a hS
                    replace hS := hS.is (t := 144) (c := false) rfl ((by simp; omega))
                    first | (refine L_go hS rfl rfl (s_e hS (e_fa0 rfl ty_fo34_9) rfl ?_); clear hS a; intro a hS) | (refine L_go hS rfl rfl (s_e hS (e_faK rfl ty_fo34_9) rfl ?_); clear hS a; intro a hS)
                    refine L_go hS rfl rfl (s_e hS (e_load rfl (by repeat (first | exact .head _ | refine .tail _ ?_)) ty_sc3 (by rfl)) rfl ?_); clear hS a; intro a hS
                    first | (refine L_go hS rfl rfl (s_e hS (e_fa0 rfl ty_fo34_10) rfl ?_); clear hS a; intro a hS) | (refine L_go hS rfl rfl (s_e hS (e_faK rfl ty_fo34_10) rfl ?_); clear hS a; intro a hS)
                    refine L_go hS rfl rfl (s_e hS (e_load rfl (by repeat (first | exact .head _ | refine .tail _ ?_)) ty_sc3 (by rfl)) rfl ?_); clear hS a; intro a hS
                    first | (refine L_go hS rfl rfl (s_e hS (e_binN rfl rfl rfl (by omega)) rfl ?_); clear hS a; intro a hS) | (refine L_go hS rfl rfl (s_e hS (e_bin rfl rfl rfl) rfl ?_); clear hS a; intro a hS)
                    first | (refine L_go hS rfl rfl (s_e hS (e_fa0 rfl ty_fo34_11) rfl ?_); clear hS a; intro a hS) | (refine L_go hS rfl rfl (s_e hS (e_faK rfl ty_fo34_11) rfl ?_); clear hS a; intro a hS)
                    refine L_go hS rfl rfl (s_e hS (e_load rfl (by repeat (first | exact .head _ | refine .tail _ ?_)) ty_sc3 (by rfl)) rfl ?_); clear hS a; intro a hS
                    first | (refine L_go hS rfl rfl (s_e hS (e_binN rfl rfl rfl (by omega)) rfl ?_); clear hS a; intro a hS) | (refine L_go hS rfl rfl (s_e hS (e_bin rfl rfl rfl) rfl ?_); clear hS a; intro a hS)
                    refine L_go hS rfl rfl (s_e hS (e_move rfl) rfl ?_); clear hS a; intro a hS
                    refine L_go hS rfl rfl (s_e hS (e_bin rfl rfl rfl) rfl ?_); clear hS a; intro a hS
                    first | (refine L_op (s_e hS (e_pick_t rfl rfl) rfl ?_); clear hS a; intro a hS) | (refine L_op (s_e hS (e_pick_f rfl rfl) rfl ?_); clear hS a; intro a hS)
                    refine L_nil ?_
                    refine n_then ?_
                    replace hS := hS.is (t := 155) (c := false) rfl ((by first | rfl | exact decide_eq_false (by omega)))
                    refine c_if_f hS rfl ?_
                    refine wp_skip ?_
                    refine n_block ?_
                    refine n_then ?_
                    refine c_region ?_
                    refine L_op (s_e hS (e_move rfl) rfl ?_); clear hS a; intro a hS
                    first | (refine L_op (s_e hS (e_binN rfl rfl rfl (by omega)) rfl ?_); clear hS a; intro a hS) | (refine L_op (s_e hS (e_bin rfl rfl rfl) rfl ?_); clear hS a; intro a hS)
                    refine L_op (s_e hS (e_assign rfl) rfl ?_); clear hS a; intro a hS
                    refine L_nil ?_
                    replace hS := hS.drop (Γ' := [bookA x51 sv [it1] true, argA]) (by repeat (first | exact List.Sublist.refl _ | apply List.Sublist.cons))
                    first
                    | (
                      have el : leftI it.v - pay = leftI it1.v := by omega
                      rw [el] at hS
                      exact ⟨(i + 1, it1), by simp only; omega, hS.slots (by exact ⟨rfl, rfl, rfl, rfl, rfl, trivial⟩), by simp only; omega, hgd1, hst1⟩)
                    | (
                      have el : leftI it.v = leftI it1.v := by omega
                      rw [el] at hS
                      exact ⟨(i + 1, it1), by simp only; omega, hS.slots (by exact ⟨rfl, rfl, rfl, rfl, rfl, trivial⟩), by simp only; omega, hgd1, hst1⟩)
                  ·
                    refine L_skip_t hS rfl rfl rfl ?_; clear hS a; intro a hS
                    refine L_skip_t hS rfl rfl rfl ?_; clear hS a; intro a hS
                    refine L_skip_t hS rfl rfl rfl ?_; clear hS a; intro a hS
                    first | (refine L_go hS rfl rfl (s_e hS (e_pick_t rfl rfl) rfl ?_); clear hS a; intro a hS) | (refine L_go hS rfl rfl (s_e hS (e_pick_f rfl rfl) rfl ?_); clear hS a; intro a hS)
                    first | (refine L_op (s_e hS (e_pick_t rfl rfl) rfl ?_); clear hS a; intro a hS) | (refine L_op (s_e hS (e_pick_f rfl rfl) rfl ?_); clear hS a; intro a hS)
                    refine L_op (s_e hS (e_move rfl) rfl ?_); clear hS a; intro a hS
                    first | (refine L_go hS rfl rfl (s_e hS (e_fa0 rfl ty_fo34_12) rfl ?_); clear hS a; intro a hS) | (refine L_go hS rfl rfl (s_e hS (e_faK rfl ty_fo34_12) rfl ?_); clear hS a; intro a hS)
                    refine L_go hS rfl rfl (s_e hS (e_load rfl (by repeat (first | exact .head _ | refine .tail _ ?_)) ty_sc3 (by rfl)) rfl ?_); clear hS a; intro a hS
                    refine L_go hS rfl rfl (s_e hS (e_bin rfl rfl rfl) rfl ?_); clear hS a; intro a hS
                    refine L_go hS rfl rfl (s_e hS (e_move rfl) rfl ?_); clear hS a; intro a hS
                    refine L_go hS rfl rfl (s_e hS (e_bin rfl rfl rfl) rfl ?_); clear hS a; intro a hS
                    refine L_go hS rfl rfl (s_e hS (e_binBn rfl rfl ty_u4) rfl ?_); clear hS a; intro a hS
                    first | (refine L_op (s_e hS (e_pick_t rfl rfl) rfl ?_); clear hS a; intro a hS) | (refine L_op (s_e hS (e_pick_f rfl rfl) rfl ?_); clear hS a; intro a hS)
                    refine L_op (s_e hS (e_move rfl) rfl ?_); clear hS a; intro a hS
                    replace hS := hS.is (t := 144) (c := false) rfl ((by simp; omega))
                    first | (refine L_go hS rfl rfl (s_e hS (e_fa0 rfl ty_fo34_9) rfl ?_); clear hS a; intro a hS) | (refine L_go hS rfl rfl (s_e hS (e_faK rfl ty_fo34_9) rfl ?_); clear hS a; intro a hS)
                    refine L_go hS rfl rfl (s_e hS (e_load rfl (by repeat (first | exact .head _ | refine .tail _ ?_)) ty_sc3 (by rfl)) rfl ?_); clear hS a; intro a hS
                    first | (refine L_go hS rfl rfl (s_e hS (e_fa0 rfl ty_fo34_10) rfl ?_); clear hS a; intro a hS) | (refine L_go hS rfl rfl (s_e hS (e_faK rfl ty_fo34_10) rfl ?_); clear hS a; intro a hS)
                    refine L_go hS rfl rfl (s_e hS (e_load rfl (by repeat (first | exact .head _ | refine .tail _ ?_)) ty_sc3 (by rfl)) rfl ?_); clear hS a; intro a hS
                    first | (refine L_go hS rfl rfl (s_e hS (e_binN rfl rfl rfl (by omega)) rfl ?_); clear hS a; intro a hS) | (refine L_go hS rfl rfl (s_e hS (e_bin rfl rfl rfl) rfl ?_); clear hS a; intro a hS)
                    first | (refine L_go hS rfl rfl (s_e hS (e_fa0 rfl ty_fo34_11) rfl ?_); clear hS a; intro a hS) | (refine L_go hS rfl rfl (s_e hS (e_faK rfl ty_fo34_11) rfl ?_); clear hS a; intro a hS)
                    refine L_go hS rfl rfl (s_e hS (e_load rfl (by repeat (first | exact .head _ | refine .tail _ ?_)) ty_sc3 (by rfl)) rfl ?_); clear hS a; intro a hS
                    first | (refine L_go hS rfl rfl (s_e hS (e_binN rfl rfl rfl (by omega)) rfl ?_); clear hS a; intro a hS) | (refine L_go hS rfl rfl (s_e hS (e_bin rfl rfl rfl) rfl ?_); clear hS a; intro a hS)
                    refine L_go hS rfl rfl (s_e hS (e_move rfl) rfl ?_); clear hS a; intro a hS
                    refine L_go hS rfl rfl (s_e hS (e_bin rfl rfl rfl) rfl ?_); clear hS a; intro a hS
                    first | (refine L_op (s_e hS (e_pick_t rfl rfl) rfl ?_); clear hS a; intro a hS) | (refine L_op (s_e hS (e_pick_f rfl rfl) rfl ?_); clear hS a; intro a hS)
                    refine L_nil ?_
                    refine n_then ?_
                    replace hS := hS.is (t := 155) (c := false) rfl ((by first | rfl | exact decide_eq_false (by omega)))
                    refine c_if_f hS rfl ?_
                    refine wp_skip ?_
                    refine n_block ?_
                    refine n_then ?_
                    refine c_region ?_
                    refine L_op (s_e hS (e_move rfl) rfl ?_); clear hS a; intro a hS
                    first | (refine L_op (s_e hS (e_binN rfl rfl rfl (by omega)) rfl ?_); clear hS a; intro a hS) | (refine L_op (s_e hS (e_bin rfl rfl rfl) rfl ?_); clear hS a; intro a hS)
                    refine L_op (s_e hS (e_assign rfl) rfl ?_); clear hS a; intro a hS
                    refine L_nil ?_
                    replace hS := hS.drop (Γ' := [bookA x51 sv [it1] true, argA]) (by repeat (first | exact List.Sublist.refl _ | apply List.Sublist.cons))
                    first
                    | (
                      have el : leftI it.v - pay = leftI it1.v := by omega
                      rw [el] at hS
                      exact ⟨(i + 1, it1), by simp only; omega, hS.slots (by exact ⟨rfl, rfl, rfl, rfl, rfl, trivial⟩), by simp only; omega, hgd1, hst1⟩)
                    | (
                      have el : leftI it.v = leftI it1.v := by omega
                      rw [el] at hS
                      exact ⟨(i + 1, it1), by simp only; omega, hS.slots (by exact ⟨rfl, rfl, rfl, rfl, rfl, trivial⟩), by simp only; omega, hgd1, hst1⟩)
        ·
          refine wp_exit ?_
          refine x_then (x_then (x_hit ?_))
          refine n_then ?_
          refine c_seq ?_
          refine c_region ?_
          refine L_op (s_e hS (e_assign rfl) rfl ?_); clear hS a; intro a hS
          refine L_nil ?_
          refine n_then ?_
          refine wp_ret ?_
          refine c_ret1 hS Try.results3 (.tmp rfl) ?_
          exact ⟨rfl, hS.chg⟩

theorem InvoicePays_P (p : Option (Nat × Nat)) (c : Nat) (hpc : p = none → c = 0) (l : List RLine) (hfit : ∀ x ∈ l, x.fits) (q : Option (Nat × Nat)) (cq : Nat) (parts : List Int) (hparts : ∀ n ∈ parts, -9223372036854775808 ≤ n ∧ n ≤ 9223372036854775807) (hlen : l.length ≤ 4611686018427387904) (hlen2 : parts.length ≤ 4611686018427387904)
    (w0 : World) (hrow : RowP p 4 (l.map encL) w0) (hpb : ∀ r, p = some r → r.1 < w0.heap.size) (hrow2 : RowP q 1 (parts.map encZ) w0) (hqb : ∀ r, q = some r → r.1 < w0.heap.size) :
    PureC Try.prog 3 [sliceV p l.length c, sliceV q parts.length cq] w0 (.bool true) := by
  by_cases hE : issueE [] acme usd 5 0 5 l = 0
  · exact InvoicePays_good p c hpc l hfit q cq parts hparts hlen hlen2 hE w0 hrow hpb hrow2 hqb
  · exact InvoicePays_bad p c hpc l hfit q cq parts hlen hE w0 hrow hpb hrow2 hqb
end Go.Proofs.Ytfiaobhkhedpiaa
