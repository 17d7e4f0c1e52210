/- The ledger: Check, walked. -/
import Derived.Test.YtheofhegdjjfgaaLed4
namespace Go.Proofs.Ytheofhegdjjfgaa
open Go.RowKit

/-- a ledger in plain data. -/
structure PL where
  cur : ByteArray
  acs : List Acc
  es : List Ent
  tot : List (ByteArray × SM)
  closed : Int
def pl (s : LS) : PL := ⟨s.cur, s.acs, s.es.map (·.v), s.tot, s.closed⟩
def okS (s : SM) : Prop := inU s.1 ∧ inU s.2
instance (s : SM) : Decidable (okS s) := by unfold okS; infer_instance
def checkE (P : PL) (at_ : Int) (memo : ByteArray) (ps : List Pst) : Int :=
  if ¬ inst at_ then 6 else if at_ ≤ P.closed then 27 else if 100 < memo.size then 8 else if (ps.length < 2 ∨ 50 < ps.length) ∨ 2000 ≤ P.es.length then 9
  else if postE P.acs ps [] ≠ 0 then postE P.acs ps [] else if ¬ evenF P.acs ps then 26 else if ∃ x ∈ ps, ¬ okS (addS (totOf P.tot x.acc) x) then 16 else 0
/-- every total is one that may be. -/
def balT (t : List (ByteArray × SM)) : Prop := ∀ e ∈ t, okS e.2
theorem balT_of {t : List (ByteArray × SM)} (h : balT t) (c : ByteArray) : okS (totOf t c) := by
  rcases totOf_mem t c with e | ⟨e, he, _, e2⟩
  · rw [e]; unfold okS inU; simp
  · rw [← e2]; exact h e he
theorem add_fit {s : SM} {p : Pst} (h : okS s) (hp : p.fits) : fitS s ∧ fitS (addS s p) := by
  have hu := hp.u
  have hf := hp.f
  unfold okS inU at h
  unfold fitS addS Wd.fit
  simp only
  omega

set_option maxRecDepth 100000 in
theorem lCheck_P (B : LB) (s : LS) (p : Option (Nat × Nat)) (c : Nat) (at_ : Int) (memo : ByteArray) (ps : List Pst) (hlen : ps.length ≤ 4611686018427387904) (hfit : ∀ x ∈ ps, x.fits) (hbt : balT s.tot) (w0 : World) (h : ledφ B s w0) (hrow : RowP p 3 (ps.map encP) w0) (hb : ∀ q, p = some q → q.1 < w0.heap.size) (hd : ∀ q, p = some q → ¬ ledF B s q.1) :
    PureC Try.prog 33 [.pointer (some ⟨B.lb, 0, none⟩), .int .i64 at_, .string memo, sliceV p ps.length c] w0 (.int .i64 (checkE (pl s) at_ memo ps)) := by
  obtain ⟨qs, cs, hsv⟩ := own_slice h.row
  have hel : (pl s).es.length = s.es.length := by simp [pl]
  refine c_enter [(0, .pointer (some ⟨B.lb, 0, none⟩)), (1, .int .i64 at_), (2, .string memo), (3, sliceV p ps.length c)] [ledA B s false, rowP p 3 (ps.map encP)] noB Try.func33 rfl Try.ntmps33 ⟨rfl, rfl, rfl, rfl, trivial⟩ rfl (okC (led_ok false h) (okC (ok_rowP hrow hb) okN)) (disC (sepC (fun b h1 h2 => by obtain ⟨off, e⟩ := h2; exact hd _ e h1) sepN) dis1) (mineC (by rfl) (mineC (by rfl) mineN)) ?_
  intro a hS
  refine c_seq ?_
  refine c_region ?_
  refine L_op (s_e hS (e_assign rfl) rfl ?_); clear hS a; intro a hS
  refine L_nil ?_
  refine n_then ?_
  refine c_seq ?_
  refine wp_block ?_
  refine c_seq ?_
  refine c_region ?_
  refine L_op (s_e hS (e_move rfl) rfl ?_); clear hS a; intro a hS
  refine L_op (s_callP hS (.cons rfl .nil) cf67 rfl (linst_P at_ _) ?_); clear hS a; (try clear w); intro a w hS
  refine L_op (s_e hS (e_not rfl) rfl ?_); clear hS a; intro a hS
  refine L_op (s_e hS (e_assign rfl) rfl ?_); clear hS a; intro a hS
  refine L_nil ?_
  refine n_then ?_
  first | refine c_ifD hS rfl (fun hc14 => ?_) (fun hc14 => ?_) | refine c_if hS rfl (fun hc14 => ?_) (fun hc14 => ?_)
  ·
    refine c_seq ?_
    refine c_region ?_
    refine L_op (s_e hS (e_assign rfl) rfl ?_); clear hS a; intro a hS
    refine L_nil ?_
    refine n_then ?_
    refine wp_ret ?_
    refine r_block (r_then ?_)
    refine c_ret1 hS Try.results33 (.tmp rfl) ?_
    exact ⟨by rw [show checkE (pl s) at_ memo ps = 6 from if_pos (by simpa using hc14)], hS.chg⟩
  ·
    have h1 : ¬ ¬ inst at_ := by simpa using hc14
    refine c_seq ?_
    refine c_region ?_
    refine L_op (s_e hS (e_move rfl) rfl ?_); clear hS a; intro a hS
    refine L_op (s_e hS (e_move rfl) rfl ?_); clear hS a; intro a hS
    refine L_op (s_e hS (e_nilCheck rfl) rfl ?_); clear hS a; intro a hS
    first | (refine L_op (s_e hS (e_fa0 rfl ty_fo129_4) rfl ?_); clear hS a; intro a hS) | (refine L_op (s_e hS (e_faK rfl ty_fo129_4) rfl ?_); clear hS a; intro a hS)
    refine L_op (s_e hS (e_loadC rfl ty_sc3 (led_cell (k := 4) (by repeat constructor) rfl)) rfl ?_); clear hS a; intro a hS
    refine L_op (s_e hS (e_bin rfl rfl rfl) rfl ?_); clear hS a; intro a hS
    refine L_op (s_e hS (e_assign rfl) rfl ?_); clear hS a; intro a hS
    refine L_nil ?_
    refine n_then ?_
    first | refine c_ifD hS rfl (fun hc18 => ?_) (fun hc18 => ?_) | refine c_if hS rfl (fun hc18 => ?_) (fun hc18 => ?_)
    ·
      refine c_seq ?_
      refine c_region ?_
      refine L_op (s_e hS (e_assign rfl) rfl ?_); clear hS a; intro a hS
      refine L_nil ?_
      refine n_then ?_
      refine wp_ret ?_
      refine r_block (r_then ?_)
      refine c_ret1 hS Try.results33 (.tmp rfl) ?_
      exact ⟨by rw [show checkE (pl s) at_ memo ps = 27 by unfold checkE; rw [if_neg h1, if_pos (show at_ ≤ (pl s).closed from hc18)]], hS.chg⟩
    ·
      have h2 : ¬ at_ ≤ (pl s).closed := hc18
      refine c_seq ?_
      refine c_region ?_
      refine L_op (s_e hS (e_move rfl) rfl ?_); clear hS a; intro a hS
      refine L_op (s_e hS (e_lenS rfl rfl ty_u9) rfl ?_); clear hS a; intro a hS
      refine L_op (s_e hS (e_bin rfl rfl rfl) rfl ?_); clear hS a; intro a hS
      refine L_op (s_e hS (e_assign rfl) rfl ?_); clear hS a; intro a hS
      refine L_nil ?_
      refine n_then ?_
      first | refine c_ifD hS rfl (fun hc25 => ?_) (fun hc25 => ?_) | refine c_if hS rfl (fun hc25 => ?_) (fun hc25 => ?_)
      ·
        refine c_seq ?_
        refine c_region ?_
        refine L_op (s_e hS (e_assign rfl) rfl ?_); clear hS a; intro a hS
        refine L_nil ?_
        refine n_then ?_
        refine wp_ret ?_
        refine r_block (r_then ?_)
        refine c_ret1 hS Try.results33 (.tmp rfl) ?_
        exact ⟨by rw [show checkE (pl s) at_ memo ps = 8 by unfold checkE; rw [if_neg h1, if_neg h2, if_pos (by omega)]], hS.chg⟩
      ·
        have h3 : ¬ 100 < memo.size := by omega
        refine c_seq ?_
        refine c_region ?_
        refine L_op (s_e hS (e_move rfl) rfl ?_); clear hS a; intro a hS
        refine L_op (s_e hS (e_len rfl rfl ty_sl56) rfl ?_); clear hS a; intro a hS
        refine L_op (s_e hS (e_bin rfl rfl rfl) rfl ?_); clear hS a; intro a hS
        refine L_op (s_e hS (e_move rfl) rfl ?_); clear hS a; intro a hS
        refine L_merge 4 37 (.bool (decide (ps.length < 2 ∨ 50 < ps.length))) hS ?_ ?_
        · intro hcM37
          (first | refine g_splitD (t := 33) hS rfl ?_ ?_ | refine g_split (t := 33) hS rfl ?_ ?_) <;> (clear hS; intro hg33 hS)
          ·
            refine L_skip_f hS rfl rfl rfl ?_; clear hS a; intro a hS
            refine L_skip_f hS rfl rfl rfl ?_; clear hS a; intro a hS
            refine L_skip_f hS rfl rfl rfl ?_; clear hS a; intro a hS
            first | (refine L_op (s_e hS (e_pick_t rfl rfl) rfl ?_); clear hS a; intro a hS) | (refine L_op (s_e hS (e_pick_f rfl rfl) rfl ?_); clear hS a; intro a hS)
            exact hcM37 _ _ (hS.ends 5 37 33 rfl (congrArg Value.bool (by rw [decide_eq_true (.inl (by omega))])) rfl rfl (by first | exact congrArg Value.bool (decide_eq_true hg33).symm | exact congrArg Value.bool hg33.symm | simp [hg33]) rfl)
          ·
            refine L_go hS rfl rfl (s_e hS (e_move rfl) rfl ?_); clear hS a; intro a hS
            refine L_go hS rfl rfl (s_e hS (e_len rfl rfl ty_sl56) rfl ?_); clear hS a; intro a hS
            refine L_go hS rfl rfl (s_e hS (e_bin rfl rfl rfl) rfl ?_); clear hS a; intro a hS
            first | (refine L_op (s_e hS (e_pick_t rfl rfl) rfl ?_); clear hS a; intro a hS) | (refine L_op (s_e hS (e_pick_f rfl rfl) rfl ?_); clear hS a; intro a hS)
            exact hcM37 _ _ (hS.ends 5 37 33 rfl (congrArg Value.bool (by rw [decide_eq_decide]; omega)) rfl rfl (by first | exact congrArg Value.bool (decide_eq_false hg33).symm | exact congrArg Value.bool hg33.symm | simp [hg33]) rfl)
        · clear hS a; (try clear w); intro a w hS
          simp only [List.drop_succ_cons, List.drop_zero]
          refine L_op (s_e hS (e_move rfl) rfl ?_); clear hS a; intro a hS
          refine L_merge 7 45 (.bool (decide ((ps.length < 2 ∨ 50 < ps.length) ∨ 2000 ≤ s.es.length))) hS ?_ ?_
          · intro hcM45
            (first | refine g_splitD (t := 38) hS rfl ?_ ?_ | refine g_split (t := 38) hS rfl ?_ ?_) <;> (clear hS; intro hg38 hS)
            ·
              refine L_skip_f hS rfl rfl rfl ?_; clear hS a; intro a hS
              refine L_skip_f hS rfl rfl rfl ?_; clear hS a; intro a hS
              refine L_skip_f hS rfl rfl rfl ?_; clear hS a; intro a hS
              refine L_skip_f hS rfl rfl rfl ?_; clear hS a; intro a hS
              refine L_skip_f hS rfl rfl rfl ?_; clear hS a; intro a hS
              refine L_skip_f hS rfl rfl rfl ?_; clear hS a; intro a hS
              first | (refine L_op (s_e hS (e_pick_t rfl rfl) rfl ?_); clear hS a; intro a hS) | (refine L_op (s_e hS (e_pick_f rfl rfl) rfl ?_); clear hS a; intro a hS)
              exact hcM45 _ _ (hS.ends 8 45 38 rfl (congrArg Value.bool (by exact (decide_eq_true (.inl hg38)).symm)) rfl rfl (by first | exact congrArg Value.bool (decide_eq_true hg38).symm | exact congrArg Value.bool hg38.symm | simp [hg38]) rfl)
            ·
              refine L_go hS rfl rfl (s_e hS (e_move rfl) rfl ?_); clear hS a; intro a hS
              refine L_go hS rfl rfl (s_e hS (e_nilCheck rfl) rfl ?_); clear hS a; intro a hS
              first | (refine L_go hS rfl rfl (s_e hS (e_fa0 rfl ty_fo129_2) rfl ?_); clear hS a; intro a hS) | (refine L_go hS rfl rfl (s_e hS (e_faK rfl ty_fo129_2) rfl ?_); clear hS a; intro a hS)
              refine L_go hS rfl rfl (s_e hS (e_loadC rfl ty_sc54 (led_cell (k := 2) (by repeat constructor) rfl)) rfl ?_); clear hS a; intro a hS
              rw [hsv] at hS
              refine L_go hS rfl rfl (s_e hS (e_len rfl rfl ty_sl54) rfl ?_); clear hS a; intro a hS
              refine L_go hS rfl rfl (s_e hS (e_bin rfl rfl rfl) rfl ?_); clear hS a; intro a hS
              first | (refine L_op (s_e hS (e_pick_t rfl rfl) rfl ?_); clear hS a; intro a hS) | (refine L_op (s_e hS (e_pick_f rfl rfl) rfl ?_); clear hS a; intro a hS)
              exact hcM45 _ _ (hS.ends 8 45 38 rfl (congrArg Value.bool (by rw [decide_eq_decide]; omega)) rfl rfl (by first | exact congrArg Value.bool (decide_eq_false hg38).symm | exact congrArg Value.bool hg38.symm | simp [hg38]) rfl)
          · clear hS a; (try clear w); intro a w hS
            simp only [List.drop_succ_cons, List.drop_zero]
            refine L_op (s_e hS (e_assign rfl) rfl ?_); clear hS a; intro a hS
            refine L_nil ?_
            refine n_then ?_
            first | refine c_ifD hS rfl (fun hc29 => ?_) (fun hc29 => ?_) | refine c_if hS rfl (fun hc29 => ?_) (fun hc29 => ?_)
            ·
              refine c_seq ?_
              refine c_region ?_
              refine L_op (s_e hS (e_assign rfl) rfl ?_); clear hS a; intro a hS
              refine L_nil ?_
              refine n_then ?_
              refine wp_ret ?_
              refine r_block (r_then ?_)
              refine c_ret1 hS Try.results33 (.tmp rfl) ?_
              exact ⟨by rw [show checkE (pl s) at_ memo ps = 9 by unfold checkE; rw [if_neg h1, if_neg h2, if_neg h3, if_pos (by rw [hel]; exact hc29)]], hS.chg⟩
            ·
              have h4 : ¬ ((ps.length < 2 ∨ 50 < ps.length) ∨ 2000 ≤ (pl s).es.length) := by rw [hel]; exact hc29
              have hl50 : ps.length ≤ 60 := by omega
              refine wp_skip ?_
              refine n_block ?_
              refine n_then ?_
              refine c_seq ?_
              refine c_seq ?_
              refine c_region ?_
              refine L_op (s_e hS (e_move rfl) rfl ?_); clear hS a; intro a hS
              refine L_op (s_e hS (e_move rfl) rfl ?_); clear hS a; intro a hS
              refine L_op (s_callP hS (.cons rfl (.cons rfl .nil)) cf75 rfl (lpost_P B s p c ps (by omega) _ (hS.get (X := ledA B s false) (by repeat constructor)) (hS.get (X := rowP p 3 (ps.map encP)) (by repeat constructor)) (fun q hq => (hS.ok (rowP p 3 (ps.map encP)) (by repeat constructor)).lt q.1 ⟨q.2, hq⟩) hd) ?_); clear hS a; (try clear w); intro a w hS
              refine L_op (s_e hS (e_assign rfl) rfl ?_); clear hS a; intro a hS
              refine L_nil ?_
              refine n_then ?_
              refine c_seq ?_
              refine c_region ?_
              refine L_op (s_e hS (e_move rfl) rfl ?_); clear hS a; intro a hS
              refine L_op (s_e hS (e_bin rfl rfl rfl) rfl ?_); clear hS a; intro a hS
              refine L_nil ?_
              refine n_then ?_
              first | refine c_ifD hS rfl (fun hc50 => ?_) (fun hc50 => ?_) | refine c_if hS rfl (fun hc50 => ?_) (fun hc50 => ?_)
              ·
                refine c_seq ?_
                refine c_region ?_
                refine L_op (s_e hS (e_move rfl) rfl ?_); clear hS a; intro a hS
                refine L_op (s_e hS (e_assign rfl) rfl ?_); clear hS a; intro a hS
                refine L_nil ?_
                refine n_then ?_
                refine wp_ret ?_
                refine r_then ?_
                refine c_ret1 hS Try.results33 (.tmp rfl) ?_
                exact ⟨by rw [show checkE (pl s) at_ memo ps = postE s.acs ps [] by unfold checkE; rw [if_neg h1, if_neg h2, if_neg h3, if_neg h4, if_pos (show postE (pl s).acs ps [] ≠ 0 from hc50)]; rfl], hS.chg⟩
              ·
                have h5 : ¬ postE (pl s).acs ps [] ≠ 0 := hc50
                refine wp_skip ?_
                refine n_then ?_
                refine c_seq ?_
                refine c_seq ?_
                refine c_region ?_
                refine L_op (s_e hS (e_move rfl) rfl ?_); clear hS a; intro a hS
                refine L_op (s_e hS (e_move rfl) rfl ?_); clear hS a; intro a hS
                refine L_op (s_callP hS (.cons rfl (.cons rfl .nil)) cf76 rfl (leven_P B s p c ps hl50 hfit _ (hS.get (X := ledA B s false) (by repeat constructor)) (hS.get (X := rowP p 3 (ps.map encP)) (by repeat constructor)) (fun q hq => (hS.ok (rowP p 3 (ps.map encP)) (by repeat constructor)).lt q.1 ⟨q.2, hq⟩) hd) ?_); clear hS a; (try clear w); intro a w hS
                refine L_op (s_e hS (e_not rfl) rfl ?_); clear hS a; intro a hS
                refine L_nil ?_
                refine n_then ?_
                first | refine c_ifD hS rfl (fun hc55 => ?_) (fun hc55 => ?_) | refine c_if hS rfl (fun hc55 => ?_) (fun hc55 => ?_)
                ·
                  refine c_seq ?_
                  refine c_region ?_
                  refine L_op (s_e hS (e_assign rfl) rfl ?_); clear hS a; intro a hS
                  refine L_nil ?_
                  refine n_then ?_
                  refine wp_ret ?_
                  refine r_then ?_
                  refine c_ret1 hS Try.results33 (.tmp rfl) ?_
                  exact ⟨by rw [show checkE (pl s) at_ memo ps = 26 by unfold checkE; rw [if_neg h1, if_neg h2, if_neg h3, if_neg h4, if_neg h5, if_pos (show ¬ evenF (pl s).acs ps from (by simpa using hc55 : ¬ evenF s.acs ps))]], hS.chg⟩
                ·
                  have h60 : ¬ ¬ evenF s.acs ps := by simpa using hc55
                  have h6 : ¬ ¬ evenF (pl s).acs ps := h60
                  refine wp_skip ?_
                  refine n_then ?_
                  refine c_seq ?_
                  refine c_seq ?_
                  refine c_region ?_
                  refine L_op (s_e hS (e_move rfl) rfl ?_); clear hS a; intro a hS
                  refine L_op (s_e hS (e_len rfl rfl ty_sl56) rfl ?_); clear hS a; intro a hS
                  refine L_op (s_e hS (e_move rfl) rfl ?_); clear hS a; intro a hS
                  refine L_nil ?_
                  refine n_then ?_
                  refine wp_block ?_
                  skip
                  refine c_loop (γ := Nat) (fun i a w => St 80 noB w0 a w [(58, .int .i64 (i : Int)), (57, .int .i64 (ps.length : Int)), (56, sliceV p ps.length c), (0, .pointer (some ⟨B.lb, 0, none⟩))] [ledA B s false, rowP p 3 (ps.map encP)] ∧ i ≤ ps.length ∧ ∀ j, j < i → ∀ x, ps[j]? = some x → okS (addS (totOf s.tot x.acc) x)) (fun i => ps.length - i) 0 ⟨(hS.slots (by repeat (first | exact trivial | refine ⟨rfl, ?_⟩))).pick (by repeat (first | exact Pick.nil | (refine Pick.cons (by repeat (first | exact Rem.head | apply Rem.tail)) ?_))), Nat.zero_le _, fun j hj => by omega⟩ ?_
                  clear hS a; (try clear w); intro i a w hI
                  obtain ⟨hS, hi, hno⟩ := hI
                  refine c_seq ?_
                  refine c_region ?_
                  refine L_op (s_e hS (e_bin rfl rfl rfl) rfl ?_); clear hS a; intro a hS
                  refine L_nil ?_
                  refine n_then ?_
                  refine c_seq ?_
                  first | refine c_ifD hS rfl (fun hc59 => ?_) (fun hc59 => ?_) | refine c_if hS rfl (fun hc59 => ?_) (fun hc59 => ?_)
                  ·
                    have hil : i < ps.length := by omega
                    obtain ⟨x, hx⟩ : ∃ x, ps[i]? = some x := ⟨ps[i], List.getElem?_eq_getElem hil⟩
                    have hxm := List.mem_of_getElem? hx
                    have hxf := hfit x hxm
                    have hx' : (ps.map encP)[i]? = some (encP x) := by simp [hx]
                    obtain ⟨b, off, rfl⟩ := rowP_some (hS.get (X := rowP p 3 (ps.map encP)) (by repeat constructor)) hx'
                    obtain ⟨f1, f2⟩ := add_fit (balT_of hbt x.acc) hxf
                    refine wp_skip ?_
                    refine n_then ?_
                    refine c_seq ?_
                    refine wp_block ?_
                    refine c_seq ?_
                    refine c_region ?_
                    refine L_op (s_e hS (e_ixN rfl rfl ty_sl56 ty_sz63 (by omega)) rfl ?_); clear hS a; intro a hS
                    refine L_op (s_e hS (e_loadAC (l := encP x) rfl ty_st63 ty_sz63 (fun w hh => rowP_get (by repeat constructor) hx' w hh)) rfl ?_); clear hS a; intro a hS
                    refine L_op (s_alloc hS ty_z63 rfl ?_); clear hS a; (try clear w); intro a w b11 hS
                    refine L_op (s_storeA hS rfl rfl ty_sz63 (by repeat constructor) (by rfl) (by rfl) (by rfl) ?_); clear hS; (try clear w); intro w hS
                    refine L_nil ?_
                    refine n_then ?_
                    refine c_seq ?_
                    refine c_drawS [] (by kernel_rfl) hS (sub_cons (X := .blk b11 _ _) (by repeat constructor) (sub_cons (X := ledA B s false) (by repeat constructor) sub_nil)) ?_; clear hS; (try clear w); intro w hS
                    simp only [List.length_cons, List.length_nil, Nat.zero_add, Nat.reduceAdd, List.replicate]
                    refine Z_take0 (i := 0) hS rfl want_none (e_move rfl) (listed' := [true, false, false, false, false, false, false, false, false, false, false, false, false, false, false, false, false, false]) rfl (by kernel_rfl) (by kernel_rfl) (by kernel_rfl) (fun _ _ _ h => h) rfl ?_; clear hS a; intro a hS
                    refine Z_take0 (i := 1) hS rfl want_none (e_nilCheck rfl) (listed' := [true, true, false, false, false, false, false, false, false, false, false, false, false, false, false, false, false, false]) rfl (by kernel_rfl) (by kernel_rfl) (by kernel_rfl) (fun _ _ _ h => h) rfl ?_; clear hS a; intro a hS
                    first | (refine Z_take0 (i := 2) hS rfl want_none (e_fa0 rfl ty_fo129_3) (listed' := [true, true, true, false, false, false, false, false, false, false, false, false, false, false, false, false, false, false]) rfl (by kernel_rfl) (by kernel_rfl) (by kernel_rfl) (fun _ _ _ h => h) rfl ?_; clear hS a; intro a hS) | (refine Z_take0 (i := 2) hS rfl want_none (e_faK rfl ty_fo129_3) (listed' := [true, true, true, false, false, false, false, false, false, false, false, false, false, false, false, false, false, false]) rfl (by kernel_rfl) (by kernel_rfl) (by kernel_rfl) (fun _ _ _ h => h) rfl ?_; clear hS a; intro a hS)
                    refine Z_take (i := 3) hS rfl want_none (e_loadC rfl ty_sc127 (led_cell (k := 3) (by repeat constructor) rfl)) (listed' := [true, true, true, true, false, false, false, false, false, false, false, false, false, false, false, false, false, false]) rfl (by kernel_rfl) (by kernel_rfl) (by kernel_rfl) (by kernel_rfl) (by kernel_rfl) (sub_cons (by repeat constructor) (sub_cons (by repeat constructor) sub_nil)) (fun _ _ _ h => h) rfl ?_; clear hS a; intro a hS
                    first | (refine Z_take0 (i := 4) hS rfl want_none (e_fa0 rfl ty_fo63_0) (listed' := [true, true, true, true, true, false, false, false, false, false, false, false, false, false, false, false, false, false]) rfl (by kernel_rfl) (by kernel_rfl) (by kernel_rfl) (fun _ _ _ h => h) rfl ?_; clear hS a; intro a hS) | (refine Z_take0 (i := 4) hS rfl want_none (e_faK rfl ty_fo63_0) (listed' := [true, true, true, true, true, false, false, false, false, false, false, false, false, false, false, false, false, false]) rfl (by kernel_rfl) (by kernel_rfl) (by kernel_rfl) (fun _ _ _ h => h) rfl ?_; clear hS a; intro a hS)
                    refine Z_take (i := 5) hS rfl want_none (e_load rfl (by repeat constructor) ty_sc9 (by rfl)) (listed' := [true, true, true, true, true, true, false, false, false, false, false, false, false, false, false, false, false, false]) rfl (by kernel_rfl) (by kernel_rfl) (by kernel_rfl) (by kernel_rfl) (by kernel_rfl) (sub_cons (by repeat constructor) (sub_cons (by repeat constructor) sub_nil)) (fun _ _ _ h => h) rfl ?_; clear hS a; intro a hS
                    refine Z_take (i := 6) hS rfl want_none (e_lookupC rfl rfl ty_mp127 ty_u9 ty_zv136 (fun w hh => (hh (ledA B s false) (by repeat constructor)).tm)) (listed' := [true, true, true, true, true, true, true, false, false, false, false, false, false, false, false, false, false, false]) rfl (by kernel_rfl) (by kernel_rfl) (by kernel_rfl) (by kernel_rfl) (by kernel_rfl) (sub_cons (by repeat constructor) (sub_cons (by repeat constructor) sub_nil)) (fun _ _ _ h => h) rfl ?_; clear hS a; intro a hS
                    rw [lk_tot] at hS
                    refine Z_take (i := 7) hS rfl want_none (e_loadA rfl (by repeat constructor) ty_st63 ty_sz63 (by rfl)) (listed' := [true, true, true, true, true, true, true, true, false, false, false, false, false, false, false, false, false, false]) rfl (by kernel_rfl) (by kernel_rfl) (by kernel_rfl) (by kernel_rfl) (by kernel_rfl) (sub_cons (by repeat constructor) (sub_cons (by repeat constructor) sub_nil)) (fun _ _ _ h => h) rfl ?_; clear hS a; intro a hS
                    first | (refine Z_take0 (i := 9) hS rfl want_none (e_fa0 rfl ty_fo63_0) (listed' := [true, true, true, true, true, true, true, true, false, true, false, false, false, false, false, false, false, false]) rfl (by kernel_rfl) (by kernel_rfl) (by kernel_rfl) (fun _ _ _ h => h) rfl ?_; clear hS a; intro a hS) | (refine Z_take0 (i := 9) hS rfl want_none (e_faK rfl ty_fo63_0) (listed' := [true, true, true, true, true, true, true, true, false, true, false, false, false, false, false, false, false, false]) rfl (by kernel_rfl) (by kernel_rfl) (by kernel_rfl) (fun _ _ _ h => h) rfl ?_; clear hS a; intro a hS)
                    refine Z_take (i := 10) hS rfl want_none (e_load rfl (by repeat constructor) ty_sc9 (by rfl)) (listed' := [true, true, true, true, true, true, true, true, false, true, true, false, false, false, false, false, false, false]) rfl (by kernel_rfl) (by kernel_rfl) (by kernel_rfl) (by kernel_rfl) (by kernel_rfl) (sub_cons (by repeat constructor) (sub_cons (by repeat constructor) sub_nil)) (fun _ _ _ h => h) rfl ?_; clear hS a; intro a hS
                    refine Z_many (j := 8) (js := [15]) (by kernel_rfl) ⟨?_, ?_, trivial⟩
                    ·
                      refine Z_op (i := 8) rfl (want_none a hS.sl) (listed' := [true, true, true, true, true, true, true, true, true, true, true, false, false, false, false, false, false, false]) rfl (s_callP hS (.cons rfl (.cons rfl .nil)) cf70 rfl (sadd_P (totOf s.tot x.acc) x f1 hxf f2 _) ?_); clear hS a; (try clear w); intro a w hS
                      refine Z_and hS (sub_cons (by repeat constructor) (sub_cons (by repeat constructor) sub_nil)) ?_
                      refine Z_many (j := 11) (js := [15]) (by kernel_rfl) ⟨?_, ?_, trivial⟩
                      ·
                        refine Z_op (i := 11) rfl (want_none a hS.sl) (listed' := [true, true, true, true, true, true, true, true, true, true, true, true, false, false, false, false, false, false]) rfl (s_callP hS (.cons rfl (.cons rfl .nil)) cf71 rfl (sbal_P (addS (totOf s.tot x.acc) x) x.acc f2 _) ?_); clear hS a; (try clear w); intro a w hS
                        refine Z_and hS (sub_cons (by repeat constructor) (sub_cons (by repeat constructor) sub_nil)) ?_
                        refine Z_take0 (i := 12) hS rfl want_none (e_move rfl) (listed' := [true, true, true, true, true, true, true, true, true, true, true, true, true, false, false, false, false, false]) rfl (by kernel_rfl) (by kernel_rfl) (by kernel_rfl) (fun _ _ _ h => h) rfl ?_; clear hS a; intro a hS
                        refine Z_take0 (i := 13) hS rfl want_none (e_extract rfl rfl) (listed' := [true, true, true, true, true, true, true, true, true, true, true, true, true, true, false, false, false, false]) rfl (by kernel_rfl) (by kernel_rfl) (by kernel_rfl) (fun _ _ _ h => h) rfl ?_; clear hS a; intro a hS
                        refine Z_take0 (i := 14) hS rfl want_none (e_extract rfl rfl) (listed' := [true, true, true, true, true, true, true, true, true, true, true, true, true, true, true, false, false, false]) rfl (by kernel_rfl) (by kernel_rfl) (by kernel_rfl) (fun _ _ _ h => h) rfl ?_; clear hS a; intro a hS
                        refine Z_one (i := 15) rfl (want_none a hS.sl) (listed' := [true, true, true, true, true, true, true, true, true, true, true, true, true, true, true, true, false, false]) rfl (by kernel_rfl) (s_alloc hS ty_z60 rfl ?_); clear hS a; (try clear w); intro a w b12 hS
                        refine Z_and hS (sub_cons (by repeat constructor) (sub_cons (by repeat constructor) sub_nil)) ?_
                        refine Z_one (i := 16) rfl (want_none a hS.sl) (listed' := [true, true, true, true, true, true, true, true, true, true, true, true, true, true, true, true, true, false]) rfl (by kernel_rfl) (s_storeA hS rfl rfl ty_sz60 (by repeat constructor) (by rfl) (by rfl) (by rfl) ?_); clear hS; (try clear w); intro w hS
                        refine Z_and hS (sub_cons (by repeat constructor) (sub_cons (by repeat constructor) sub_nil)) ?_
                        refine Z_take0 (i := 17) hS rfl want_none (e_assign rfl) (listed' := [true, true, true, true, true, true, true, true, true, true, true, true, true, true, true, true, true, true]) rfl (by kernel_rfl) (by kernel_rfl) (by kernel_rfl) (fun _ _ _ h => h) rfl ?_; clear hS a; intro a hS
                        refine Z_done (by kernel_rfl) ?_
                        refine n_then ?_
                        refine c_seq ?_
                        refine c_region ?_
                        refine L_op (s_e hS (e_move rfl) rfl ?_); clear hS a; intro a hS
                        refine L_op (s_e hS (e_not rfl) rfl ?_); clear hS a; intro a hS
                        refine L_nil ?_
                        refine n_then ?_
                        first | refine c_ifD hS rfl (fun hc78 => ?_) (fun hc78 => ?_) | refine c_if hS rfl (fun hc78 => ?_) (fun hc78 => ?_)
                        ·
                          refine c_seq ?_
                          refine c_region ?_
                          refine L_op (s_e hS (e_assign rfl) rfl ?_); clear hS a; intro a hS
                          refine L_nil ?_
                          refine n_then ?_
                          refine wp_ret ?_
                          refine r_block (r_then (r_then (r_block (r_then ?_))))
                          refine c_ret1 hS Try.results33 (.tmp rfl) ?_
                          have hn : ¬ okS (addS (totOf s.tot x.acc) x) := fun e => by
                            have e2 : decide (inU (addS (totOf s.tot x.acc) x).1 ∧ inU (addS (totOf s.tot x.acc) x).2) = true := decide_eq_true e
                            rw [e2] at hc78; cases hc78
                          exact ⟨by rw [show checkE (pl s) at_ memo ps = 16 by unfold checkE; rw [if_neg h1, if_neg h2, if_neg h3, if_neg h4, if_neg h5, if_neg h6, if_pos (show ∃ x ∈ ps, ¬ okS (addS (totOf (pl s).tot x.acc) x) from ⟨x, hxm, hn⟩)]], hS.chg⟩
                        ·
                          refine wp_skip ?_
                          refine n_block ?_
                          refine n_then ?_
                          refine c_region ?_
                          first | (refine L_op (s_e hS (e_binN rfl rfl rfl (by omega)) rfl ?_); clear hS a; intro a hS) | (refine L_op (s_e hS (e_bin rfl rfl rfl) rfl ?_); clear hS a; intro a hS)
                          refine L_op (s_e hS (e_move rfl) rfl ?_); clear hS a; intro a hS
                          refine L_nil ?_
                          have hy : okS (addS (totOf s.tot x.acc) x) := by
                            have e2 : decide (inU (addS (totOf s.tot x.acc) x).1 ∧ inU (addS (totOf s.tot x.acc) x).2) = true := by simpa using hc78
                            exact of_decide_eq_true e2
                          exact ⟨i + 1, by omega, (hS.slots (by repeat (first | exact trivial | refine ⟨rfl, ?_⟩))).pick (by repeat (first | exact Pick.nil | (refine Pick.cons (by repeat (first | exact Rem.head | apply Rem.tail)) ?_))), by omega, fun j hj y hyj => by
                            by_cases e : j = i
                            · subst e; rw [hx] at hyj; cases hyj; exact hy
                            · exact hno j (by omega) y hyj⟩
                      ·
                        refine Z_op (i := 15) rfl (want_none a hS.sl) (listed' := [true, true, true, true, true, true, true, true, true, true, true, false, false, false, false, true, false, false]) rfl (s_alloc hS ty_z60 rfl ?_); clear hS a; (try clear w); intro a w b12 hS
                        refine Z_and hS (sub_cons (by repeat constructor) (sub_cons (by repeat constructor) sub_nil)) ?_
                        refine Z_one (i := 11) rfl (want_none a hS.sl) (listed' := [true, true, true, true, true, true, true, true, true, true, true, true, false, false, false, true, false, false]) rfl (by kernel_rfl) (s_callP hS (.cons rfl (.cons rfl .nil)) cf71 rfl (sbal_P (addS (totOf s.tot x.acc) x) x.acc f2 _) ?_); clear hS a; (try clear w); intro a w hS
                        refine Z_and hS (sub_cons (by repeat constructor) (sub_cons (by repeat constructor) sub_nil)) ?_
                        refine Z_take0 (i := 12) hS rfl want_none (e_move rfl) (listed' := [true, true, true, true, true, true, true, true, true, true, true, true, true, false, false, true, false, false]) rfl (by kernel_rfl) (by kernel_rfl) (by kernel_rfl) (fun _ _ _ h => h) rfl ?_; clear hS a; intro a hS
                        refine Z_take0 (i := 13) hS rfl want_none (e_extract rfl rfl) (listed' := [true, true, true, true, true, true, true, true, true, true, true, true, true, true, false, true, false, false]) rfl (by kernel_rfl) (by kernel_rfl) (by kernel_rfl) (fun _ _ _ h => h) rfl ?_; clear hS a; intro a hS
                        refine Z_take0 (i := 14) hS rfl want_none (e_extract rfl rfl) (listed' := [true, true, true, true, true, true, true, true, true, true, true, true, true, true, true, true, false, false]) rfl (by kernel_rfl) (by kernel_rfl) (by kernel_rfl) (fun _ _ _ h => h) rfl ?_; clear hS a; intro a hS
                        refine Z_one (i := 16) rfl (want_none a hS.sl) (listed' := [true, true, true, true, true, true, true, true, true, true, true, true, true, true, true, true, true, false]) rfl (by kernel_rfl) (s_storeA hS rfl rfl ty_sz60 (by repeat constructor) (by rfl) (by rfl) (by rfl) ?_); clear hS; (try clear w); intro w hS
                        refine Z_and hS (sub_cons (by repeat constructor) (sub_cons (by repeat constructor) sub_nil)) ?_
                        refine Z_take0 (i := 17) hS rfl want_none (e_assign rfl) (listed' := [true, true, true, true, true, true, true, true, true, true, true, true, true, true, true, true, true, true]) rfl (by kernel_rfl) (by kernel_rfl) (by kernel_rfl) (fun _ _ _ h => h) rfl ?_; clear hS a; intro a hS
                        refine Z_done (by kernel_rfl) ?_
                        refine n_then ?_
                        refine c_seq ?_
                        refine c_region ?_
                        refine L_op (s_e hS (e_move rfl) rfl ?_); clear hS a; intro a hS
                        refine L_op (s_e hS (e_not rfl) rfl ?_); clear hS a; intro a hS
                        refine L_nil ?_
                        refine n_then ?_
                        first | refine c_ifD hS rfl (fun hc78 => ?_) (fun hc78 => ?_) | refine c_if hS rfl (fun hc78 => ?_) (fun hc78 => ?_)
                        ·
                          refine c_seq ?_
                          refine c_region ?_
                          refine L_op (s_e hS (e_assign rfl) rfl ?_); clear hS a; intro a hS
                          refine L_nil ?_
                          refine n_then ?_
                          refine wp_ret ?_
                          refine r_block (r_then (r_then (r_block (r_then ?_))))
                          refine c_ret1 hS Try.results33 (.tmp rfl) ?_
                          have hn : ¬ okS (addS (totOf s.tot x.acc) x) := fun e => by
                            have e2 : decide (inU (addS (totOf s.tot x.acc) x).1 ∧ inU (addS (totOf s.tot x.acc) x).2) = true := decide_eq_true e
                            rw [e2] at hc78; cases hc78
                          exact ⟨by rw [show checkE (pl s) at_ memo ps = 16 by unfold checkE; rw [if_neg h1, if_neg h2, if_neg h3, if_neg h4, if_neg h5, if_neg h6, if_pos (show ∃ x ∈ ps, ¬ okS (addS (totOf (pl s).tot x.acc) x) from ⟨x, hxm, hn⟩)]], hS.chg⟩
                        ·
                          refine wp_skip ?_
                          refine n_block ?_
                          refine n_then ?_
                          refine c_region ?_
                          first | (refine L_op (s_e hS (e_binN rfl rfl rfl (by omega)) rfl ?_); clear hS a; intro a hS) | (refine L_op (s_e hS (e_bin rfl rfl rfl) rfl ?_); clear hS a; intro a hS)
                          refine L_op (s_e hS (e_move rfl) rfl ?_); clear hS a; intro a hS
                          refine L_nil ?_
                          have hy : okS (addS (totOf s.tot x.acc) x) := by
                            have e2 : decide (inU (addS (totOf s.tot x.acc) x).1 ∧ inU (addS (totOf s.tot x.acc) x).2) = true := by simpa using hc78
                            exact of_decide_eq_true e2
                          exact ⟨i + 1, by omega, (hS.slots (by repeat (first | exact trivial | refine ⟨rfl, ?_⟩))).pick (by repeat (first | exact Pick.nil | (refine Pick.cons (by repeat (first | exact Rem.head | apply Rem.tail)) ?_))), by omega, fun j hj y hyj => by
                            by_cases e : j = i
                            · subst e; rw [hx] at hyj; cases hyj; exact hy
                            · exact hno j (by omega) y hyj⟩
                    ·
                      refine Z_op (i := 15) rfl (want_none a hS.sl) (listed' := [true, true, true, true, true, true, true, true, false, true, true, false, false, false, false, true, false, false]) rfl (s_alloc hS ty_z60 rfl ?_); clear hS a; (try clear w); intro a w b12 hS
                      refine Z_and hS (sub_cons (by repeat constructor) (sub_cons (by repeat constructor) sub_nil)) ?_
                      refine Z_one (i := 8) rfl (want_none a hS.sl) (listed' := [true, true, true, true, true, true, true, true, true, true, true, false, false, false, false, true, false, false]) rfl (by kernel_rfl) (s_callP hS (.cons rfl (.cons rfl .nil)) cf70 rfl (sadd_P (totOf s.tot x.acc) x f1 hxf f2 _) ?_); clear hS a; (try clear w); intro a w hS
                      refine Z_and hS (sub_cons (by repeat constructor) (sub_cons (by repeat constructor) sub_nil)) ?_
                      refine Z_one (i := 11) rfl (want_none a hS.sl) (listed' := [true, true, true, true, true, true, true, true, true, true, true, true, false, false, false, true, false, false]) rfl (by kernel_rfl) (s_callP hS (.cons rfl (.cons rfl .nil)) cf71 rfl (sbal_P (addS (totOf s.tot x.acc) x) x.acc f2 _) ?_); clear hS a; (try clear w); intro a w hS
                      refine Z_and hS (sub_cons (by repeat constructor) (sub_cons (by repeat constructor) sub_nil)) ?_
                      refine Z_take0 (i := 12) hS rfl want_none (e_move rfl) (listed' := [true, true, true, true, true, true, true, true, true, true, true, true, true, false, false, true, false, false]) rfl (by kernel_rfl) (by kernel_rfl) (by kernel_rfl) (fun _ _ _ h => h) rfl ?_; clear hS a; intro a hS
                      refine Z_take0 (i := 13) hS rfl want_none (e_extract rfl rfl) (listed' := [true, true, true, true, true, true, true, true, true, true, true, true, true, true, false, true, false, false]) rfl (by kernel_rfl) (by kernel_rfl) (by kernel_rfl) (fun _ _ _ h => h) rfl ?_; clear hS a; intro a hS
                      refine Z_take0 (i := 14) hS rfl want_none (e_extract rfl rfl) (listed' := [true, true, true, true, true, true, true, true, true, true, true, true, true, true, true, true, false, false]) rfl (by kernel_rfl) (by kernel_rfl) (by kernel_rfl) (fun _ _ _ h => h) rfl ?_; clear hS a; intro a hS
                      refine Z_one (i := 16) rfl (want_none a hS.sl) (listed' := [true, true, true, true, true, true, true, true, true, true, true, true, true, true, true, true, true, false]) rfl (by kernel_rfl) (s_storeA hS rfl rfl ty_sz60 (by repeat constructor) (by rfl) (by rfl) (by rfl) ?_); clear hS; (try clear w); intro w hS
                      refine Z_and hS (sub_cons (by repeat constructor) (sub_cons (by repeat constructor) sub_nil)) ?_
                      refine Z_take0 (i := 17) hS rfl want_none (e_assign rfl) (listed' := [true, true, true, true, true, true, true, true, true, true, true, true, true, true, true, true, true, true]) rfl (by kernel_rfl) (by kernel_rfl) (by kernel_rfl) (fun _ _ _ h => h) rfl ?_; clear hS a; intro a hS
                      refine Z_done (by kernel_rfl) ?_
                      refine n_then ?_
                      refine c_seq ?_
                      refine c_region ?_
                      refine L_op (s_e hS (e_move rfl) rfl ?_); clear hS a; intro a hS
                      refine L_op (s_e hS (e_not rfl) rfl ?_); clear hS a; intro a hS
                      refine L_nil ?_
                      refine n_then ?_
                      first | refine c_ifD hS rfl (fun hc78 => ?_) (fun hc78 => ?_) | refine c_if hS rfl (fun hc78 => ?_) (fun hc78 => ?_)
                      ·
                        refine c_seq ?_
                        refine c_region ?_
                        refine L_op (s_e hS (e_assign rfl) rfl ?_); clear hS a; intro a hS
                        refine L_nil ?_
                        refine n_then ?_
                        refine wp_ret ?_
                        refine r_block (r_then (r_then (r_block (r_then ?_))))
                        refine c_ret1 hS Try.results33 (.tmp rfl) ?_
                        have hn : ¬ okS (addS (totOf s.tot x.acc) x) := fun e => by
                          have e2 : decide (inU (addS (totOf s.tot x.acc) x).1 ∧ inU (addS (totOf s.tot x.acc) x).2) = true := decide_eq_true e
                          rw [e2] at hc78; cases hc78
                        exact ⟨by rw [show checkE (pl s) at_ memo ps = 16 by unfold checkE; rw [if_neg h1, if_neg h2, if_neg h3, if_neg h4, if_neg h5, if_neg h6, if_pos (show ∃ x ∈ ps, ¬ okS (addS (totOf (pl s).tot x.acc) x) from ⟨x, hxm, hn⟩)]], hS.chg⟩
                      ·
                        refine wp_skip ?_
                        refine n_block ?_
                        refine n_then ?_
                        refine c_region ?_
                        first | (refine L_op (s_e hS (e_binN rfl rfl rfl (by omega)) rfl ?_); clear hS a; intro a hS) | (refine L_op (s_e hS (e_bin rfl rfl rfl) rfl ?_); clear hS a; intro a hS)
                        refine L_op (s_e hS (e_move rfl) rfl ?_); clear hS a; intro a hS
                        refine L_nil ?_
                        have hy : okS (addS (totOf s.tot x.acc) x) := by
                          have e2 : decide (inU (addS (totOf s.tot x.acc) x).1 ∧ inU (addS (totOf s.tot x.acc) x).2) = true := by simpa using hc78
                          exact of_decide_eq_true e2
                        exact ⟨i + 1, by omega, (hS.slots (by repeat (first | exact trivial | refine ⟨rfl, ?_⟩))).pick (by repeat (first | exact Pick.nil | (refine Pick.cons (by repeat (first | exact Rem.head | apply Rem.tail)) ?_))), by omega, fun j hj y hyj => by
                          by_cases e : j = i
                          · subst e; rw [hx] at hyj; cases hyj; exact hy
                          · exact hno j (by omega) y hyj⟩
                  ·
                    refine wp_exit ?_
                    refine x_then (x_then (x_hit ?_))
                    refine n_then ?_
                    refine c_seq ?_
                    refine c_region ?_
                    refine L_op (s_e hS (e_assign rfl) rfl ?_); clear hS a; intro a hS
                    refine L_nil ?_
                    refine n_then ?_
                    refine wp_ret ?_
                    refine c_ret1 hS Try.results33 (.tmp rfl) ?_
                    obtain rfl : i = ps.length := by omega
                    have h7 : ¬ ∃ x ∈ ps, ¬ okS (addS (totOf (pl s).tot x.acc) x) := fun ⟨x, hx, hn⟩ => by
                      obtain ⟨j, hj, rfl⟩ := List.mem_iff_getElem.1 hx
                      exact hn (hno j hj _ (List.getElem?_eq_getElem hj))
                    exact ⟨by rw [show checkE (pl s) at_ memo ps = 0 by unfold checkE; rw [if_neg h1, if_neg h2, if_neg h3, if_neg h4, if_neg h5, if_neg h6, if_neg h7]], hS.chg⟩
end Go.Proofs.Ytheofhegdjjfgaa
