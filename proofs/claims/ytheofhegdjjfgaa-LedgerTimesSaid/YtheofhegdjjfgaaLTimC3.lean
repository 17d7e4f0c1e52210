/- LedgerTimes: for every argument the law returns true, and each argument reads afterwards as it read before. No conditions. (text 3 of 6) -/
import Derived.Test.YtheofhegdjjfgaaLTimC2
import Derived.Test.YtheofhegdjjfgaaShelf
import Derived.Sort.OwnSorted
import Derived.Sort.KeysCollected
namespace Go.Proofs.Ytheofhegdjjfgaa
open Go.RowKit

/-- a ledger in plain data. -/
structure PL where
  cur : ByteArray
  acs : List Acc
  es : List Ent
  tot : List (ByteArray × SM)
  closed : Int
def pl (s : LS) : PL := ⟨s.cur, s.acs, s.es.map (·.v), s.tot, s.closed⟩
def okS (s : SM) : Prop := inU s.1 ∧ inU s.2
instance (s : SM) : Decidable (okS s) := by unfold okS; infer_instance
def checkE (P : PL) (at_ : Int) (memo : ByteArray) (ps : List Pst) : Int :=
  if ¬ inst at_ then 6 else if at_ ≤ P.closed then 27 else if 100 < memo.size then 8 else if (ps.length < 2 ∨ 50 < ps.length) ∨ 2000 ≤ P.es.length then 9
  else if postE P.acs ps [] ≠ 0 then postE P.acs ps [] else if ¬ evenF P.acs ps then 26 else if ∃ x ∈ ps, ¬ okS (addS (totOf P.tot x.acc) x) then 16 else 0
/-- every total is one that may be. -/
def balT (t : List (ByteArray × SM)) : Prop := ∀ e ∈ t, okS e.2
theorem balT_of {t : List (ByteArray × SM)} (h : balT t) (c : ByteArray) : okS (totOf t c) := by
  rcases totOf_mem t c with e | ⟨e, he, _, e2⟩
  · rw [e]; unfold okS inU; simp
  · rw [← e2]; exact h e he
theorem add_fit {s : SM} {p : Pst} (h : okS s) (hp : p.fits) : fitS s ∧ fitS (addS s p) := by
  have hu := hp.u
  have hf := hp.f
  unfold okS inU at h
  unfold fitS addS Wd.fit
  simp only
  omega

set_option maxRecDepth 100000 in
theorem lCheck_P (B : LB) (s : LS) (p : Option (Nat × Nat)) (c : Nat) (at_ : Int) (memo : ByteArray) (ps : List Pst) (hlen : ps.length ≤ 4611686018427387904) (hfit : ∀ x ∈ ps, x.fits) (hbt : balT s.tot) (w0 : World) (h : ledφ B s w0) (hrow : RowP p 3 (ps.map encP) w0) (hb : ∀ q, p = some q → q.1 < w0.heap.size) (hd : ∀ q, p = some q → ¬ ledF B s q.1) :
    PureC Try.prog 33 [.pointer (some ⟨B.lb, 0, none⟩), .int .i64 at_, .string memo, sliceV p ps.length c] w0 (.int .i64 (checkE (pl s) at_ memo ps)) := by
  obtain ⟨qs, cs, hsv⟩ := own_slice h.row
  have hel : (pl s).es.length = s.es.length := by simp [pl]
  refine c_enter [(0, .pointer (some ⟨B.lb, 0, none⟩)), (1, .int .i64 at_), (2, .string memo), (3, sliceV p ps.length c)] [ledA B s false, rowP p 3 (ps.map encP)] noB Try.func33 rfl Try.ntmps33 ⟨rfl, rfl, rfl, rfl, trivial⟩ rfl (okC (led_ok false h) (okC (ok_rowP hrow hb) okN)) (disC (sepC (fun b h1 h2 => by obtain ⟨off, e⟩ := h2; exact hd _ e h1) sepN) dis1) (mineC (by rfl) (mineC (by rfl) mineN)) ?_
  intro a hS
  refine c_seq ?_
  refine c_region ?_
  refine L_op (s_e hS (e_assign rfl) rfl ?_); clear hS a; intro a hS
  refine L_nil ?_
  refine n_then ?_
  refine c_seq ?_
  refine wp_block ?_
  refine c_seq ?_
  refine c_region ?_
  refine L_op (s_e hS (e_move rfl) rfl ?_); clear hS a; intro a hS
  refine L_op (s_callP hS (.cons rfl .nil) cf67 rfl (linst_P at_ _) ?_); clear hS a; (try clear w); intro a w hS
  refine L_op (s_e hS (e_not rfl) rfl ?_); clear hS a; intro a hS
  refine L_op (s_e hS (e_assign rfl) rfl ?_); clear hS a; intro a hS
  refine L_nil ?_
  refine n_then ?_
  first | refine c_ifD hS rfl (fun hc14 => ?_) (fun hc14 => ?_) | refine c_if hS rfl (fun hc14 => ?_) (fun hc14 => ?_)
  ·
    refine c_seq ?_
    refine c_region ?_
    refine L_op (s_e hS (e_assign rfl) rfl ?_); clear hS a; intro a hS
    refine L_nil ?_
    refine n_then ?_
    refine wp_ret ?_
    refine r_block (r_then ?_)
    refine c_ret1 hS Try.results33 (.tmp rfl) ?_
    exact ⟨by rw [show checkE (pl s) at_ memo ps = 6 from if_pos (by simpa using hc14)], hS.chg⟩
  ·
    have h1 : ¬ ¬ inst at_ := by simpa using hc14
    refine c_seq ?_
    refine c_region ?_
    refine L_op (s_e hS (e_move rfl) rfl ?_); clear hS a; intro a hS
    refine L_op (s_e hS (e_move rfl) rfl ?_); clear hS a; intro a hS
    refine L_op (s_e hS (e_nilCheck rfl) rfl ?_); clear hS a; intro a hS
    first | (refine L_op (s_e hS (e_fa0 rfl ty_fo129_4) rfl ?_); clear hS a; intro a hS) | (refine L_op (s_e hS (e_faK rfl ty_fo129_4) rfl ?_); clear hS a; intro a hS)
    refine L_op (s_e hS (e_loadC rfl ty_sc3 (led_cell (k := 4) (by repeat constructor) rfl)) rfl ?_); clear hS a; intro a hS
    refine L_op (s_e hS (e_bin rfl rfl rfl) rfl ?_); clear hS a; intro a hS
    refine L_op (s_e hS (e_assign rfl) rfl ?_); clear hS a; intro a hS
    refine L_nil ?_
    refine n_then ?_
    first | refine c_ifD hS rfl (fun hc18 => ?_) (fun hc18 => ?_) | refine c_if hS rfl (fun hc18 => ?_) (fun hc18 => ?_)
    ·
      refine c_seq ?_
      refine c_region ?_
      refine L_op (s_e hS (e_assign rfl) rfl ?_); clear hS a; intro a hS
      refine L_nil ?_
      refine n_then ?_
      refine wp_ret ?_
      refine r_block (r_then ?_)
      refine c_ret1 hS Try.results33 (.tmp rfl) ?_
      exact ⟨by rw [show checkE (pl s) at_ memo ps = 27 by unfold checkE; rw [if_neg h1, if_pos (show at_ ≤ (pl s).closed from hc18)]], hS.chg⟩
    ·
      have h2 : ¬ at_ ≤ (pl s).closed := hc18
      refine c_seq ?_
      refine c_region ?_
      refine L_op (s_e hS (e_move rfl) rfl ?_); clear hS a; intro a hS
      refine L_op (s_e hS (e_lenS rfl rfl ty_u9) rfl ?_); clear hS a; intro a hS
      refine L_op (s_e hS (e_bin rfl rfl rfl) rfl ?_); clear hS a; intro a hS
      refine L_op (s_e hS (e_assign rfl) rfl ?_); clear hS a; intro a hS
      refine L_nil ?_
      refine n_then ?_
      first | refine c_ifD hS rfl (fun hc25 => ?_) (fun hc25 => ?_) | refine c_if hS rfl (fun hc25 => ?_) (fun hc25 => ?_)
      ·
        refine c_seq ?_
        refine c_region ?_
        refine L_op (s_e hS (e_assign rfl) rfl ?_); clear hS a; intro a hS
        refine L_nil ?_
        refine n_then ?_
        refine wp_ret ?_
        refine r_block (r_then ?_)
        refine c_ret1 hS Try.results33 (.tmp rfl) ?_
        exact ⟨by rw [show checkE (pl s) at_ memo ps = 8 by unfold checkE; rw [if_neg h1, if_neg h2, if_pos (by omega)]], hS.chg⟩
      ·
        have h3 : ¬ 100 < memo.size := by omega
        refine c_seq ?_
        refine c_region ?_
        refine L_op (s_e hS (e_move rfl) rfl ?_); clear hS a; intro a hS
        refine L_op (s_e hS (e_len rfl rfl ty_sl56) rfl ?_); clear hS a; intro a hS
        refine L_op (s_e hS (e_bin rfl rfl rfl) rfl ?_); clear hS a; intro a hS
        refine L_op (s_e hS (e_move rfl) rfl ?_); clear hS a; intro a hS
        refine L_merge 4 37 (.bool (decide (ps.length < 2 ∨ 50 < ps.length))) hS ?_ ?_
        · intro hcM37
          (first | refine g_splitD (t := 33) hS rfl ?_ ?_ | refine g_split (t := 33) hS rfl ?_ ?_) <;> (clear hS; intro hg33 hS)
          ·
            refine L_skip_f hS rfl rfl rfl ?_; clear hS a; intro a hS
            refine L_skip_f hS rfl rfl rfl ?_; clear hS a; intro a hS
            refine L_skip_f hS rfl rfl rfl ?_; clear hS a; intro a hS
            first | (refine L_op (s_e hS (e_pick_t rfl rfl) rfl ?_); clear hS a; intro a hS) | (refine L_op (s_e hS (e_pick_f rfl rfl) rfl ?_); clear hS a; intro a hS)
            exact hcM37 _ _ (hS.ends 5 37 33 rfl (congrArg Value.bool (by rw [decide_eq_true (.inl (by omega))])) rfl rfl (by first | exact congrArg Value.bool (decide_eq_true hg33).symm | exact congrArg Value.bool hg33.symm | simp [hg33]) rfl)
          ·
            refine L_go hS rfl rfl (s_e hS (e_move rfl) rfl ?_); clear hS a; intro a hS
            refine L_go hS rfl rfl (s_e hS (e_len rfl rfl ty_sl56) rfl ?_); clear hS a; intro a hS
            refine L_go hS rfl rfl (s_e hS (e_bin rfl rfl rfl) rfl ?_); clear hS a; intro a hS
            first | (refine L_op (s_e hS (e_pick_t rfl rfl) rfl ?_); clear hS a; intro a hS) | (refine L_op (s_e hS (e_pick_f rfl rfl) rfl ?_); clear hS a; intro a hS)
            exact hcM37 _ _ (hS.ends 5 37 33 rfl (congrArg Value.bool (by rw [decide_eq_decide]; omega)) rfl rfl (by first | exact congrArg Value.bool (decide_eq_false hg33).symm | exact congrArg Value.bool hg33.symm | simp [hg33]) rfl)
        · clear hS a; (try clear w); intro a w hS
          simp only [List.drop_succ_cons, List.drop_zero]
          refine L_op (s_e hS (e_move rfl) rfl ?_); clear hS a; intro a hS
          refine L_merge 7 45 (.bool (decide ((ps.length < 2 ∨ 50 < ps.length) ∨ 2000 ≤ s.es.length))) hS ?_ ?_
          · intro hcM45
            (first | refine g_splitD (t := 38) hS rfl ?_ ?_ | refine g_split (t := 38) hS rfl ?_ ?_) <;> (clear hS; intro hg38 hS)
            ·
              refine L_skip_f hS rfl rfl rfl ?_; clear hS a; intro a hS
              refine L_skip_f hS rfl rfl rfl ?_; clear hS a; intro a hS
              refine L_skip_f hS rfl rfl rfl ?_; clear hS a; intro a hS
              refine L_skip_f hS rfl rfl rfl ?_; clear hS a; intro a hS
              refine L_skip_f hS rfl rfl rfl ?_; clear hS a; intro a hS
              refine L_skip_f hS rfl rfl rfl ?_; clear hS a; intro a hS
              first | (refine L_op (s_e hS (e_pick_t rfl rfl) rfl ?_); clear hS a; intro a hS) | (refine L_op (s_e hS (e_pick_f rfl rfl) rfl ?_); clear hS a; intro a hS)
              exact hcM45 _ _ (hS.ends 8 45 38 rfl (congrArg Value.bool (by exact (decide_eq_true (.inl hg38)).symm)) rfl rfl (by first | exact congrArg Value.bool (decide_eq_true hg38).symm | exact congrArg Value.bool hg38.symm | simp [hg38]) rfl)
            ·
              refine L_go hS rfl rfl (s_e hS (e_move rfl) rfl ?_); clear hS a; intro a hS
              refine L_go hS rfl rfl (s_e hS (e_nilCheck rfl) rfl ?_); clear hS a; intro a hS
              first | (refine L_go hS rfl rfl (s_e hS (e_fa0 rfl ty_fo129_2) rfl ?_); clear hS a; intro a hS) | (refine L_go hS rfl rfl (s_e hS (e_faK rfl ty_fo129_2) rfl ?_); clear hS a; intro a hS)
              refine L_go hS rfl rfl (s_e hS (e_loadC rfl ty_sc54 (led_cell (k := 2) (by repeat constructor) rfl)) rfl ?_); clear hS a; intro a hS
              rw [hsv] at hS
              refine L_go hS rfl rfl (s_e hS (e_len rfl rfl ty_sl54) rfl ?_); clear hS a; intro a hS
              refine L_go hS rfl rfl (s_e hS (e_bin rfl rfl rfl) rfl ?_); clear hS a; intro a hS
              first | (refine L_op (s_e hS (e_pick_t rfl rfl) rfl ?_); clear hS a; intro a hS) | (refine L_op (s_e hS (e_pick_f rfl rfl) rfl ?_); clear hS a; intro a hS)
              exact hcM45 _ _ (hS.ends 8 45 38 rfl (congrArg Value.bool (by rw [decide_eq_decide]; omega)) rfl rfl (by first | exact congrArg Value.bool (decide_eq_false hg38).symm | exact congrArg Value.bool hg38.symm | simp [hg38]) rfl)
          · clear hS a; (try clear w); intro a w hS
            simp only [List.drop_succ_cons, List.drop_zero]
            refine L_op (s_e hS (e_assign rfl) rfl ?_); clear hS a; intro a hS
            refine L_nil ?_
            refine n_then ?_
            first | refine c_ifD hS rfl (fun hc29 => ?_) (fun hc29 => ?_) | refine c_if hS rfl (fun hc29 => ?_) (fun hc29 => ?_)
            ·
              refine c_seq ?_
              refine c_region ?_
              refine L_op (s_e hS (e_assign rfl) rfl ?_); clear hS a; intro a hS
              refine L_nil ?_
              refine n_then ?_
              refine wp_ret ?_
              refine r_block (r_then ?_)
              refine c_ret1 hS Try.results33 (.tmp rfl) ?_
              exact ⟨by rw [show checkE (pl s) at_ memo ps = 9 by unfold checkE; rw [if_neg h1, if_neg h2, if_neg h3, if_pos (by rw [hel]; exact hc29)]], hS.chg⟩
            ·
              have h4 : ¬ ((ps.length < 2 ∨ 50 < ps.length) ∨ 2000 ≤ (pl s).es.length) := by rw [hel]; exact hc29
              have hl50 : ps.length ≤ 60 := by omega
              refine wp_skip ?_
              refine n_block ?_
              refine n_then ?_
              refine c_seq ?_
              refine c_seq ?_
              refine c_region ?_
              refine L_op (s_e hS (e_move rfl) rfl ?_); clear hS a; intro a hS
              refine L_op (s_e hS (e_move rfl) rfl ?_); clear hS a; intro a hS
              refine L_op (s_callP hS (.cons rfl (.cons rfl .nil)) cf75 rfl (lpost_P B s p c ps (by omega) _ (hS.get (X := ledA B s false) (by repeat constructor)) (hS.get (X := rowP p 3 (ps.map encP)) (by repeat constructor)) (fun q hq => (hS.ok (rowP p 3 (ps.map encP)) (by repeat constructor)).lt q.1 ⟨q.2, hq⟩) hd) ?_); clear hS a; (try clear w); intro a w hS
              refine L_op (s_e hS (e_assign rfl) rfl ?_); clear hS a; intro a hS
              refine L_nil ?_
              refine n_then ?_
              refine c_seq ?_
              refine c_region ?_
              refine L_op (s_e hS (e_move rfl) rfl ?_); clear hS a; intro a hS
              refine L_op (s_e hS (e_bin rfl rfl rfl) rfl ?_); clear hS a; intro a hS
              refine L_nil ?_
              refine n_then ?_
              first | refine c_ifD hS rfl (fun hc50 => ?_) (fun hc50 => ?_) | refine c_if hS rfl (fun hc50 => ?_) (fun hc50 => ?_)
              ·
                refine c_seq ?_
                refine c_region ?_
                refine L_op (s_e hS (e_move rfl) rfl ?_); clear hS a; intro a hS
                refine L_op (s_e hS (e_assign rfl) rfl ?_); clear hS a; intro a hS
                refine L_nil ?_
                refine n_then ?_
                refine wp_ret ?_
                refine r_then ?_
                refine c_ret1 hS Try.results33 (.tmp rfl) ?_
                exact ⟨by rw [show checkE (pl s) at_ memo ps = postE s.acs ps [] by unfold checkE; rw [if_neg h1, if_neg h2, if_neg h3, if_neg h4, if_pos (show postE (pl s).acs ps [] ≠ 0 from hc50)]; rfl], hS.chg⟩
              ·
                have h5 : ¬ postE (pl s).acs ps [] ≠ 0 := hc50
                refine wp_skip ?_
                refine n_then ?_
                refine c_seq ?_
                refine c_seq ?_
                refine c_region ?_
                refine L_op (s_e hS (e_move rfl) rfl ?_); clear hS a; intro a hS
                refine L_op (s_e hS (e_move rfl) rfl ?_); clear hS a; intro a hS
                refine L_op (s_callP hS (.cons rfl (.cons rfl .nil)) cf76 rfl (leven_P B s p c ps hl50 hfit _ (hS.get (X := ledA B s false) (by repeat constructor)) (hS.get (X := rowP p 3 (ps.map encP)) (by repeat constructor)) (fun q hq => (hS.ok (rowP p 3 (ps.map encP)) (by repeat constructor)).lt q.1 ⟨q.2, hq⟩) hd) ?_); clear hS a; (try clear w); intro a w hS
                refine L_op (s_e hS (e_not rfl) rfl ?_); clear hS a; intro a hS
                refine L_nil ?_
                refine n_then ?_
                first | refine c_ifD hS rfl (fun hc55 => ?_) (fun hc55 => ?_) | refine c_if hS rfl (fun hc55 => ?_) (fun hc55 => ?_)
                ·
                  refine c_seq ?_
                  refine c_region ?_
                  refine L_op (s_e hS (e_assign rfl) rfl ?_); clear hS a; intro a hS
                  refine L_nil ?_
                  refine n_then ?_
                  refine wp_ret ?_
                  refine r_then ?_
                  refine c_ret1 hS Try.results33 (.tmp rfl) ?_
                  exact ⟨by rw [show checkE (pl s) at_ memo ps = 26 by unfold checkE; rw [if_neg h1, if_neg h2, if_neg h3, if_neg h4, if_neg h5, if_pos (show ¬ evenF (pl s).acs ps from (by simpa using hc55 : ¬ evenF s.acs ps))]], hS.chg⟩
                ·
                  have h60 : ¬ ¬ evenF s.acs ps := by simpa using hc55
                  have h6 : ¬ ¬ evenF (pl s).acs ps := h60
                  refine wp_skip ?_
                  refine n_then ?_
                  refine c_seq ?_
                  refine c_seq ?_
                  refine c_region ?_
                  refine L_op (s_e hS (e_move rfl) rfl ?_); clear hS a; intro a hS
                  refine L_op (s_e hS (e_len rfl rfl ty_sl56) rfl ?_); clear hS a; intro a hS
                  refine L_op (s_e hS (e_move rfl) rfl ?_); clear hS a; intro a hS
                  refine L_nil ?_
                  refine n_then ?_
                  refine wp_block ?_
                  skip
                  refine c_loop (γ := Nat) (fun i a w => St 80 noB w0 a w [(58, .int .i64 (i : Int)), (57, .int .i64 (ps.length : Int)), (56, sliceV p ps.length c), (0, .pointer (some ⟨B.lb, 0, none⟩))] [ledA B s false, rowP p 3 (ps.map encP)] ∧ i ≤ ps.length ∧ ∀ j, j < i → ∀ x, ps[j]? = some x → okS (addS (totOf s.tot x.acc) x)) (fun i => ps.length - i) 0 ⟨(hS.slots (by repeat (first | exact trivial | refine ⟨rfl, ?_⟩))).pick (by repeat (first | exact Pick.nil | (refine Pick.cons (by repeat (first | exact Rem.head | apply Rem.tail)) ?_))), Nat.zero_le _, fun j hj => by omega⟩ ?_
                  clear hS a; (try clear w); intro i a w hI
                  obtain ⟨hS, hi, hno⟩ := hI
                  refine c_seq ?_
                  refine c_region ?_
                  refine L_op (s_e hS (e_bin rfl rfl rfl) rfl ?_); clear hS a; intro a hS
                  refine L_nil ?_
                  refine n_then ?_
                  refine c_seq ?_
                  first | refine c_ifD hS rfl (fun hc59 => ?_) (fun hc59 => ?_) | refine c_if hS rfl (fun hc59 => ?_) (fun hc59 => ?_)
                  ·
                    have hil : i < ps.length := by omega
                    obtain ⟨x, hx⟩ : ∃ x, ps[i]? = some x := ⟨ps[i], List.getElem?_eq_getElem hil⟩
                    have hxm := List.mem_of_getElem? hx
                    have hxf := hfit x hxm
                    have hx' : (ps.map encP)[i]? = some (encP x) := by simp [hx]
                    obtain ⟨b, off, rfl⟩ := rowP_some (hS.get (X := rowP p 3 (ps.map encP)) (by repeat constructor)) hx'
                    obtain ⟨f1, f2⟩ := add_fit (balT_of hbt x.acc) hxf
                    refine wp_skip ?_
                    refine n_then ?_
                    refine c_seq ?_
                    refine wp_block ?_
                    refine c_seq ?_
                    refine c_region ?_
                    refine L_op (s_e hS (e_ixN rfl rfl ty_sl56 ty_sz63 (by omega)) rfl ?_); clear hS a; intro a hS
                    refine L_op (s_e hS (e_loadAC (l := encP x) rfl ty_st63 ty_sz63 (fun w hh => rowP_get (by repeat constructor) hx' w hh)) rfl ?_); clear hS a; intro a hS
                    refine L_op (s_alloc hS ty_z63 rfl ?_); clear hS a; (try clear w); intro a w b11 hS
                    refine L_op (s_storeA hS rfl rfl ty_sz63 (by repeat constructor) (by rfl) (by rfl) (by rfl) ?_); clear hS; (try clear w); intro w hS
                    refine L_nil ?_
                    refine n_then ?_
                    refine c_seq ?_
                    refine c_drawS [] (by kernel_rfl) hS (sub_cons (X := .blk b11 _ _) (by repeat constructor) (sub_cons (X := ledA B s false) (by repeat constructor) sub_nil)) ?_; clear hS; (try clear w); intro w hS
                    simp only [List.length_cons, List.length_nil, Nat.zero_add, Nat.reduceAdd, List.replicate]
                    refine Z_take0 (i := 0) hS rfl want_none (e_move rfl) (listed' := [true, false, false, false, false, false, false, false, false, false, false, false, false, false, false, false, false, false]) rfl (by kernel_rfl) (by kernel_rfl) (by kernel_rfl) (fun _ _ _ h => h) rfl ?_; clear hS a; intro a hS
                    refine Z_take0 (i := 1) hS rfl want_none (e_nilCheck rfl) (listed' := [true, true, false, false, false, false, false, false, false, false, false, false, false, false, false, false, false, false]) rfl (by kernel_rfl) (by kernel_rfl) (by kernel_rfl) (fun _ _ _ h => h) rfl ?_; clear hS a; intro a hS
                    first | (refine Z_take0 (i := 2) hS rfl want_none (e_fa0 rfl ty_fo129_3) (listed' := [true, true, true, false, false, false, false, false, false, false, false, false, false, false, false, false, false, false]) rfl (by kernel_rfl) (by kernel_rfl) (by kernel_rfl) (fun _ _ _ h => h) rfl ?_; clear hS a; intro a hS) | (refine Z_take0 (i := 2) hS rfl want_none (e_faK rfl ty_fo129_3) (listed' := [true, true, true, false, false, false, false, false, false, false, false, false, false, false, false, false, false, false]) rfl (by kernel_rfl) (by kernel_rfl) (by kernel_rfl) (fun _ _ _ h => h) rfl ?_; clear hS a; intro a hS)
                    refine Z_take (i := 3) hS rfl want_none (e_loadC rfl ty_sc127 (led_cell (k := 3) (by repeat constructor) rfl)) (listed' := [true, true, true, true, false, false, false, false, false, false, false, false, false, false, false, false, false, false]) rfl (by kernel_rfl) (by kernel_rfl) (by kernel_rfl) (by kernel_rfl) (by kernel_rfl) (sub_cons (by repeat constructor) (sub_cons (by repeat constructor) sub_nil)) (fun _ _ _ h => h) rfl ?_; clear hS a; intro a hS
                    first | (refine Z_take0 (i := 4) hS rfl want_none (e_fa0 rfl ty_fo63_0) (listed' := [true, true, true, true, true, false, false, false, false, false, false, false, false, false, false, false, false, false]) rfl (by kernel_rfl) (by kernel_rfl) (by kernel_rfl) (fun _ _ _ h => h) rfl ?_; clear hS a; intro a hS) | (refine Z_take0 (i := 4) hS rfl want_none (e_faK rfl ty_fo63_0) (listed' := [true, true, true, true, true, false, false, false, false, false, false, false, false, false, false, false, false, false]) rfl (by kernel_rfl) (by kernel_rfl) (by kernel_rfl) (fun _ _ _ h => h) rfl ?_; clear hS a; intro a hS)
                    refine Z_take (i := 5) hS rfl want_none (e_load rfl (by repeat constructor) ty_sc9 (by rfl)) (listed' := [true, true, true, true, true, true, false, false, false, false, false, false, false, false, false, false, false, false]) rfl (by kernel_rfl) (by kernel_rfl) (by kernel_rfl) (by kernel_rfl) (by kernel_rfl) (sub_cons (by repeat constructor) (sub_cons (by repeat constructor) sub_nil)) (fun _ _ _ h => h) rfl ?_; clear hS a; intro a hS
                    refine Z_take (i := 6) hS rfl want_none (e_lookupC rfl rfl ty_mp127 ty_u9 ty_zv136 (fun w hh => (hh (ledA B s false) (by repeat constructor)).tm)) (listed' := [true, true, true, true, true, true, true, false, false, false, false, false, false, false, false, false, false, false]) rfl (by kernel_rfl) (by kernel_rfl) (by kernel_rfl) (by kernel_rfl) (by kernel_rfl) (sub_cons (by repeat constructor) (sub_cons (by repeat constructor) sub_nil)) (fun _ _ _ h => h) rfl ?_; clear hS a; intro a hS
                    rw [lk_tot] at hS
                    refine Z_take (i := 7) hS rfl want_none (e_loadA rfl (by repeat constructor) ty_st63 ty_sz63 (by rfl)) (listed' := [true, true, true, true, true, true, true, true, false, false, false, false, false, false, false, false, false, false]) rfl (by kernel_rfl) (by kernel_rfl) (by kernel_rfl) (by kernel_rfl) (by kernel_rfl) (sub_cons (by repeat constructor) (sub_cons (by repeat constructor) sub_nil)) (fun _ _ _ h => h) rfl ?_; clear hS a; intro a hS
                    first | (refine Z_take0 (i := 9) hS rfl want_none (e_fa0 rfl ty_fo63_0) (listed' := [true, true, true, true, true, true, true, true, false, true, false, false, false, false, false, false, false, false]) rfl (by kernel_rfl) (by kernel_rfl) (by kernel_rfl) (fun _ _ _ h => h) rfl ?_; clear hS a; intro a hS) | (refine Z_take0 (i := 9) hS rfl want_none (e_faK rfl ty_fo63_0) (listed' := [true, true, true, true, true, true, true, true, false, true, false, false, false, false, false, false, false, false]) rfl (by kernel_rfl) (by kernel_rfl) (by kernel_rfl) (fun _ _ _ h => h) rfl ?_; clear hS a; intro a hS)
                    refine Z_take (i := 10) hS rfl want_none (e_load rfl (by repeat constructor) ty_sc9 (by rfl)) (listed' := [true, true, true, true, true, true, true, true, false, true, true, false, false, false, false, false, false, false]) rfl (by kernel_rfl) (by kernel_rfl) (by kernel_rfl) (by kernel_rfl) (by kernel_rfl) (sub_cons (by repeat constructor) (sub_cons (by repeat constructor) sub_nil)) (fun _ _ _ h => h) rfl ?_; clear hS a; intro a hS
                    refine Z_many (j := 8) (js := [15]) (by kernel_rfl) ⟨?_, ?_, trivial⟩
                    ·
                      refine Z_op (i := 8) rfl (want_none a hS.sl) (listed' := [true, true, true, true, true, true, true, true, true, true, true, false, false, false, false, false, false, false]) rfl (s_callP hS (.cons rfl (.cons rfl .nil)) cf70 rfl (sadd_P (totOf s.tot x.acc) x f1 hxf f2 _) ?_); clear hS a; (try clear w); intro a w hS
                      refine Z_and hS (sub_cons (by repeat constructor) (sub_cons (by repeat constructor) sub_nil)) ?_
                      refine Z_many (j := 11) (js := [15]) (by kernel_rfl) ⟨?_, ?_, trivial⟩
                      ·
                        refine Z_op (i := 11) rfl (want_none a hS.sl) (listed' := [true, true, true, true, true, true, true, true, true, true, true, true, false, false, false, false, false, false]) rfl (s_callP hS (.cons rfl (.cons rfl .nil)) cf71 rfl (sbal_P (addS (totOf s.tot x.acc) x) x.acc f2 _) ?_); clear hS a; (try clear w); intro a w hS
                        refine Z_and hS (sub_cons (by repeat constructor) (sub_cons (by repeat constructor) sub_nil)) ?_
                        refine Z_take0 (i := 12) hS rfl want_none (e_move rfl) (listed' := [true, true, true, true, true, true, true, true, true, true, true, true, true, false, false, false, false, false]) rfl (by kernel_rfl) (by kernel_rfl) (by kernel_rfl) (fun _ _ _ h => h) rfl ?_; clear hS a; intro a hS
                        refine Z_take0 (i := 13) hS rfl want_none (e_extract rfl rfl) (listed' := [true, true, true, true, true, true, true, true, true, true, true, true, true, true, false, false, false, false]) rfl (by kernel_rfl) (by kernel_rfl) (by kernel_rfl) (fun _ _ _ h => h) rfl ?_; clear hS a; intro a hS
                        refine Z_take0 (i := 14) hS rfl want_none (e_extract rfl rfl) (listed' := [true, true, true, true, true, true, true, true, true, true, true, true, true, true, true, false, false, false]) rfl (by kernel_rfl) (by kernel_rfl) (by kernel_rfl) (fun _ _ _ h => h) rfl ?_; clear hS a; intro a hS
                        refine Z_one (i := 15) rfl (want_none a hS.sl) (listed' := [true, true, true, true, true, true, true, true, true, true, true, true, true, true, true, true, false, false]) rfl (by kernel_rfl) (s_alloc hS ty_z60 rfl ?_); clear hS a; (try clear w); intro a w b12 hS
                        refine Z_and hS (sub_cons (by repeat constructor) (sub_cons (by repeat constructor) sub_nil)) ?_
                        refine Z_one (i := 16) rfl (want_none a hS.sl) (listed' := [true, true, true, true, true, true, true, true, true, true, true, true, true, true, true, true, true, false]) rfl (by kernel_rfl) (s_storeA hS rfl rfl ty_sz60 (by repeat constructor) (by rfl) (by rfl) (by rfl) ?_); clear hS; (try clear w); intro w hS
                        refine Z_and hS (sub_cons (by repeat constructor) (sub_cons (by repeat constructor) sub_nil)) ?_
                        refine Z_take0 (i := 17) hS rfl want_none (e_assign rfl) (listed' := [true, true, true, true, true, true, true, true, true, true, true, true, true, true, true, true, true, true]) rfl (by kernel_rfl) (by kernel_rfl) (by kernel_rfl) (fun _ _ _ h => h) rfl ?_; clear hS a; intro a hS
                        refine Z_done (by kernel_rfl) ?_
                        refine n_then ?_
                        refine c_seq ?_
                        refine c_region ?_
                        refine L_op (s_e hS (e_move rfl) rfl ?_); clear hS a; intro a hS
                        refine L_op (s_e hS (e_not rfl) rfl ?_); clear hS a; intro a hS
                        refine L_nil ?_
                        refine n_then ?_
                        first | refine c_ifD hS rfl (fun hc78 => ?_) (fun hc78 => ?_) | refine c_if hS rfl (fun hc78 => ?_) (fun hc78 => ?_)
                        ·
                          refine c_seq ?_
                          refine c_region ?_
                          refine L_op (s_e hS (e_assign rfl) rfl ?_); clear hS a; intro a hS
                          refine L_nil ?_
                          refine n_then ?_
                          refine wp_ret ?_
                          refine r_block (r_then (r_then (r_block (r_then ?_))))
                          refine c_ret1 hS Try.results33 (.tmp rfl) ?_
                          have hn : ¬ okS (addS (totOf s.tot x.acc) x) := fun e => by
                            have e2 : decide (inU (addS (totOf s.tot x.acc) x).1 ∧ inU (addS (totOf s.tot x.acc) x).2) = true := decide_eq_true e
                            rw [e2] at hc78; cases hc78
                          exact ⟨by rw [show checkE (pl s) at_ memo ps = 16 by unfold checkE; rw [if_neg h1, if_neg h2, if_neg h3, if_neg h4, if_neg h5, if_neg h6, if_pos (show ∃ x ∈ ps, ¬ okS (addS (totOf (pl s).tot x.acc) x) from ⟨x, hxm, hn⟩)]], hS.chg⟩
                        ·
                          refine wp_skip ?_
                          refine n_block ?_
                          refine n_then ?_
                          refine c_region ?_
                          first | (refine L_op (s_e hS (e_binN rfl rfl rfl (by omega)) rfl ?_); clear hS a; intro a hS) | (refine L_op (s_e hS (e_bin rfl rfl rfl) rfl ?_); clear hS a; intro a hS)
                          refine L_op (s_e hS (e_move rfl) rfl ?_); clear hS a; intro a hS
                          refine L_nil ?_
                          have hy : okS (addS (totOf s.tot x.acc) x) := by
                            have e2 : decide (inU (addS (totOf s.tot x.acc) x).1 ∧ inU (addS (totOf s.tot x.acc) x).2) = true := by simpa using hc78
                            exact of_decide_eq_true e2
                          exact ⟨i + 1, by omega, (hS.slots (by repeat (first | exact trivial | refine ⟨rfl, ?_⟩))).pick (by repeat (first | exact Pick.nil | (refine Pick.cons (by repeat (first | exact Rem.head | apply Rem.tail)) ?_))), by omega, fun j hj y hyj => by
                            by_cases e : j = i
                            · subst e; rw [hx] at hyj; cases hyj; exact hy
                            · exact hno j (by omega) y hyj⟩
                      ·
                        refine Z_op (i := 15) rfl (want_none a hS.sl) (listed' := [true, true, true, true, true, true, true, true, true, true, true, false, false, false, false, true, false, false]) rfl (s_alloc hS ty_z60 rfl ?_); clear hS a; (try clear w); intro a w b12 hS
                        refine Z_and hS (sub_cons (by repeat constructor) (sub_cons (by repeat constructor) sub_nil)) ?_
                        refine Z_one (i := 11) rfl (want_none a hS.sl) (listed' := [true, true, true, true, true, true, true, true, true, true, true, true, false, false, false, true, false, false]) rfl (by kernel_rfl) (s_callP hS (.cons rfl (.cons rfl .nil)) cf71 rfl (sbal_P (addS (totOf s.tot x.acc) x) x.acc f2 _) ?_); clear hS a; (try clear w); intro a w hS
                        refine Z_and hS (sub_cons (by repeat constructor) (sub_cons (by repeat constructor) sub_nil)) ?_
                        refine Z_take0 (i := 12) hS rfl want_none (e_move rfl) (listed' := [true, true, true, true, true, true, true, true, true, true, true, true, true, false, false, true, false, false]) rfl (by kernel_rfl) (by kernel_rfl) (by kernel_rfl) (fun _ _ _ h => h) rfl ?_; clear hS a; intro a hS
                        refine Z_take0 (i := 13) hS rfl want_none (e_extract rfl rfl) (listed' := [true, true, true, true, true, true, true, true, true, true, true, true, true, true, false, true, false, false]) rfl (by kernel_rfl) (by kernel_rfl) (by kernel_rfl) (fun _ _ _ h => h) rfl ?_; clear hS a; intro a hS
                        refine Z_take0 (i := 14) hS rfl want_none (e_extract rfl rfl) (listed' := [true, true, true, true, true, true, true, true, true, true, true, true, true, true, true, true, false, false]) rfl (by kernel_rfl) (by kernel_rfl) (by kernel_rfl) (fun _ _ _ h => h) rfl ?_; clear hS a; intro a hS
                        refine Z_one (i := 16) rfl (want_none a hS.sl) (listed' := [true, true, true, true, true, true, true, true, true, true, true, true, true, true, true, true, true, false]) rfl (by kernel_rfl) (s_storeA hS rfl rfl ty_sz60 (by repeat constructor) (by rfl) (by rfl) (by rfl) ?_); clear hS; (try clear w); intro w hS
                        refine Z_and hS (sub_cons (by repeat constructor) (sub_cons (by repeat constructor) sub_nil)) ?_
                        refine Z_take0 (i := 17) hS rfl want_none (e_assign rfl) (listed' := [true, true, true, true, true, true, true, true, true, true, true, true, true, true, true, true, true, true]) rfl (by kernel_rfl) (by kernel_rfl) (by kernel_rfl) (fun _ _ _ h => h) rfl ?_; clear hS a; intro a hS
                        refine Z_done (by kernel_rfl) ?_
                        refine n_then ?_
                        refine c_seq ?_
                        refine c_region ?_
                        refine L_op (s_e hS (e_move rfl) rfl ?_); clear hS a; intro a hS
                        refine L_op (s_e hS (e_not rfl) rfl ?_); clear hS a; intro a hS
                        refine L_nil ?_
                        refine n_then ?_
                        first | refine c_ifD hS rfl (fun hc78 => ?_) (fun hc78 => ?_) | refine c_if hS rfl (fun hc78 => ?_) (fun hc78 => ?_)
                        ·
                          refine c_seq ?_
                          refine c_region ?_
                          refine L_op (s_e hS (e_assign rfl) rfl ?_); clear hS a; intro a hS
                          refine L_nil ?_
                          refine n_then ?_
                          refine wp_ret ?_
                          refine r_block (r_then (r_then (r_block (r_then ?_))))
                          refine c_ret1 hS Try.results33 (.tmp rfl) ?_
                          have hn : ¬ okS (addS (totOf s.tot x.acc) x) := fun e => by
                            have e2 : decide (inU (addS (totOf s.tot x.acc) x).1 ∧ inU (addS (totOf s.tot x.acc) x).2) = true := decide_eq_true e
                            rw [e2] at hc78; cases hc78
                          exact ⟨by rw [show checkE (pl s) at_ memo ps = 16 by unfold checkE; rw [if_neg h1, if_neg h2, if_neg h3, if_neg h4, if_neg h5, if_neg h6, if_pos (show ∃ x ∈ ps, ¬ okS (addS (totOf (pl s).tot x.acc) x) from ⟨x, hxm, hn⟩)]], hS.chg⟩
                        ·
                          refine wp_skip ?_
                          refine n_block ?_
                          refine n_then ?_
                          refine c_region ?_
                          first | (refine L_op (s_e hS (e_binN rfl rfl rfl (by omega)) rfl ?_); clear hS a; intro a hS) | (refine L_op (s_e hS (e_bin rfl rfl rfl) rfl ?_); clear hS a; intro a hS)
                          refine L_op (s_e hS (e_move rfl) rfl ?_); clear hS a; intro a hS
                          refine L_nil ?_
                          have hy : okS (addS (totOf s.tot x.acc) x) := by
                            have e2 : decide (inU (addS (totOf s.tot x.acc) x).1 ∧ inU (addS (totOf s.tot x.acc) x).2) = true := by simpa using hc78
                            exact of_decide_eq_true e2
                          exact ⟨i + 1, by omega, (hS.slots (by repeat (first | exact trivial | refine ⟨rfl, ?_⟩))).pick (by repeat (first | exact Pick.nil | (refine Pick.cons (by repeat (first | exact Rem.head | apply Rem.tail)) ?_))), by omega, fun j hj y hyj => by
                            by_cases e : j = i
                            · subst e; rw [hx] at hyj; cases hyj; exact hy
                            · exact hno j (by omega) y hyj⟩
                    ·
                      refine Z_op (i := 15) rfl (want_none a hS.sl) (listed' := [true, true, true, true, true, true, true, true, false, true, true, false, false, false, false, true, false, false]) rfl (s_alloc hS ty_z60 rfl ?_); clear hS a; (try clear w); intro a w b12 hS
                      refine Z_and hS (sub_cons (by repeat constructor) (sub_cons (by repeat constructor) sub_nil)) ?_
                      refine Z_one (i := 8) rfl (want_none a hS.sl) (listed' := [true, true, true, true, true, true, true, true, true, true, true, false, false, false, false, true, false, false]) rfl (by kernel_rfl) (s_callP hS (.cons rfl (.cons rfl .nil)) cf70 rfl (sadd_P (totOf s.tot x.acc) x f1 hxf f2 _) ?_); clear hS a; (try clear w); intro a w hS
                      refine Z_and hS (sub_cons (by repeat constructor) (sub_cons (by repeat constructor) sub_nil)) ?_
                      refine Z_one (i := 11) rfl (want_none a hS.sl) (listed' := [true, true, true, true, true, true, true, true, true, true, true, true, false, false, false, true, false, false]) rfl (by kernel_rfl) (s_callP hS (.cons rfl (.cons rfl .nil)) cf71 rfl (sbal_P (addS (totOf s.tot x.acc) x) x.acc f2 _) ?_); clear hS a; (try clear w); intro a w hS
                      refine Z_and hS (sub_cons (by repeat constructor) (sub_cons (by repeat constructor) sub_nil)) ?_
                      refine Z_take0 (i := 12) hS rfl want_none (e_move rfl) (listed' := [true, true, true, true, true, true, true, true, true, true, true, true, true, false, false, true, false, false]) rfl (by kernel_rfl) (by kernel_rfl) (by kernel_rfl) (fun _ _ _ h => h) rfl ?_; clear hS a; intro a hS
                      refine Z_take0 (i := 13) hS rfl want_none (e_extract rfl rfl) (listed' := [true, true, true, true, true, true, true, true, true, true, true, true, true, true, false, true, false, false]) rfl (by kernel_rfl) (by kernel_rfl) (by kernel_rfl) (fun _ _ _ h => h) rfl ?_; clear hS a; intro a hS
                      refine Z_take0 (i := 14) hS rfl want_none (e_extract rfl rfl) (listed' := [true, true, true, true, true, true, true, true, true, true, true, true, true, true, true, true, false, false]) rfl (by kernel_rfl) (by kernel_rfl) (by kernel_rfl) (fun _ _ _ h => h) rfl ?_; clear hS a; intro a hS
                      refine Z_one (i := 16) rfl (want_none a hS.sl) (listed' := [true, true, true, true, true, true, true, true, true, true, true, true, true, true, true, true, true, false]) rfl (by kernel_rfl) (s_storeA hS rfl rfl ty_sz60 (by repeat constructor) (by rfl) (by rfl) (by rfl) ?_); clear hS; (try clear w); intro w hS
                      refine Z_and hS (sub_cons (by repeat constructor) (sub_cons (by repeat constructor) sub_nil)) ?_
                      refine Z_take0 (i := 17) hS rfl want_none (e_assign rfl) (listed' := [true, true, true, true, true, true, true, true, true, true, true, true, true, true, true, true, true, true]) rfl (by kernel_rfl) (by kernel_rfl) (by kernel_rfl) (fun _ _ _ h => h) rfl ?_; clear hS a; intro a hS
                      refine Z_done (by kernel_rfl) ?_
                      refine n_then ?_
                      refine c_seq ?_
                      refine c_region ?_
                      refine L_op (s_e hS (e_move rfl) rfl ?_); clear hS a; intro a hS
                      refine L_op (s_e hS (e_not rfl) rfl ?_); clear hS a; intro a hS
                      refine L_nil ?_
                      refine n_then ?_
                      first | refine c_ifD hS rfl (fun hc78 => ?_) (fun hc78 => ?_) | refine c_if hS rfl (fun hc78 => ?_) (fun hc78 => ?_)
                      ·
                        refine c_seq ?_
                        refine c_region ?_
                        refine L_op (s_e hS (e_assign rfl) rfl ?_); clear hS a; intro a hS
                        refine L_nil ?_
                        refine n_then ?_
                        refine wp_ret ?_
                        refine r_block (r_then (r_then (r_block (r_then ?_))))
                        refine c_ret1 hS Try.results33 (.tmp rfl) ?_
                        have hn : ¬ okS (addS (totOf s.tot x.acc) x) := fun e => by
                          have e2 : decide (inU (addS (totOf s.tot x.acc) x).1 ∧ inU (addS (totOf s.tot x.acc) x).2) = true := decide_eq_true e
                          rw [e2] at hc78; cases hc78
                        exact ⟨by rw [show checkE (pl s) at_ memo ps = 16 by unfold checkE; rw [if_neg h1, if_neg h2, if_neg h3, if_neg h4, if_neg h5, if_neg h6, if_pos (show ∃ x ∈ ps, ¬ okS (addS (totOf (pl s).tot x.acc) x) from ⟨x, hxm, hn⟩)]], hS.chg⟩
                      ·
                        refine wp_skip ?_
                        refine n_block ?_
                        refine n_then ?_
                        refine c_region ?_
                        first | (refine L_op (s_e hS (e_binN rfl rfl rfl (by omega)) rfl ?_); clear hS a; intro a hS) | (refine L_op (s_e hS (e_bin rfl rfl rfl) rfl ?_); clear hS a; intro a hS)
                        refine L_op (s_e hS (e_move rfl) rfl ?_); clear hS a; intro a hS
                        refine L_nil ?_
                        have hy : okS (addS (totOf s.tot x.acc) x) := by
                          have e2 : decide (inU (addS (totOf s.tot x.acc) x).1 ∧ inU (addS (totOf s.tot x.acc) x).2) = true := by simpa using hc78
                          exact of_decide_eq_true e2
                        exact ⟨i + 1, by omega, (hS.slots (by repeat (first | exact trivial | refine ⟨rfl, ?_⟩))).pick (by repeat (first | exact Pick.nil | (refine Pick.cons (by repeat (first | exact Rem.head | apply Rem.tail)) ?_))), by omega, fun j hj y hyj => by
                          by_cases e : j = i
                          · subst e; rw [hx] at hyj; cases hyj; exact hy
                          · exact hno j (by omega) y hyj⟩
                  ·
                    refine wp_exit ?_
                    refine x_then (x_then (x_hit ?_))
                    refine n_then ?_
                    refine c_seq ?_
                    refine c_region ?_
                    refine L_op (s_e hS (e_assign rfl) rfl ?_); clear hS a; intro a hS
                    refine L_nil ?_
                    refine n_then ?_
                    refine wp_ret ?_
                    refine c_ret1 hS Try.results33 (.tmp rfl) ?_
                    obtain rfl : i = ps.length := by omega
                    have h7 : ¬ ∃ x ∈ ps, ¬ okS (addS (totOf (pl s).tot x.acc) x) := fun ⟨x, hx, hn⟩ => by
                      obtain ⟨j, hj, rfl⟩ := List.mem_iff_getElem.1 hx
                      exact hn (hno j hj _ (List.getElem?_eq_getElem hj))
                    exact ⟨by rw [show checkE (pl s) at_ memo ps = 0 by unfold checkE; rw [if_neg h1, if_neg h2, if_neg h3, if_neg h4, if_neg h5, if_neg h6, if_neg h7]], hS.chg⟩
end Go.Proofs.Ytheofhegdjjfgaa

namespace Go.Proofs.Ytheofhegdjjfgaa
open Go.RowKit

/-- the totals behind postings. -/
def totS (t : List (ByteArray × SM)) (ps : List Pst) : List (ByteArray × SM) := ps.foldl (fun t p => putT t p.acc (addS (totOf t p.acc) p)) t
theorem totS_take {t : List (ByteArray × SM)} {ps : List Pst} {i : Nat} {x : Pst} (hx : ps[i]? = some x) : totS t (ps.take (i + 1)) = putT (totS t (ps.take i)) x.acc (addS (totOf (totS t (ps.take i)) x.acc) x) := by
  unfold totS; rw [List.take_add_one, hx, List.foldl_append]; rfl
theorem bdT_put {t : List (ByteArray × SM)} {i : Nat} (h : bdT t i) {p : Pst} (hp : p.fits) : bdT (putT t p.acc (addS (totOf t p.acc) p)) (i + 1) := by
  intro e he
  have hu := hp.u
  have hf := hp.f
  rcases putT_mem he with rfl | he
  · have h2 := bdT_of h p.acc
    unfold addS; simp only; omega
  · have h1 := h e he
    omega
theorem bal_bd {t : List (ByteArray × SM)} (h : balT t) : bdT t 1 := fun e he => by
  have := h e he
  unfold okS inU at this
  omega
/-- what Post answers and leaves. -/
def postP (P : PL) (at_ : Int) (memo : ByteArray) (ps : List Pst) : PL :=
  if checkE P at_ memo ps = 0 then { P with es := P.es ++ [⟨(P.es.length : Int) + 1, at_, memo, ps⟩], tot := totS P.tot ps } else P
def postI (P : PL) (at_ : Int) (memo : ByteArray) (ps : List Pst) : Int := if checkE P at_ memo ps = 0 then (P.es.length : Int) + 1 else 0

theorem led_okQ {B : LB} {s : LS} {p : Option (Nat × Nat)} {ps : List Pst} {w : World} (h : ledφ B s w) (hr : RowP p 3 (ps.map encP) w) (hb : ∀ q, p = some q → q.1 < w.heap.size) : ∀ X ∈ [.blk B.lb (ledC B s) 129, smapA B.ma (entAc s.acs), smapA B.ml (entSm s.tot), rowE s, psAll s.es, rowP p 3 (ps.map encP)], X.ok w := by
  intro X hX
  rcases List.mem_append.1 (show X ∈ [.blk B.lb (ledC B s) 129, smapA B.ma (entAc s.acs), smapA B.ml (entSm s.tot), rowE s, psAll s.es] ++ [rowP p 3 (ps.map encP)] from hX) with hX | hX
  · exact led_okP h X hX
  · obtain rfl := List.mem_singleton.1 hX; exact ok_rowP hr hb
theorem led_disQ {B : LB} {s : LS} {p : Option (Nat × Nat)} {ps : List Pst} {w : World} (h : ledφ B s w) (hd : ∀ q, p = some q → ¬ ledF B s q.1) : [.blk B.lb (ledC B s) 129, smapA B.ma (entAc s.acs), smapA B.ml (entSm s.tot), rowE s, psAll s.es, rowP p 3 (ps.map encP)].Pairwise (fun X Y => ∀ b, X.F b → ¬ Y.F b) := by
  show ([.blk B.lb (ledC B s) 129, smapA B.ma (entAc s.acs), smapA B.ml (entSm s.tot), rowE s, psAll s.es] ++ [rowP p 3 (ps.map encP)]).Pairwise _
  refine List.pairwise_append.2 ⟨led_dis h, List.pairwise_singleton _ _, fun X hX Y hY b h1 h2 => ?_⟩
  obtain rfl := List.mem_singleton.1 hY
  obtain ⟨off, e⟩ := h2
  refine hd _ e ?_
  have key : ∀ X ∈ [.blk B.lb (ledC B s) 129, smapA B.ma (entAc s.acs), smapA B.ml (entSm s.tot), rowE s, psAll s.es], X.mine = true := fun X hX => by
    simp only [List.mem_cons, List.not_mem_nil, or_false] at hX
    rcases hX with rfl | rfl | rfl | rfl | rfl <;> rfl
  have h3 := led_mine (w := { w with heap := #[] }) X hX (key X hX) b h1
  rcases X with ⟨c, cs, E⟩ | ⟨F, φ, m⟩ | ⟨c, es, ck⟩
  all_goals
    simp only [List.mem_cons, List.not_mem_nil, or_false] at hX
    rcases hX with hX | hX | hX | hX | hX
  all_goals first
    | (cases hX; exact .inl h1)
    | (cases hX; exact .inr (.inl h1))
    | (cases hX; exact .inr (.inr (.inl h1)))
    | (cases hX; exact .inr (.inr (.inr (.inl h1))))
    | (cases hX; exact .inr (.inr (.inr (.inr h1))))
    | cases hX
theorem led_mineQ {B : LB} {s : LS} {p : Option (Nat × Nat)} {ps : List Pst} {w : World} : ∀ X ∈ [.blk B.lb (ledC B s) 129, smapA B.ma (entAc s.acs), smapA B.ml (entSm s.tot), rowE s, psAll s.es, rowP p 3 (ps.map encP)], X.mine = true → ∀ b, X.F b → w.heap.size ≤ b ∨ ledF B s b := by
  intro X hX hm
  rcases List.mem_append.1 (show X ∈ [.blk B.lb (ledC B s) 129, smapA B.ma (entAc s.acs), smapA B.ml (entSm s.tot), rowE s, psAll s.es] ++ [rowP p 3 (ps.map encP)] from hX) with hX | hX
  · exact led_mine X hX hm
  · obtain rfl := List.mem_singleton.1 hX; cases hm

set_option maxHeartbeats 1000000 in
set_option maxRecDepth 100000 in
theorem lPost_P (B : LB) (s : LS) (p : Option (Nat × Nat)) (c : Nat) (at_ : Int) (memo : ByteArray) (ps : List Pst) (hlen : ps.length ≤ 4611686018427387904) (hfit : ∀ x ∈ ps, x.fits) (hbt : balT s.tot) (hes : s.es.length ≤ 100000) (w0 : World) (h : ledφ B s w0) (hrow : RowP p 3 (ps.map encP) w0) (hb : ∀ q, p = some q → q.1 < w0.heap.size) (hd : ∀ q, p = some q → ¬ ledF B s q.1) :
    MutC Try.prog 32 [.pointer (some ⟨B.lb, 0, none⟩), .int .i64 at_, .string memo, sliceV p ps.length c] w0 (ledA B s true) (fun _ : { y : LS // pl y = postP (pl s) at_ memo ps } => .tuple [.int .i64 (postI (pl s) at_ memo ps), .int .i64 (checkE (pl s) at_ memo ps)].toArray) (fun y => ledA B y.1 true) := by
  obtain ⟨qs, cs, hsv⟩ := own_slice h.row
  have hel : (pl s).es.length = s.es.length := by simp [pl]
  refine c_enter [(0, .pointer (some ⟨B.lb, 0, none⟩)), (1, .int .i64 at_), (2, .string memo), (3, sliceV p ps.length c)] [.blk B.lb (ledC B s) 129, smapA B.ma (entAc s.acs), smapA B.ml (entSm s.tot), rowE s, psAll s.es, rowP p 3 (ps.map encP)] (ledF B s) Try.func32 rfl Try.ntmps32 ⟨rfl, rfl, rfl, rfl, trivial⟩ rfl (led_okQ h hrow hb) (led_disQ h hd) led_mineQ ?_
  intro a hS
  refine c_seq ?_
  refine c_region ?_
  refine L_op (s_e hS (e_assign rfl) rfl ?_); clear hS a; intro a hS
  refine L_op (s_e hS (e_assign rfl) rfl ?_); clear hS a; intro a hS
  refine L_nil ?_
  refine n_then ?_
  refine c_seq ?_
  refine c_seq ?_
  refine c_region ?_
  refine L_op (s_e hS (e_move rfl) rfl ?_); clear hS a; intro a hS
  refine L_op (s_e hS (e_move rfl) rfl ?_); clear hS a; intro a hS
  refine L_op (s_e hS (e_move rfl) rfl ?_); clear hS a; intro a hS
  refine L_op (s_e hS (e_move rfl) rfl ?_); clear hS a; intro a hS
  refine L_op (s_callP hS (.cons rfl (.cons rfl (.cons rfl (.cons rfl .nil)))) cf33 rfl (lCheck_P B s p c at_ memo ps hlen hfit hbt _ ⟨hS.get (X := .blk B.lb (ledC B s) 129) (by repeat constructor), hS.get (X := smapA B.ma (entAc s.acs)) (by repeat constructor), hS.get (X := smapA B.ml (entSm s.tot)) (by repeat constructor), hS.get (X := rowE s) (by repeat constructor), hS.get (X := psAll s.es) (by repeat constructor), h.ne⟩ (hS.get (X := rowP p 3 (ps.map encP)) (by repeat constructor)) (fun q hq => (hS.ok (rowP p 3 (ps.map encP)) (by repeat constructor)).lt q.1 ⟨q.2, hq⟩) hd) ?_); clear hS a; (try clear w); intro a w hS
  refine L_op (s_e hS (e_assign rfl) rfl ?_); clear hS a; intro a hS
  refine L_nil ?_
  refine n_then ?_
  refine c_seq ?_
  refine c_region ?_
  refine L_op (s_e hS (e_move rfl) rfl ?_); clear hS a; intro a hS
  refine L_op (s_e hS (e_bin rfl rfl rfl) rfl ?_); clear hS a; intro a hS
  refine L_nil ?_
  refine n_then ?_
  first | refine c_ifD hS rfl (fun hc20 => ?_) (fun hc20 => ?_) | refine c_if hS rfl (fun hc20 => ?_) (fun hc20 => ?_)
  ·
    refine c_seq ?_
    refine c_region ?_
    refine L_op (s_e hS (e_move rfl) rfl ?_); clear hS a; intro a hS
    refine L_op (s_e hS (e_assign rfl) rfl ?_); clear hS a; intro a hS
    refine L_op (s_e hS (e_assign rfl) rfl ?_); clear hS a; intro a hS
    refine L_nil ?_
    refine n_then ?_
    refine wp_ret ?_
    refine r_then ?_
    refine c_retN hS Try.results32 (.cons (.tmp rfl) (.cons (.tmp rfl) .nil)) rfl ?_
    have hI : postI (pl s) at_ memo ps = 0 := if_neg hc20
    have hP : postP (pl s) at_ memo ps = pl s := if_neg hc20
    exact ⟨⟨s, hP.symm⟩, by rw [hI], hS.chg, led_end hS (by repeat constructor) (by repeat constructor) (by repeat constructor) (by repeat constructor) (by repeat constructor) h.ne⟩
  ·
    have hE : checkE (pl s) at_ memo ps = 0 := Classical.byContradiction fun e => hc20 e
    have hl50 : ps.length ≤ 50 := by
      unfold checkE at hE
      split at hE
      · cases hE
      · split at hE
        · cases hE
        · split at hE
          · cases hE
          · split at hE
            · cases hE
            · omega
    refine wp_skip ?_
    refine n_then ?_
    refine c_seq ?_
    refine c_seq ?_
    refine c_region ?_
    refine L_op (s_e hS (e_move rfl) rfl ?_); clear hS a; intro a hS
    refine L_op (s_e hS (e_len rfl rfl ty_sl56) rfl ?_); clear hS a; intro a hS
    refine L_op (s_e hS (e_move rfl) rfl ?_); clear hS a; intro a hS
    refine L_nil ?_
    refine n_then ?_
    refine wp_block ?_
    skip
    refine c_loop (γ := Nat) (fun i a w => St 66 (ledF B s) w0 a w [(24, .int .i64 (i : Int)), (23, .int .i64 (ps.length : Int)), (22, sliceV p ps.length c), (0, .pointer (some ⟨B.lb, 0, none⟩)), (1, .int .i64 at_), (2, .string memo), (3, sliceV p ps.length c)] [.blk B.lb (ledC B s) 129, smapA B.ma (entAc s.acs), smapA B.ml (entSm (totS s.tot (ps.take i))), rowE s, psAll s.es, rowP p 3 (ps.map encP)] ∧ i ≤ ps.length ∧ bdT (totS s.tot (ps.take i)) (1 + i)) (fun i => ps.length - i) 0 ⟨(hS.slots (by repeat (first | exact trivial | refine ⟨rfl, ?_⟩))).pick (by repeat (first | exact Pick.nil | (refine Pick.cons (by repeat (first | exact Rem.head | apply Rem.tail)) ?_))), Nat.zero_le _, bal_bd hbt⟩ ?_
    clear hS a; (try clear w); intro i a w hI
    obtain ⟨hS, hi, hbd⟩ := hI
    refine c_seq ?_
    refine c_region ?_
    refine L_op (s_e hS (e_bin rfl rfl rfl) rfl ?_); clear hS a; intro a hS
    refine L_nil ?_
    refine n_then ?_
    refine c_seq ?_
    first | refine c_ifD hS rfl (fun hc25 => ?_) (fun hc25 => ?_) | refine c_if hS rfl (fun hc25 => ?_) (fun hc25 => ?_)
    ·
      have hil : i < ps.length := by omega
      obtain ⟨x, hx⟩ : ∃ x, ps[i]? = some x := ⟨ps[i], List.getElem?_eq_getElem hil⟩
      have hxf := hfit x (List.mem_of_getElem? hx)
      have hx' : (ps.map encP)[i]? = some (encP x) := by simp [hx]
      obtain ⟨b, off, rfl⟩ := rowP_some (hS.get (X := rowP p 3 (ps.map encP)) (by repeat constructor)) hx'
      have htt := totS_take (t := s.tot) hx
      have hb1 := bdT_of hbd x.acc
      have hu := hxf.u
      have hf := hxf.f
      have f1 : fitS (totOf (totS s.tot (ps.take i)) x.acc) := by unfold fitS Wd.fit; omega
      have f2 : fitS (addS (totOf (totS s.tot (ps.take i)) x.acc) x) := by unfold fitS addS Wd.fit; simp only; omega
      refine wp_skip ?_
      refine n_then ?_
      refine c_seq ?_
      refine wp_block ?_
      refine c_seq ?_
      refine c_region ?_
      refine L_op (s_e hS (e_ixN rfl rfl ty_sl56 ty_sz63 (by omega)) rfl ?_); clear hS a; intro a hS
      refine L_op (s_e hS (e_loadAC (l := encP x) rfl ty_st63 ty_sz63 (fun w hh => rowP_get (by repeat constructor) hx' w hh)) rfl ?_); clear hS a; intro a hS
      refine L_op (s_alloc hS ty_z63 rfl ?_); clear hS a; (try clear w); intro a w b12 hS
      refine L_op (s_storeA hS rfl rfl ty_sz63 (by repeat constructor) (by rfl) (by rfl) (by rfl) ?_); clear hS; (try clear w); intro w hS
      refine L_nil ?_
      refine n_then ?_
      refine c_drawS [15] (by kernel_rfl) hS (sub_cons (X := .blk b12 _ _) (by repeat constructor) (sub_cons (X := .blk B.lb (ledC B s) 129) (by repeat constructor) (sub_cons (X := smapA B.ml (entSm (totS s.tot (ps.take i)))) (by repeat constructor) sub_nil))) ?_; clear hS; (try clear w); intro w hS
      simp only [List.length_cons, List.length_nil, Nat.zero_add, Nat.reduceAdd, List.replicate]
      refine Z_take0 (i := 0) hS rfl want_none (e_move rfl) (listed' := [true, false, false, false, false, false, false, false, false, false, false, false, false, false, false, false]) rfl (by kernel_rfl) (by kernel_rfl) (by kernel_rfl) (fun _ _ _ h => h) rfl ?_; clear hS a; intro a hS
      refine Z_take0 (i := 1) hS rfl want_none (e_nilCheck rfl) (listed' := [true, true, false, false, false, false, false, false, false, false, false, false, false, false, false, false]) rfl (by kernel_rfl) (by kernel_rfl) (by kernel_rfl) (fun _ _ _ h => h) rfl ?_; clear hS a; intro a hS
      first | (refine Z_take0 (i := 2) hS rfl want_none (e_fa0 rfl ty_fo129_3) (listed' := [true, true, true, false, false, false, false, false, false, false, false, false, false, false, false, false]) rfl (by kernel_rfl) (by kernel_rfl) (by kernel_rfl) (fun _ _ _ h => h) rfl ?_; clear hS a; intro a hS) | (refine Z_take0 (i := 2) hS rfl want_none (e_faK rfl ty_fo129_3) (listed' := [true, true, true, false, false, false, false, false, false, false, false, false, false, false, false, false]) rfl (by kernel_rfl) (by kernel_rfl) (by kernel_rfl) (fun _ _ _ h => h) rfl ?_; clear hS a; intro a hS)
      refine Z_take (i := 3) hS rfl want_none (e_load rfl (by repeat constructor) ty_sc127 (by rfl)) (listed' := [true, true, true, true, false, false, false, false, false, false, false, false, false, false, false, false]) rfl (by kernel_rfl) (by kernel_rfl) (by kernel_rfl) (by kernel_rfl) (by kernel_rfl) (sub_cons (by repeat constructor) (sub_cons (by repeat constructor) (sub_cons (by repeat constructor) sub_nil))) (fun _ _ _ h => h) rfl ?_; clear hS a; intro a hS
      first | (refine Z_take0 (i := 4) hS rfl want_none (e_fa0 rfl ty_fo63_0) (listed' := [true, true, true, true, true, false, false, false, false, false, false, false, false, false, false, false]) rfl (by kernel_rfl) (by kernel_rfl) (by kernel_rfl) (fun _ _ _ h => h) rfl ?_; clear hS a; intro a hS) | (refine Z_take0 (i := 4) hS rfl want_none (e_faK rfl ty_fo63_0) (listed' := [true, true, true, true, true, false, false, false, false, false, false, false, false, false, false, false]) rfl (by kernel_rfl) (by kernel_rfl) (by kernel_rfl) (fun _ _ _ h => h) rfl ?_; clear hS a; intro a hS)
      refine Z_take (i := 5) hS rfl want_none (e_load rfl (by repeat constructor) ty_sc9 (by rfl)) (listed' := [true, true, true, true, true, true, false, false, false, false, false, false, false, false, false, false]) rfl (by kernel_rfl) (by kernel_rfl) (by kernel_rfl) (by kernel_rfl) (by kernel_rfl) (sub_cons (by repeat constructor) (sub_cons (by repeat constructor) (sub_cons (by repeat constructor) sub_nil))) (fun _ _ _ h => h) rfl ?_; clear hS a; intro a hS
      refine Z_take0 (i := 6) hS rfl want_none (e_move rfl) (listed' := [true, true, true, true, true, true, true, false, false, false, false, false, false, false, false, false]) rfl (by kernel_rfl) (by kernel_rfl) (by kernel_rfl) (fun _ _ _ h => h) rfl ?_; clear hS a; intro a hS
      refine Z_take0 (i := 7) hS rfl want_none (e_nilCheck rfl) (listed' := [true, true, true, true, true, true, true, true, false, false, false, false, false, false, false, false]) rfl (by kernel_rfl) (by kernel_rfl) (by kernel_rfl) (fun _ _ _ h => h) rfl ?_; clear hS a; intro a hS
      first | (refine Z_take0 (i := 8) hS rfl want_none (e_fa0 rfl ty_fo129_3) (listed' := [true, true, true, true, true, true, true, true, true, false, false, false, false, false, false, false]) rfl (by kernel_rfl) (by kernel_rfl) (by kernel_rfl) (fun _ _ _ h => h) rfl ?_; clear hS a; intro a hS) | (refine Z_take0 (i := 8) hS rfl want_none (e_faK rfl ty_fo129_3) (listed' := [true, true, true, true, true, true, true, true, true, false, false, false, false, false, false, false]) rfl (by kernel_rfl) (by kernel_rfl) (by kernel_rfl) (fun _ _ _ h => h) rfl ?_; clear hS a; intro a hS)
      refine Z_take (i := 9) hS rfl want_none (e_load rfl (by repeat constructor) ty_sc127 (by rfl)) (listed' := [true, true, true, true, true, true, true, true, true, true, false, false, false, false, false, false]) rfl (by kernel_rfl) (by kernel_rfl) (by kernel_rfl) (by kernel_rfl) (by kernel_rfl) (sub_cons (by repeat constructor) (sub_cons (by repeat constructor) (sub_cons (by repeat constructor) sub_nil))) (fun _ _ _ h => h) rfl ?_; clear hS a; intro a hS
      first | (refine Z_take0 (i := 10) hS rfl want_none (e_fa0 rfl ty_fo63_0) (listed' := [true, true, true, true, true, true, true, true, true, true, true, false, false, false, false, false]) rfl (by kernel_rfl) (by kernel_rfl) (by kernel_rfl) (fun _ _ _ h => h) rfl ?_; clear hS a; intro a hS) | (refine Z_take0 (i := 10) hS rfl want_none (e_faK rfl ty_fo63_0) (listed' := [true, true, true, true, true, true, true, true, true, true, true, false, false, false, false, false]) rfl (by kernel_rfl) (by kernel_rfl) (by kernel_rfl) (fun _ _ _ h => h) rfl ?_; clear hS a; intro a hS)
      refine Z_take (i := 11) hS rfl want_none (e_load rfl (by repeat constructor) ty_sc9 (by rfl)) (listed' := [true, true, true, true, true, true, true, true, true, true, true, true, false, false, false, false]) rfl (by kernel_rfl) (by kernel_rfl) (by kernel_rfl) (by kernel_rfl) (by kernel_rfl) (sub_cons (by repeat constructor) (sub_cons (by repeat constructor) (sub_cons (by repeat constructor) sub_nil))) (fun _ _ _ h => h) rfl ?_; clear hS a; intro a hS
      refine Z_take (i := 12) hS rfl want_none (e_lookupS rfl rfl ty_mp127 ty_u9 ty_zv136 (by repeat constructor)) (listed' := [true, true, true, true, true, true, true, true, true, true, true, true, true, false, false, false]) rfl (by kernel_rfl) (by kernel_rfl) (by kernel_rfl) (by kernel_rfl) (by kernel_rfl) (sub_cons (by repeat constructor) (sub_cons (by repeat constructor) (sub_cons (by repeat constructor) sub_nil))) (fun _ _ _ h => h) rfl ?_; clear hS a; intro a hS
      rw [lk_tot] at hS
      refine Z_take (i := 13) hS rfl want_none (e_loadA rfl (by repeat constructor) ty_st63 ty_sz63 (by rfl)) (listed' := [true, true, true, true, true, true, true, true, true, true, true, true, true, true, false, false]) rfl (by kernel_rfl) (by kernel_rfl) (by kernel_rfl) (by kernel_rfl) (by kernel_rfl) (sub_cons (by repeat constructor) (sub_cons (by repeat constructor) (sub_cons (by repeat constructor) sub_nil))) (fun _ _ _ h => h) rfl ?_; clear hS a; intro a hS
      refine Z_one (i := 14) rfl (want_none a hS.sl) (listed' := [true, true, true, true, true, true, true, true, true, true, true, true, true, true, true, false]) rfl (by kernel_rfl) (s_callP hS (.cons rfl (.cons rfl .nil)) cf70 rfl (sadd_P (totOf (totS s.tot (ps.take i)) x.acc) x f1 hxf f2 _) ?_); clear hS a; (try clear w); intro a w hS
      refine Z_and hS (sub_cons (by repeat constructor) (sub_cons (by repeat constructor) (sub_cons (by repeat constructor) sub_nil))) ?_
      refine Z_one (i := 15) rfl (want_none a hS.sl) (listed' := [true, true, true, true, true, true, true, true, true, true, true, true, true, true, true, true]) rfl (by kernel_rfl) (s_mapUp hS rfl rfl rfl ty_mp127 ty_u9 (by repeat constructor) ?_); clear hS; (try clear w); intro w hS
      refine Z_last (by simp) ?_
      refine Z_done (by kernel_rfl) ?_
      refine n_block ?_
      refine n_then ?_
      refine c_region ?_
      first | (refine L_op (s_e hS (e_binN rfl rfl rfl (by omega)) rfl ?_); clear hS a; intro a hS) | (refine L_op (s_e hS (e_bin rfl rfl rfl) rfl ?_); clear hS a; intro a hS)
      refine L_op (s_e hS (e_move rfl) rfl ?_); clear hS a; intro a hS
      refine L_nil ?_
      rw [show setM (entSm (totS s.tot (ps.take i))) x.acc (.agg (encSm (addS (totOf (totS s.tot (ps.take i)) x.acc) x)).toArray) = entSm (totS s.tot (ps.take (i + 1))) by rw [putT_set, htt]] at hS
      exact ⟨i + 1, by omega, (hS.slots (by repeat (first | exact trivial | refine ⟨rfl, ?_⟩))).pick (by repeat (first | exact Pick.nil | (refine Pick.cons (by repeat (first | exact Rem.head | apply Rem.tail)) ?_))), by omega, by rw [htt]; exact bdT_put hbd hxf⟩
    ·
      obtain rfl : i = ps.length := by omega
      rw [List.take_length] at hS
      have hro : rowE s = ownA 58 4 (.slice qs s.es.length cs) s.es.length (s.es.flatMap encE) := by unfold rowE; rw [hsv]
      rw [hro] at hS
      refine wp_exit ?_
      refine x_then (x_then (x_hit ?_))
      refine n_then ?_
      refine c_seq ?_
      refine c_region ?_
      refine L_op (s_e hS (e_move rfl) rfl ?_); clear hS a; intro a hS
      refine L_op (s_e hS (e_nilCheck rfl) rfl ?_); clear hS a; intro a hS
      first | (refine L_op (s_e hS (e_fa0 rfl ty_fo129_2) rfl ?_); clear hS a; intro a hS) | (refine L_op (s_e hS (e_faK rfl ty_fo129_2) rfl ?_); clear hS a; intro a hS)
      refine L_op (s_e hS (e_load rfl (by repeat constructor) ty_sc54 (by rfl)) rfl ?_); clear hS a; intro a hS
      rw [hsv] at hS
      refine L_op (s_e hS (e_len rfl rfl ty_sl54) rfl ?_); clear hS a; intro a hS
      first | (refine L_op (s_e hS (e_binN rfl rfl rfl (by omega)) rfl ?_); clear hS a; intro a hS) | (refine L_op (s_e hS (e_bin rfl rfl rfl) rfl ?_); clear hS a; intro a hS)
      refine L_op (s_e hS (e_assign rfl) rfl ?_); clear hS a; intro a hS
      refine L_nil ?_
      refine n_then ?_
      refine c_seq ?_
      refine c_drawS [15] (by kernel_rfl) hS (sub_cons (X := .blk B.lb (ledC B s) 129) (by repeat constructor) sub_nil) ?_; clear hS; (try clear w); intro w hS
      simp only [List.length_cons, List.length_nil, Nat.zero_add, Nat.reduceAdd, List.replicate]
      refine Z_take0 (i := 0) hS rfl want_none (e_move rfl) (listed' := [true, false, false, false, false, false, false, false, false, false, false, false, false, false, false, false]) rfl (by kernel_rfl) (by kernel_rfl) (by kernel_rfl) (fun _ _ _ h => h) rfl ?_; clear hS a; intro a hS
      refine Z_take0 (i := 1) hS rfl want_none (e_move rfl) (listed' := [true, true, false, false, false, false, false, false, false, false, false, false, false, false, false, false]) rfl (by kernel_rfl) (by kernel_rfl) (by kernel_rfl) (fun _ _ _ h => h) rfl ?_; clear hS a; intro a hS
      refine Z_take0 (i := 2) hS rfl want_none (e_nilCheck rfl) (listed' := [true, true, true, false, false, false, false, false, false, false, false, false, false, false, false, false]) rfl (by kernel_rfl) (by kernel_rfl) (by kernel_rfl) (fun _ _ _ h => h) rfl ?_; clear hS a; intro a hS
      first | (refine Z_take0 (i := 3) hS rfl want_none (e_fa0 rfl ty_fo129_2) (listed' := [true, true, true, true, false, false, false, false, false, false, false, false, false, false, false, false]) rfl (by kernel_rfl) (by kernel_rfl) (by kernel_rfl) (fun _ _ _ h => h) rfl ?_; clear hS a; intro a hS) | (refine Z_take0 (i := 3) hS rfl want_none (e_faK rfl ty_fo129_2) (listed' := [true, true, true, true, false, false, false, false, false, false, false, false, false, false, false, false]) rfl (by kernel_rfl) (by kernel_rfl) (by kernel_rfl) (fun _ _ _ h => h) rfl ?_; clear hS a; intro a hS)
      refine Z_take (i := 4) hS rfl want_none (e_load rfl (by repeat constructor) ty_sc54 (by rfl)) (listed' := [true, true, true, true, true, false, false, false, false, false, false, false, false, false, false, false]) rfl (by kernel_rfl) (by kernel_rfl) (by kernel_rfl) (by kernel_rfl) (by kernel_rfl) (sub_cons (by repeat constructor) sub_nil) (fun _ _ _ h => h) rfl ?_; clear hS a; intro a hS
      rw [hsv] at hS
      refine Z_take0 (i := 5) hS rfl want_none (e_move rfl) (listed' := [true, true, true, true, true, true, false, false, false, false, false, false, false, false, false, false]) rfl (by kernel_rfl) (by kernel_rfl) (by kernel_rfl) (fun _ _ _ h => h) rfl ?_; clear hS a; intro a hS
      refine Z_take0 (i := 6) hS rfl want_none (e_move rfl) (listed' := [true, true, true, true, true, true, true, false, false, false, false, false, false, false, false, false]) rfl (by kernel_rfl) (by kernel_rfl) (by kernel_rfl) (fun _ _ _ h => h) rfl ?_; clear hS a; intro a hS
      refine Z_take0 (i := 7) hS rfl want_none (e_move rfl) (listed' := [true, true, true, true, true, true, true, true, false, false, false, false, false, false, false, false]) rfl (by kernel_rfl) (by kernel_rfl) (by kernel_rfl) (fun _ _ _ h => h) rfl ?_; clear hS a; intro a hS
      refine Z_take0 (i := 8) hS rfl want_none (e_move rfl) (listed' := [true, true, true, true, true, true, true, true, true, false, false, false, false, false, false, false]) rfl (by kernel_rfl) (by kernel_rfl) (by kernel_rfl) (fun _ _ _ h => h) rfl ?_; clear hS a; intro a hS
      refine Z_one (i := 9) rfl (want_none a hS.sl) (listed' := [true, true, true, true, true, true, true, true, true, true, false, false, false, false, false, false]) rfl (by kernel_rfl) (s_callN hS (.cons rfl .nil) cf74 rfl (lfresh_P p c ps (by omega) _ (hS.get (X := rowP p 3 (ps.map encP)) (by repeat constructor)) (fun q hq => (hS.ok (rowP p 3 (ps.map encP)) (by repeat constructor)).lt q.1 ⟨q.2, hq⟩)) ?_); clear hS a; (try clear w); intro x59 a w hS
      refine Z_and hS (sub_cons (by repeat constructor) sub_nil) ?_
      refine Z_take0 (i := 10) hS rfl want_none (e_build ty_z58 ty_pl58 (.one rfl rfl rfl (by repeat constructor) (.one rfl rfl rfl (by repeat constructor) (.one rfl rfl rfl (by repeat constructor) (.one rfl rfl rfl (by repeat constructor) .nil))))) (listed' := [true, true, true, true, true, true, true, true, true, true, true, false, false, false, false, false]) rfl (by kernel_rfl) (by kernel_rfl) (by kernel_rfl) (fun _ _ _ h => h) rfl ?_; clear hS a; intro a hS
      refine Z_one (i := 11) rfl (want_none a hS.sl) (listed' := [true, true, true, true, true, true, true, true, true, true, true, true, false, false, false, false]) rfl (by kernel_rfl) (s_bslice hS ty_sl54 ty_sz58 ty_z58 rfl rfl rfl rfl (.agg rfl rfl .nil) rfl ?_); clear hS a; (try clear w); intro a w b61 hS
      refine Z_and hS (sub_cons (by repeat constructor) sub_nil) ?_
      refine Z_one (i := 12) rfl (want_none a hS.sl) (listed' := [true, true, true, true, true, true, true, true, true, true, true, true, true, false, false, false]) rfl (by kernel_rfl) (s_append1 hS rfl rfl ty_sl54 ty_sz58 ty_by58 ty_z58 rfl rfl rfl (by repeat constructor) (by repeat constructor) (by rfl) (by rfl) (fun _ => (by repeat constructor)) (by omega) ?_); clear hS a; (try clear w); intro v62 a w hv62 hS
      obtain ⟨q62, c62, rfl⟩ := own_slice (hS.get (X := ownA 58 4 v62 (s.es.length + 1) (s.es.flatMap encE ++ [.int .i64 ((s.es.length : Int) + 1), .int .i64 at_, .string memo, psO ps x59])) (by repeat constructor))
      refine Z_and hS (sub_cons (by repeat constructor) sub_nil) ?_
      refine Z_take0 (i := 13) hS rfl want_none (e_nilCheck rfl) (listed' := [true, true, true, true, true, true, true, true, true, true, true, true, true, true, false, false]) rfl (by kernel_rfl) (by kernel_rfl) (by kernel_rfl) (fun _ _ _ h => h) rfl ?_; clear hS a; intro a hS
      first | (refine Z_take0 (i := 14) hS rfl want_none (e_fa0 rfl ty_fo129_2) (listed' := [true, true, true, true, true, true, true, true, true, true, true, true, true, true, true, false]) rfl (by kernel_rfl) (by kernel_rfl) (by kernel_rfl) (fun _ _ _ h => h) rfl ?_; clear hS a; intro a hS) | (refine Z_take0 (i := 14) hS rfl want_none (e_faK rfl ty_fo129_2) (listed' := [true, true, true, true, true, true, true, true, true, true, true, true, true, true, true, false]) rfl (by kernel_rfl) (by kernel_rfl) (by kernel_rfl) (fun _ _ _ h => h) rfl ?_; clear hS a; intro a hS)
      refine Z_one (i := 15) rfl (want_none a hS.sl) (listed' := [true, true, true, true, true, true, true, true, true, true, true, true, true, true, true, true]) rfl (by kernel_rfl) (s_store hS rfl rfl rfl ty_sz54 (by repeat constructor) (by repeat constructor) ?_); clear hS; (try clear w); intro w hS
      refine Z_last (by simp) ?_
      refine Z_done (by kernel_rfl) ?_
      refine n_then ?_
      refine c_seq ?_
      refine c_region ?_
      refine L_op (s_e hS (e_move rfl) rfl ?_); clear hS a; intro a hS
      refine L_op (s_e hS (e_assign rfl) rfl ?_); clear hS a; intro a hS
      refine L_op (s_e hS (e_assign rfl) rfl ?_); clear hS a; intro a hS
      refine L_nil ?_
      refine n_then ?_
      refine wp_ret ?_
      refine c_retN hS Try.results32 (.cons (.tmp rfl) (.cons (.tmp rfl) .nil)) rfl ?_
      have hI : postI (pl s) at_ memo ps = (s.es.length : Int) + 1 := by unfold postI; rw [if_pos hE, hel]
      have hP : postP (pl s) at_ memo ps = { pl s with es := (pl s).es ++ [⟨((pl s).es.length : Int) + 1, at_, memo, ps⟩], tot := totS (pl s).tot ps } := if_pos hE
      have hr1 : w.ownsRow 0 58 4 (.slice q62 (s.es.length + 1) c62) (s.es.length + 1) (s.es.flatMap encE ++ [.int .i64 ((s.es.length : Int) + 1), .int .i64 at_, .string memo, psO ps x59]) := hS.get (X := ownA 58 4 (.slice q62 (s.es.length + 1) c62) (s.es.length + 1) (s.es.flatMap encE ++ [.int .i64 ((s.es.length : Int) + 1), .int .i64 at_, .string memo, psO ps x59])) (by repeat constructor)
      refine ⟨⟨⟨s.cur, s.acs, s.es ++ [⟨⟨(s.es.length : Int) + 1, at_, memo, ps⟩, x59.1, x59.2⟩], totS s.tot ps, s.closed, .slice q62 (s.es.length + 1) c62⟩, by rw [hP, hel]; simp [pl]⟩, by rw [hI, hE], hS.chg, led_ok true ⟨hS.get (X := .blk B.lb [.string s.cur, .map (some B.ma), .slice q62 (s.es.length + 1) c62, .map (some B.ml), .int .i64 s.closed] 129) (by repeat constructor), hS.get (X := smapA B.ma (entAc s.acs)) (by repeat constructor), hS.get (X := smapA B.ml (entSm (totS s.tot ps))) (by repeat constructor), by simpa [encE, psV, psO] using hr1, fun y hy => ?_, h.ne⟩, fun b hb => ?_⟩
      · rcases List.mem_append.1 hy with hy | hy
        · exact hS.get (X := psAll s.es) (by repeat constructor) y hy
        · obtain rfl := List.mem_singleton.1 hy
          exact hS.get (X := ownA 63 3 (psO ps x59) ps.length (ps.flatMap encP)) (by repeat constructor)
      · rcases hb with hb | hb | hb | hb | ⟨y, hy, hb⟩
        · exact .inl (.inl hb)
        · exact .inl (.inr (.inl hb))
        · exact .inl (.inr (.inr (.inl hb)))
        · exact (hS.mine (ownA 58 4 (.slice q62 (s.es.length + 1) c62) (s.es.length + 1) (s.es.flatMap encE ++ [.int .i64 ((s.es.length : Int) + 1), .int .i64 at_, .string memo, psO ps x59])) (by repeat constructor) rfl b hb).symm
        · rcases List.mem_append.1 hy with hy | hy
          · exact .inl (.inr (.inr (.inr (.inr ⟨y, hy, hb⟩))))
          · obtain rfl := List.mem_singleton.1 hy
            exact (hS.mine (ownA 63 3 (psO ps x59) ps.length (ps.flatMap encP)) (by repeat constructor) rfl b (by rw [hb]; rfl)).symm
end Go.Proofs.Ytheofhegdjjfgaa

namespace Go.Proofs.Ytheofhegdjjfgaa
open Go.RowKit

def upTo (at_ : Int) (es : List Ent) : List Ent := es.filter fun x => decide (x.at_ ≤ at_)
/-- the postings up to an instant. -/
def postsAt (es : List Ent) (at_ : Int) : List Pst := (upTo at_ es).flatMap (·.ps)
theorem upTo_take {es : List Ent} {at_ : Int} {i : Nat} {x : Ent} (hx : es[i]? = some x) : postsAt (es.take (i + 1)) at_ = postsAt (es.take i) at_ ++ if x.at_ ≤ at_ then x.ps else [] := by
  unfold postsAt upTo
  rw [List.take_add_one, hx, List.filter_append, List.flatMap_append]
  by_cases h : x.at_ ≤ at_
  · simp [h]
  · simp [h]
theorem posts_split {es : List Ent} {at_ : Int} {i j : Nat} {x : Ent} {p : Pst} (hx : es[i]? = some x) (hle : x.at_ ≤ at_) (hp : x.ps[j]? = some p) : ∃ post, postsAt es at_ = (postsAt (es.take i) at_ ++ x.ps.take j) ++ p :: post := by
  obtain ⟨h1, h2⟩ := List.getElem?_eq_some_iff.1 hx
  obtain ⟨h3, h4⟩ := List.getElem?_eq_some_iff.1 hp
  have e1 : es = es.take i ++ x :: es.drop (i + 1) := by rw [← h2, List.getElem_cons_drop, List.take_append_drop]
  have e2 : x.ps = x.ps.take j ++ p :: x.ps.drop (j + 1) := by rw [← h4, List.getElem_cons_drop, List.take_append_drop]
  refine ⟨x.ps.drop (j + 1) ++ postsAt (es.drop (i + 1)) at_, ?_⟩
  conv => lhs; rw [e1]
  unfold postsAt upTo
  rw [List.filter_append, List.filter_cons, if_pos (by simpa using hle), List.flatMap_append, List.flatMap_cons]
  conv => lhs; rw [e2]
  simp
theorem row_getE {Γ : List Asn} {B : LB} {s : LS} {m : Bool} {g c : Nat} (hsv : s.sv = .slice (some ⟨g, 0, none⟩) s.es.length c) (hm : ledA B s m ∈ Γ) {i : Nat} {x : EA} (hx : s.es[i]? = some x) : ∀ w, Hd Γ w → ∀ j v, (encE x)[j]? = some v → w.cell? ⟨g, 0 + i * 4 + j, none⟩ = some v := fun w hh j v hj => by
  have h1 : w.ownsRow 0 58 4 s.sv s.es.length (s.es.flatMap encE) := (hh _ hm).row
  rw [hsv] at h1
  have h2 := flat_get encE 4 (fun _ => rfl) s.es i x hx j v hj
  have h3 := World.ownsRow.cells h1 (g := g) rfl _ _ h2
  rw [addr_add] at h3
  rw [← h3]; congr 2; omega
theorem ps_getE {Γ : List Asn} {B : LB} {s : LS} {m : Bool} (hm : ledA B s m ∈ Γ) {x : EA} (hx : x ∈ s.es) {j : Nat} {p : Pst} (hp : x.v.ps[j]? = some p) : ∀ w, Hd Γ w → ∀ k v, (encP p)[k]? = some v → w.cell? ⟨x.b, 0 + j * 3 + k, none⟩ = some v := fun w hh k v hk => by
  have h1 : w.ownsRow 0 63 3 (psV x) x.v.ps.length (x.v.ps.flatMap encP) := (hh _ hm).ps x hx
  have h2 := flat_get encP 3 (fun _ => rfl) x.v.ps j p hp k v hk
  have h3 := World.ownsRow.cells h1 (g := x.b) rfl _ _ h2
  rw [addr_add] at h3
  rw [← h3]; congr 2; omega

set_option maxHeartbeats 1000000 in
set_option maxRecDepth 100000 in
theorem leach_P {γ : Type} (B : LB) (s : LS) (at_ : Int) (f : FuncId) (caps : List Value) (Z : γ → Asn) (hZm : ∀ g, (Z g).mine = true) (step : γ → Pst → γ) (g0 : γ) (hf : CallsTo Try.prog f) (hes : s.es.length ≤ 1000000) (hps : ∀ x ∈ s.es, x.v.ps.length ≤ 1000000)
    (hcall : ∀ pre p post, postsAt (pl s).es at_ = pre ++ p :: post → ∀ w, (Z (pre.foldl step g0)).ok w → MutC Try.prog f ([.agg (encP p).toArray] ++ caps) w (Z (pre.foldl step g0)) (fun _ : Unit => .tuple #[]) (fun _ => Z ((pre ++ [p]).foldl step g0)))
    (w0 : World) (h : ledφ B s w0) (hz : (Z g0).ok w0) (hd : ∀ b, (Z g0).F b → ¬ ledF B s b) :
    MutC Try.prog 68 [.pointer (some ⟨B.lb, 0, none⟩), .int .i64 at_, .func (.func f) #[] caps.toArray] w0 (Z g0) (fun _ : Unit => .tuple #[]) (fun _ => Z ((postsAt (pl s).es at_).foldl step g0)) := by
  obtain ⟨qs, cs, hsv⟩ := own_slice h.row
  have hsh : s.es.length = 0 ∨ ∃ g, qs = some ⟨g, 0, none⟩ := by
    have h1 := h.row
    rw [hsv] at h1
    rcases h1.2 with ⟨e1, e2⟩ | ⟨g, cap, cur, e1, _⟩
    · exact .inl e2
    · injection e1 with e3; exact .inr ⟨g, e3⟩
  have hel : (pl s).es.length = s.es.length := by simp [pl]
  refine c_enter [(0, .pointer (some ⟨B.lb, 0, none⟩)), (1, .int .i64 at_), (2, .func (.func f) #[] caps.toArray)] [Z g0, ledA B s false] (Z g0).F Try.func68 rfl Try.ntmps68 ⟨rfl, rfl, rfl, trivial⟩ rfl (okC hz (okC (led_ok false h) okN)) (disC (sepC hd sepN) dis1) (mineO (fun _ hb => hb) (mineC rfl mineN)) ?_
  intro a hS
  refine c_seq ?_
  refine c_region ?_
  refine L_op (s_e hS (e_move rfl) rfl ?_); clear hS a; intro a hS
  refine L_op (s_e hS (e_nilCheck rfl) rfl ?_); clear hS a; intro a hS
  first | (refine L_op (s_e hS (e_fa0 rfl ty_fo129_2) rfl ?_); clear hS a; intro a hS) | (refine L_op (s_e hS (e_faK rfl ty_fo129_2) rfl ?_); clear hS a; intro a hS)
  refine L_op (s_e hS (e_loadC rfl ty_sc54 (led_cell (k := 2) (by repeat constructor) rfl)) rfl ?_); clear hS a; intro a hS
  rw [hsv] at hS
  refine L_op (s_e hS (e_len rfl rfl ty_sl54) rfl ?_); clear hS a; intro a hS
  refine L_op (s_e hS (e_move rfl) rfl ?_); clear hS a; intro a hS
  refine L_nil ?_
  refine n_then ?_
  refine wp_block ?_
  skip
  refine c_loop (γ := Nat) (fun i a w => St 35 (Z g0).F w0 a w [(15, .int .i64 (i : Int)), (14, .int .i64 (s.es.length : Int)), (13, .slice qs s.es.length cs), (1, .int .i64 at_), (2, .func (.func f) #[] caps.toArray)] [Z ((postsAt ((pl s).es.take i) at_).foldl step g0), ledA B s false] ∧ i ≤ s.es.length) (fun i => s.es.length - i) 0 ⟨(hS.slots (by repeat (first | exact trivial | refine ⟨rfl, ?_⟩))).pick (by repeat (first | exact Pick.nil | (refine Pick.cons (by repeat (first | exact Rem.head | apply Rem.tail)) ?_))), Nat.zero_le _⟩ ?_
  clear hS a; (try clear w); intro i a w hI
  obtain ⟨hS, hi⟩ := hI
  refine c_seq ?_
  refine c_region ?_
  refine L_op (s_e hS (e_bin rfl rfl rfl) rfl ?_); clear hS a; intro a hS
  refine L_nil ?_
  refine n_then ?_
  refine c_seq ?_
  first | refine c_ifD hS rfl (fun hc16 => ?_) (fun hc16 => ?_) | refine c_if hS rfl (fun hc16 => ?_) (fun hc16 => ?_)
  ·
    have hil : i < s.es.length := by omega
    obtain ⟨x, hx⟩ : ∃ x, s.es[i]? = some x := ⟨s.es[i], List.getElem?_eq_getElem hil⟩
    have hxm := List.mem_of_getElem? hx
    have hxp : (pl s).es[i]? = some x.v := by unfold pl; simp [hx]
    obtain ⟨gs, rfl⟩ : ∃ g, qs = some ⟨g, 0, none⟩ := hsh.resolve_left (by omega)
    have hpt := upTo_take (at_ := at_) hxp
    have hpl := hps x hxm
    refine wp_skip ?_
    refine n_then ?_
    refine c_seq ?_
    refine wp_block ?_
    refine c_seq ?_
    refine c_region ?_
    refine L_op (s_e hS (e_ixN rfl rfl ty_sl54 ty_sz58 (by omega)) rfl ?_); clear hS a; intro a hS
    refine L_op (s_e hS (e_loadAC (l := encE x) rfl ty_st58 ty_sz58 (row_getE hsv (by repeat constructor) hx)) rfl ?_); clear hS a; intro a hS
    refine L_op (s_alloc hS ty_z58 rfl ?_); clear hS a; (try clear w); intro a w b7 hS
    refine L_op (s_storeA hS rfl rfl ty_sz58 (by repeat constructor) (by rfl) (by rfl) (by rfl) ?_); clear hS; (try clear w); intro w hS
    refine L_nil ?_
    refine n_then ?_
    refine c_seq ?_
    refine c_seq ?_
    refine c_region ?_
    first | (refine L_op (s_e hS (e_fa0 rfl ty_fo58_1) rfl ?_); clear hS a; intro a hS) | (refine L_op (s_e hS (e_faK rfl ty_fo58_1) rfl ?_); clear hS a; intro a hS)
    refine L_op (s_e hS (e_load rfl (by repeat constructor) ty_sc3 (by rfl)) rfl ?_); clear hS a; intro a hS
    refine L_op (s_e hS (e_move rfl) rfl ?_); clear hS a; intro a hS
    refine L_op (s_e hS (e_bin rfl rfl rfl) rfl ?_); clear hS a; intro a hS
    refine L_nil ?_
    refine n_then ?_
    first | refine c_ifD hS rfl (fun hc22 => ?_) (fun hc22 => ?_) | refine c_if hS rfl (fun hc22 => ?_) (fun hc22 => ?_)
    ·
      refine wp_exit ?_
      refine x_then (x_hit ?_)
      refine n_then ?_
      refine c_region ?_
      first | (refine L_op (s_e hS (e_binN rfl rfl rfl (by omega)) rfl ?_); clear hS a; intro a hS) | (refine L_op (s_e hS (e_bin rfl rfl rfl) rfl ?_); clear hS a; intro a hS)
      refine L_op (s_e hS (e_move rfl) rfl ?_); clear hS a; intro a hS
      refine L_nil ?_
      first
      | (rw [if_neg (by omega), List.append_nil] at hpt
         rw [← hpt] at hS
         exact ⟨i + 1, by omega, (hS.slots (by repeat (first | exact trivial | refine ⟨rfl, ?_⟩))).pick (by repeat (first | exact Pick.nil | (refine Pick.cons (by repeat (first | exact Rem.head | apply Rem.tail)) ?_))), by omega⟩)
      | (rw [if_pos (by omega)] at hpt
         rw [← hpt] at hS
         exact ⟨i + 1, by omega, (hS.slots (by repeat (first | exact trivial | refine ⟨rfl, ?_⟩))).pick (by repeat (first | exact Pick.nil | (refine Pick.cons (by repeat (first | exact Rem.head | apply Rem.tail)) ?_))), by omega⟩)
    ·
      refine wp_skip ?_
      refine n_then ?_
      refine c_seq ?_
      refine c_region ?_
      first | (refine L_op (s_e hS (e_fa0 rfl ty_fo58_3) rfl ?_); clear hS a; intro a hS) | (refine L_op (s_e hS (e_faK rfl ty_fo58_3) rfl ?_); clear hS a; intro a hS)
      refine L_op (s_e hS (e_load rfl (by repeat constructor) ty_sc56 (by rfl)) rfl ?_); clear hS a; intro a hS
      refine L_op (s_e hS (e_len rfl rfl ty_sl56) rfl ?_); clear hS a; intro a hS
      refine L_op (s_e hS (e_move rfl) rfl ?_); clear hS a; intro a hS
      refine L_nil ?_
      refine n_then ?_
      refine wp_block ?_
      skip
      refine c_loop (γ := Nat) (fun j a w => St 35 (Z g0).F w0 a w [(26, .int .i64 (j : Int)), (25, .int .i64 (x.v.ps.length : Int)), (24, psV x), (15, .int .i64 (i : Int)), (14, .int .i64 (s.es.length : Int)), (13, .slice (some ⟨gs, 0, none⟩) s.es.length cs), (1, .int .i64 at_), (2, .func (.func f) #[] caps.toArray)] [Z ((postsAt ((pl s).es.take i) at_ ++ x.v.ps.take j).foldl step g0), ledA B s false] ∧ j ≤ x.v.ps.length) (fun j => x.v.ps.length - j) 0 ⟨by rw [List.take_zero, List.append_nil]; exact (hS.slots (by repeat (first | exact trivial | refine ⟨rfl, ?_⟩))).pick (by repeat (first | exact Pick.nil | (refine Pick.cons (by repeat (first | exact Rem.head | apply Rem.tail)) ?_))), Nat.zero_le _⟩ ?_
      clear hS a; (try clear w); intro j a w hI
      obtain ⟨hS, hj⟩ := hI
      refine c_seq ?_
      refine c_region ?_
      refine L_op (s_e hS (e_bin rfl rfl rfl) rfl ?_); clear hS a; intro a hS
      refine L_nil ?_
      refine n_then ?_
      refine c_seq ?_
      first | refine c_ifD hS rfl (fun hc27 => ?_) (fun hc27 => ?_) | refine c_if hS rfl (fun hc27 => ?_) (fun hc27 => ?_)
      ·
        have hjl : j < x.v.ps.length := by omega
        obtain ⟨p, hp⟩ : ∃ p, x.v.ps[j]? = some p := ⟨x.v.ps[j], List.getElem?_eq_getElem hjl⟩
        obtain ⟨post, hsp⟩ := posts_split hxp (show x.v.at_ ≤ at_ by omega) hp
        have htk : x.v.ps.take (j + 1) = x.v.ps.take j ++ [p] := by rw [List.take_add_one, hp]; rfl
        refine wp_skip ?_
        refine n_then ?_
        refine c_seq ?_
        refine wp_block ?_
        refine c_seq ?_
        refine c_region ?_
        refine L_op (s_e hS (e_ixN rfl rfl ty_sl56 ty_sz63 (by omega)) rfl ?_); clear hS a; intro a hS
        refine L_op (s_e hS (e_loadAC (l := encP p) rfl ty_st63 ty_sz63 (ps_getE (by repeat constructor) hxm hp)) rfl ?_); clear hS a; intro a hS
        refine L_op (s_alloc hS ty_z63 rfl ?_); clear hS a; (try clear w); intro a w b9 hS
        refine L_op (s_storeA hS rfl rfl ty_sz63 (by repeat constructor) (by rfl) (by rfl) (by rfl) ?_); clear hS; (try clear w); intro w hS
        refine L_nil ?_
        refine n_then ?_
        refine c_region ?_
        refine L_op (s_e hS (e_move rfl) rfl ?_); clear hS a; intro a hS
        refine L_op (s_e hS (e_loadA rfl (by repeat constructor) ty_st63 ty_sz63 (by rfl)) rfl ?_); clear hS a; intro a hS
        refine L_op (s_callvM hS rfl (.cons rfl .nil) hf rfl (hcall _ p post hsp _ (hS.ok (Z ((postsAt ((pl s).es.take i) at_ ++ x.v.ps.take j).foldl step g0)) (by repeat constructor))) (fun _ => (by repeat constructor)) (hZm _) ?_); intro x32; clear hS a; (try clear w); intro a w hS
        refine L_nil ?_
        refine n_block ?_
        refine n_then ?_
        refine c_region ?_
        first | (refine L_op (s_e hS (e_binN rfl rfl rfl (by omega)) rfl ?_); clear hS a; intro a hS) | (refine L_op (s_e hS (e_bin rfl rfl rfl) rfl ?_); clear hS a; intro a hS)
        refine L_op (s_e hS (e_move rfl) rfl ?_); clear hS a; intro a hS
        refine L_nil ?_
        exact ⟨j + 1, by omega, by rw [htk, ← List.append_assoc]; exact (hS.slots (by repeat (first | exact trivial | refine ⟨rfl, ?_⟩))).pick (by repeat (first | exact Pick.nil | (refine Pick.cons (by repeat (first | exact Rem.head | apply Rem.tail)) ?_))), by omega⟩
      ·
        obtain rfl : j = x.v.ps.length := by omega
        rw [List.take_length] at hS
        refine wp_exit ?_
        refine x_then (x_then (x_hit ?_))
        refine n_block ?_
        refine n_then ?_
        refine c_region ?_
        first | (refine L_op (s_e hS (e_binN rfl rfl rfl (by omega)) rfl ?_); clear hS a; intro a hS) | (refine L_op (s_e hS (e_bin rfl rfl rfl) rfl ?_); clear hS a; intro a hS)
        refine L_op (s_e hS (e_move rfl) rfl ?_); clear hS a; intro a hS
        refine L_nil ?_
        first
        | (rw [if_neg (by omega), List.append_nil] at hpt
           rw [← hpt] at hS
           exact ⟨i + 1, by omega, (hS.slots (by repeat (first | exact trivial | refine ⟨rfl, ?_⟩))).pick (by repeat (first | exact Pick.nil | (refine Pick.cons (by repeat (first | exact Rem.head | apply Rem.tail)) ?_))), by omega⟩)
        | (rw [if_pos (by omega)] at hpt
           rw [← hpt] at hS
           exact ⟨i + 1, by omega, (hS.slots (by repeat (first | exact trivial | refine ⟨rfl, ?_⟩))).pick (by repeat (first | exact Pick.nil | (refine Pick.cons (by repeat (first | exact Rem.head | apply Rem.tail)) ?_))), by omega⟩)
  ·
    refine wp_exit ?_
    refine x_then (x_then (x_hit ?_))
    refine r_norm ?_
    refine c_retN hS Try.results68 .nil rfl ?_
    obtain rfl : i = s.es.length := by omega
    rw [← hel, List.take_length] at hS
    exact ⟨(), rfl, hS.chg, hS.ok (Z ((postsAt (pl s).es at_).foldl step g0)) (by repeat constructor), fun b hb => (hS.mine (Z ((postsAt (pl s).es at_).foldl step g0)) (by repeat constructor) (hZm _) b hb).symm⟩
end Go.Proofs.Ytheofhegdjjfgaa

namespace Go.Proofs.Ytheofhegdjjfgaa
open Go.RowKit

def balStep (code : ByteArray) (g : SM) (p : Pst) : SM := if p.acc = code then addS g p else g
def balZ (bc bs : Nat) (code : ByteArray) (g : SM) : Asn := .any (fun k => k = bc ∨ k = bs) (fun w => w.heap[bc]? = some (.cells [Value.string code].toArray 9 (0, 0)) ∧ w.heap[bs]? = some (.cells (encSm g).toArray 136 (0, 0))) true
theorem balZ_ok {bc bs : Nat} {code : ByteArray} {g : SM} {w : World} (h1 : w.heap[bc]? = some (.cells [Value.string code].toArray 9 (0, 0))) (h2 : w.heap[bs]? = some (.cells (encSm g).toArray 136 (0, 0))) : (balZ bc bs code g).ok w := by
  refine ⟨fun k hk => ?_, fun w' hw => ⟨?_, ?_⟩⟩
  · rcases hk with rfl | rfl
    · exact (Array.getElem?_eq_some_iff.1 h1).1
    · exact (Array.getElem?_eq_some_iff.1 h2).1
  · rw [hw bc (.inl rfl)]; exact h1
  · rw [hw bs (.inr rfl)]; exact h2
set_option maxRecDepth 100000 in
theorem lBal1_P (bc bs : Nat) (code : ByteArray) (g : SM) (p : Pst) (hg : fitS g) (hp : p.fits) (hr : fitS (addS g p)) (hne : bc ≠ bs) (w0 : World) (h : (balZ bc bs code g).ok w0) :
    MutC Try.prog 69 [.agg (encP p).toArray, .pointer (some ⟨bc, 0, none⟩), .pointer (some ⟨bs, 0, none⟩)] w0 (balZ bc bs code g) (fun _ : Unit => .tuple #[]) (fun _ => balZ bc bs code (balStep code g p)) := by
  have h1 := h.now.1
  have h2 := h.now.2
  refine c_enter [(0, .agg (encP p).toArray), (1, .pointer (some ⟨bc, 0, none⟩)), (2, .pointer (some ⟨bs, 0, none⟩))] [.blk bc [.string code] 9, .blk bs (encSm g) 136] (balZ bc bs code g).F Try.func69 rfl Try.ntmps69 ⟨rfl, rfl, rfl, trivial⟩ rfl (okC (ok_blk h1) (okC (ok_blk h2) okN)) (disC (sepC (fun b e1 e2 => hne (Eq.trans (Eq.symm e1) e2)) sepN) dis1) (mineO (fun _ hb => .inl hb) (mineO (fun _ hb => .inr hb) mineN)) ?_
  intro a hS
  refine c_seq ?_
  refine c_region ?_
  refine L_op (s_boxA hS rfl rfl ?_); clear hS a; (try clear w); intro a w b3 hS
  refine L_nil ?_
  refine n_then ?_
  refine c_seq ?_
  refine c_region ?_
  first | (refine L_op (s_e hS (e_fa0 rfl ty_fo63_0) rfl ?_); clear hS a; intro a hS) | (refine L_op (s_e hS (e_faK rfl ty_fo63_0) rfl ?_); clear hS a; intro a hS)
  refine L_op (s_e hS (e_load rfl (by repeat constructor) ty_sc9 (by rfl)) rfl ?_); clear hS a; intro a hS
  refine L_op (s_e hS (e_load rfl (by repeat constructor) ty_sc9 (by rfl)) rfl ?_); clear hS a; intro a hS
  refine L_op (s_e hS (e_binS rfl rfl rfl) rfl ?_); clear hS a; intro a hS
  refine L_nil ?_
  refine n_then ?_
  first | refine c_ifD hS rfl (fun hc7 => ?_) (fun hc7 => ?_) | refine c_if hS rfl (fun hc7 => ?_) (fun hc7 => ?_)
  ·
    refine c_region ?_
    refine L_op (s_e hS (e_loadA rfl (by repeat constructor) ty_st136 ty_sz136 (by rfl)) rfl ?_); clear hS a; intro a hS
    refine L_op (s_e hS (e_loadA rfl (by repeat constructor) ty_st63 ty_sz63 (by rfl)) rfl ?_); clear hS a; intro a hS
    refine L_op (s_callP hS (.cons rfl (.cons rfl .nil)) cf70 rfl (sadd_P g p hg hp hr _) ?_); clear hS a; (try clear w); intro a w hS
    refine L_op (s_storeA hS rfl rfl ty_sz136 (by repeat constructor) (by rfl) (by rfl) (by rfl) ?_); clear hS; (try clear w); intro w hS
    refine L_nil ?_
    refine r_norm ?_
    refine c_retN hS Try.results69 .nil rfl ?_
    first
    | exact ⟨(), rfl, hS.chg, by rw [show balStep code g p = addS g p from if_pos hc7]; exact balZ_ok (hS.get (X := .blk bc [.string code] 9) (by repeat constructor)) (hS.get (X := .blk bs (encSm (addS g p)) 136) (by repeat constructor)), fun b hb => .inl hb⟩
    | exact ⟨(), rfl, hS.chg, by rw [show balStep code g p = g from if_neg hc7]; exact balZ_ok (hS.get (X := .blk bc [.string code] 9) (by repeat constructor)) (hS.get (X := .blk bs (encSm g) 136) (by repeat constructor)), fun b hb => .inl hb⟩
  ·
    refine wp_skip ?_
    refine r_norm ?_
    refine c_retN hS Try.results69 .nil rfl ?_
    first
    | exact ⟨(), rfl, hS.chg, by rw [show balStep code g p = addS g p from if_pos hc7]; exact balZ_ok (hS.get (X := .blk bc [.string code] 9) (by repeat constructor)) (hS.get (X := .blk bs (encSm (addS g p)) 136) (by repeat constructor)), fun b hb => .inl hb⟩
    | exact ⟨(), rfl, hS.chg, by rw [show balStep code g p = g from if_neg hc7]; exact balZ_ok (hS.get (X := .blk bc [.string code] 9) (by repeat constructor)) (hS.get (X := .blk bs (encSm g) 136) (by repeat constructor)), fun b hb => .inl hb⟩
structure bdS (s : SM) (n : Nat) : Prop where
  u : -(n * 9223372036854775808 : Int) ≤ s.1 ∧ s.1 ≤ n * 9223372036854775808
  f : -(n * 9223372036854775808 : Int) ≤ s.2 ∧ s.2 ≤ n * 9223372036854775808
theorem bdS_step {code : ByteArray} {g : SM} {n : Nat} {p : Pst} (h : bdS g n) (hp : p.fits) : bdS (balStep code g p) (n + 1) := by
  have hu := hp.u
  have hff := hp.f
  have h1 := h.u
  have h2 := h.f
  unfold balStep
  split
  · unfold addS; exact ⟨by simp only; omega, by simp only; omega⟩
  · exact ⟨by omega, by omega⟩
theorem bal_fold {code : ByteArray} (l : List Pst) : ∀ (g : SM) (n : Nat), (∀ p ∈ l, p.fits) → bdS g n → bdS (l.foldl (balStep code) g) (n + l.length) := by
  induction l with
  | nil => intro g n _ h; exact h
  | cons p r ih =>
    intro g n hf h
    have h2 := ih (balStep code g p) (n + 1) (fun q hq => hf q (.tail _ hq)) (bdS_step h (hf p (.head _)))
    rw [List.foldl_cons, List.length_cons, show n + (r.length + 1) = n + 1 + r.length by omega]; exact h2
theorem bdS_zero : bdS (0, 0) 0 := ⟨by simp, by simp⟩
/-- what stands in an account at an instant, however much. -/
def sumAt (P : PL) (code : ByteArray) (at_ : Int) : SM := (postsAt P.es at_).foldl (balStep code) (0, 0)
abbrev BL := ByteArray × Int × Int
def encBl (b : BL) : List Value := [.string b.1, .int .i64 b.2.1, .int .i64 b.2.2]
def noBl : BL := (⟨#[]⟩, 0, 0)
def balF (P : PL) (code : ByteArray) (at_ : Int) : BL × Int :=
  if (findA P.acs code).isSome = false then (noBl, 2) else if ¬ inst at_ then (noBl, 6) else if okS (sumAt P code at_) then ((code, (sumAt P code at_).1, (sumAt P code at_).2), 0) else (noBl, 16)
/-- every posting of a ledger's entries is one that may be. -/
structure fitL (P : PL) : Prop where
  fits : ∀ x ∈ P.es, ∀ p ∈ x.ps, p.fits
  few : P.es.length ≤ 100000
  ps : ∀ x ∈ P.es, x.ps.length ≤ 50
theorem posts_fit {P : PL} (h : fitL P) (at_ : Int) : ∀ p ∈ postsAt P.es at_, p.fits := fun p hp => by
  unfold postsAt upTo at hp
  obtain ⟨x, hx, hpx⟩ := List.mem_flatMap.1 hp
  exact h.fits x (List.mem_filter.1 hx).1 p hpx
theorem posts_len : ∀ (es : List Ent) (at_ : Int), (∀ x ∈ es, x.ps.length ≤ 50) → (postsAt es at_).length ≤ es.length * 50
  | [], _, _ => Nat.le_refl _
  | x :: r, at_, h => by
    have ih := posts_len r at_ (fun y hy => h y (.tail _ hy))
    have hx := h x (.head _)
    unfold postsAt upTo at ih ⊢
    rw [List.filter_cons]
    by_cases e : x.at_ ≤ at_
    · rw [if_pos (by simpa using e), List.flatMap_cons, List.length_append, List.length_cons]; omega
    · rw [if_neg (by simpa using e), List.length_cons]; omega
theorem sum_bd {P : PL} (h : fitL P) (code : ByteArray) (at_ : Int) : bdS (sumAt P code at_) 5000000 := by
  have h1 := bal_fold (code := code) (postsAt P.es at_) (0, 0) 0 (posts_fit h at_) bdS_zero
  have h2 := posts_len P.es at_ h.ps
  have h3 := h.few
  have h4 := h1.u
  have h5 := h1.f
  unfold sumAt
  exact ⟨by omega, by omega⟩
set_option maxHeartbeats 1000000 in
set_option maxRecDepth 100000 in
theorem lBal_P (B : LB) (s : LS) (code : ByteArray) (at_ : Int) (hfl : fitL (pl s)) (w0 : World) (h : ledφ B s w0) :
     PureC Try.prog 29 [.pointer (some ⟨B.lb, 0, none⟩), .string code, .int .i64 at_] w0 (.tuple [.agg (encBl (balF (pl s) code at_).1).toArray, .int .i64 (balF (pl s) code at_).2].toArray) := by
   have hsb := sum_bd hfl code at_
   have hes : s.es.length ≤ 100000 := by have := hfl.few; simpa [pl] using this
   have hps : ∀ x ∈ s.es, x.v.ps.length ≤ 50 := fun x hx => hfl.ps x.v (by unfold pl; exact List.mem_map.2 ⟨x, hx, rfl⟩)
   refine c_enter [(0, .pointer (some ⟨B.lb, 0, none⟩)), (1, .string code), (2, .int .i64 at_)] [ledA B s false] noB Try.func29 rfl Try.ntmps29 ⟨rfl, rfl, rfl, trivial⟩ rfl (okC (led_ok false h) okN) dis1 (mineC (by rfl) mineN) ?_
   intro a hS
   refine c_seq ?_
   refine c_region ?_
   refine L_op (s_box1 hS rfl rfl rfl ?_); clear hS a; (try clear w); intro a w b4 hS
   refine L_op (s_alloc hS ty_z60 rfl ?_); clear hS a; (try clear w); intro a w b6 hS
   refine L_op (s_e hS (e_assign rfl) rfl ?_); clear hS a; intro a hS
   refine L_nil ?_
   refine n_then ?_
   refine c_seq ?_
   refine c_seq ?_
   refine c_drawS [] (by kernel_rfl) hS (sub_cons (X := .blk b4 _ _) (by repeat constructor) (sub_cons (X := ledA B s false) (by repeat constructor) sub_nil)) ?_; clear hS; (try clear w); intro w hS
   simp only [List.length_cons, List.length_nil, Nat.zero_add, Nat.reduceAdd, List.replicate]
   refine Z_take0 (i := 0) hS rfl want_none (e_move rfl) (listed' := [true, false, false, false, false, false, false, false, false, false, false, false]) rfl (by kernel_rfl) (by kernel_rfl) (by kernel_rfl) (fun _ _ _ h => h) rfl ?_; clear hS a; intro a hS
   refine Z_take0 (i := 1) hS rfl want_none (e_nilCheck rfl) (listed' := [true, true, false, false, false, false, false, false, false, false, false, false]) rfl (by kernel_rfl) (by kernel_rfl) (by kernel_rfl) (fun _ _ _ h => h) rfl ?_; clear hS a; intro a hS
   first | (refine Z_take0 (i := 2) hS rfl want_none (e_fa0 rfl ty_fo129_1) (listed' := [true, true, true, false, false, false, false, false, false, false, false, false]) rfl (by kernel_rfl) (by kernel_rfl) (by kernel_rfl) (fun _ _ _ h => h) rfl ?_; clear hS a; intro a hS) | (refine Z_take0 (i := 2) hS rfl want_none (e_faK rfl ty_fo129_1) (listed' := [true, true, true, false, false, false, false, false, false, false, false, false]) rfl (by kernel_rfl) (by kernel_rfl) (by kernel_rfl) (fun _ _ _ h => h) rfl ?_; clear hS a; intro a hS)
   refine Z_take (i := 3) hS rfl want_none (e_loadC rfl ty_sc126 (led_cell (k := 1) (by repeat constructor) rfl)) (listed' := [true, true, true, true, false, false, false, false, false, false, false, false]) rfl (by kernel_rfl) (by kernel_rfl) (by kernel_rfl) (by kernel_rfl) (by kernel_rfl) (sub_cons (by repeat constructor) (sub_cons (by repeat constructor) sub_nil)) (fun _ _ _ h => h) rfl ?_; clear hS a; intro a hS
   refine Z_take (i := 4) hS rfl want_none (e_load rfl (by repeat constructor) ty_sc9 (by rfl)) (listed' := [true, true, true, true, true, false, false, false, false, false, false, false]) rfl (by kernel_rfl) (by kernel_rfl) (by kernel_rfl) (by kernel_rfl) (by kernel_rfl) (sub_cons (by repeat constructor) (sub_cons (by repeat constructor) sub_nil)) (fun _ _ _ h => h) rfl ?_; clear hS a; intro a hS
   refine Z_take (i := 5) hS rfl want_none (e_lookupTC rfl rfl ty_mp126 ty_u9 ty_zv68 (fun w hh => (hh (ledA B s false) (by repeat constructor)).am)) (listed' := [true, true, true, true, true, true, false, false, false, false, false, false]) rfl (by kernel_rfl) (by kernel_rfl) (by kernel_rfl) (by kernel_rfl) (by kernel_rfl) (sub_cons (by repeat constructor) (sub_cons (by repeat constructor) sub_nil)) (fun _ _ _ h => h) rfl ?_; clear hS a; intro a hS
   rw [lk_acc, has_acc] at hS
   refine Z_take0 (i := 6) hS rfl want_none (e_move rfl) (listed' := [true, true, true, true, true, true, true, false, false, false, false, false]) rfl (by kernel_rfl) (by kernel_rfl) (by kernel_rfl) (fun _ _ _ h => h) rfl ?_; clear hS a; intro a hS
   refine Z_take0 (i := 7) hS rfl want_none (e_extract rfl rfl) (listed' := [true, true, true, true, true, true, true, true, false, false, false, false]) rfl (by kernel_rfl) (by kernel_rfl) (by kernel_rfl) (fun _ _ _ h => h) rfl ?_; clear hS a; intro a hS
   refine Z_take0 (i := 8) hS rfl want_none (e_extract rfl rfl) (listed' := [true, true, true, true, true, true, true, true, true, false, false, false]) rfl (by kernel_rfl) (by kernel_rfl) (by kernel_rfl) (fun _ _ _ h => h) rfl ?_; clear hS a; intro a hS
   refine Z_one (i := 9) rfl (want_none a hS.sl) (listed' := [true, true, true, true, true, true, true, true, true, true, false, false]) rfl (by kernel_rfl) (s_alloc hS ty_z68 rfl ?_); clear hS a; (try clear w); intro a w b8 hS
   refine Z_and hS (sub_cons (by repeat constructor) (sub_cons (by repeat constructor) sub_nil)) ?_
   refine Z_one (i := 10) rfl (want_none a hS.sl) (listed' := [true, true, true, true, true, true, true, true, true, true, true, false]) rfl (by kernel_rfl) (s_storeA hS rfl rfl ty_sz68 (by repeat constructor) (by rfl) (by rfl) (by rfl) ?_); clear hS; (try clear w); intro w hS
   refine Z_and hS (sub_cons (by repeat constructor) (sub_cons (by repeat constructor) sub_nil)) ?_
   refine Z_take0 (i := 11) hS rfl want_none (e_assign rfl) (listed' := [true, true, true, true, true, true, true, true, true, true, true, true]) rfl (by kernel_rfl) (by kernel_rfl) (by kernel_rfl) (fun _ _ _ h => h) rfl ?_; clear hS a; intro a hS
   refine Z_done (by kernel_rfl) ?_
   refine n_then ?_
   refine c_seq ?_
   refine c_region ?_
   refine L_op (s_e hS (e_move rfl) rfl ?_); clear hS a; intro a hS
   refine L_op (s_e hS (e_not rfl) rfl ?_); clear hS a; intro a hS
   refine L_nil ?_
   refine n_then ?_
   first | refine c_ifD hS rfl (fun hc23 => ?_) (fun hc23 => ?_) | refine c_if hS rfl (fun hc23 => ?_) (fun hc23 => ?_)
   ·
     refine c_seq ?_
     refine c_region ?_
     refine L_op (s_e hS (e_build ty_z60 ty_pl60 .nil) rfl ?_); clear hS a; intro a hS
     refine L_op (s_storeA hS rfl rfl ty_sz60 (by repeat constructor) (by rfl) (by rfl) (by rfl) ?_); clear hS; (try clear w); intro w hS
     refine L_op (s_e hS (e_assign rfl) rfl ?_); clear hS a; intro a hS
     refine L_nil ?_
     refine n_then ?_
     refine wp_ret ?_
     refine r_then ?_
     refine c_retN hS Try.results29 (.cons (.cellA rfl (by repeat constructor) ty_st60 ty_sz60 (by rfl)) (.cons (.tmp rfl) .nil)) rfl ?_
     have hE : balF (pl s) code at_ = (noBl, 2) := if_pos (by simpa using hc23 : (findA s.acs code).isSome = false)
     exact ⟨by rw [hE]; rfl, hS.chg⟩
   ·
     have h1 : ¬ (findA (pl s).acs code).isSome = false := by
       have : (findA s.acs code).isSome = true := by simpa using hc23
       show ¬ (findA s.acs code).isSome = false
       rw [this]; decide
     refine wp_skip ?_
     refine n_then ?_
     refine c_seq ?_
     refine c_seq ?_
     refine c_region ?_
     refine L_op (s_e hS (e_move rfl) rfl ?_); clear hS a; intro a hS
     refine L_op (s_callP hS (.cons rfl .nil) cf67 rfl (linst_P at_ _) ?_); clear hS a; (try clear w); intro a w hS
     refine L_op (s_e hS (e_not rfl) rfl ?_); clear hS a; intro a hS
     refine L_nil ?_
     refine n_then ?_
     first | refine c_ifD hS rfl (fun hc27 => ?_) (fun hc27 => ?_) | refine c_if hS rfl (fun hc27 => ?_) (fun hc27 => ?_)
     ·
       refine c_seq ?_
       refine c_region ?_
       refine L_op (s_e hS (e_build ty_z60 ty_pl60 .nil) rfl ?_); clear hS a; intro a hS
       refine L_op (s_storeA hS rfl rfl ty_sz60 (by repeat constructor) (by rfl) (by rfl) (by rfl) ?_); clear hS; (try clear w); intro w hS
       refine L_op (s_e hS (e_assign rfl) rfl ?_); clear hS a; intro a hS
       refine L_nil ?_
       refine n_then ?_
       refine wp_ret ?_
       refine r_then ?_
       refine c_retN hS Try.results29 (.cons (.cellA rfl (by repeat constructor) ty_st60 ty_sz60 (by rfl)) (.cons (.tmp rfl) .nil)) rfl ?_
       have hE : balF (pl s) code at_ = (noBl, 6) := by unfold balF; rw [if_neg h1, if_pos (by simpa using hc27)]
       exact ⟨by rw [hE]; rfl, hS.chg⟩
     ·
       have h2 : ¬ ¬ inst at_ := by simpa using hc27
       refine wp_skip ?_
       refine n_then ?_
       refine c_seq ?_
       refine c_region ?_
       refine L_op (s_alloc hS ty_z136 rfl ?_); clear hS a; (try clear w); intro a w b10 hS
       refine L_nil ?_
       refine n_then ?_
       refine c_seq ?_
       have hne : b4 ≠ b10 := fun e => hS.sep (X := .blk b10 [.int .u64 0, .int .u64 0, .int .u64 0, .int .u64 0] 136) (Y := .blk b4 [.string code] 9) (by repeat (first | exact Rem.head | apply Rem.tail)) (by repeat constructor) b10 rfl e.symm
       replace hS := hS.join (Y := .blk b4 [.string code] 9) (Z := balZ b4 b10 code (0, 0)) (by repeat constructor) (balZ_ok (hS.get (X := .blk b4 [.string code] 9) (by repeat constructor)) (by rw [encSm_zero]; exact hS.get (X := .blk b10 [.int .u64 0, .int .u64 0, .int .u64 0, .int .u64 0] 136) (by repeat constructor))) (fun b hb => hb.symm) (fun _ => ⟨rfl, rfl⟩)
       refine c_region ?_
       refine L_op (s_e hS (e_move rfl) rfl ?_); clear hS a; intro a hS
       refine L_op (s_e hS (e_move rfl) rfl ?_); clear hS a; intro a hS
       refine L_op (s_e hS (e_makeFunc .nil (.cons rfl (.cons rfl .nil))) rfl ?_); clear hS a; intro a hS
       refine L_op (s_callM hS (.cons rfl (.cons rfl (.cons rfl .nil))) cf68 rfl (leach_P B s at_ 69 [.pointer (some ⟨b4, 0, none⟩), .pointer (some ⟨b10, 0, none⟩)] (balZ b4 b10 code) (fun _ => rfl) (balStep code) (0, 0) cf69 (by omega) (fun x hx => by have := hps x hx; omega) (fun pre p post hsp w hok => by
 have hm : p ∈ postsAt (pl s).es at_ := by rw [hsp]; simp
 have hpf := posts_fit hfl at_ p hm
 have hpre : ∀ q ∈ pre, q.fits := fun q hq => posts_fit hfl at_ q (by rw [hsp]; simp [hq])
 have hb := bal_fold (code := code) pre (0, 0) 0 hpre bdS_zero
 have hl := posts_len (pl s).es at_ hfl.ps
 have hfw := hfl.few
 rw [hsp, List.length_append, List.length_cons] at hl
 have hu := hpf.u
 have hff := hpf.f
 have hb1 := hb.u
 have hb2 := hb.f
 have e : (pre ++ [p]).foldl (balStep code) (0, 0) = balStep code (pre.foldl (balStep code) (0, 0)) p := by rw [List.foldl_append]; rfl
 rw [e]
 exact lBal1_P b4 b10 code _ p (by unfold fitS Wd.fit; omega) hpf (by unfold fitS addS Wd.fit; simp only; omega) hne w hok) _ (hS.get (X := ledA B s false) (by repeat constructor)) (hS.ok (balZ b4 b10 code (0, 0)) (by repeat constructor)) (fun b hb hl => hS.sep (X := balZ b4 b10 code (0, 0)) (Y := ledA B s false) (by repeat (first | exact Rem.head | apply Rem.tail)) (by repeat constructor) b hb hl)) (fun x => (by repeat constructor)) rfl ?_); clear hS a; (try clear w); intro x32 a w hS
       refine L_nil ?_
       refine n_then ?_
       refine c_seq ?_
       refine c_region ?_
       refine L_op (s_e hS (e_loadAC (l := encSm (sumAt (pl s) code at_)) rfl ty_st136 ty_sz136 (fun w hh j v hj => cell_of_blk (hh (balZ b4 b10 code (sumAt (pl s) code at_)) (by repeat constructor)).2 (by rw [Nat.zero_add]; exact hj))) rfl ?_); clear hS a; intro a hS
       refine L_op (s_e hS (e_loadC rfl ty_sc9 (fun w hh => cell_of_blk (cs := [.string code]) (hh (balZ b4 b10 code (sumAt (pl s) code at_)) (by repeat constructor)).1 rfl)) rfl ?_); clear hS a; intro a hS
       refine L_op (s_callP hS (.cons rfl (.cons rfl .nil)) cf71 rfl (sbal_P (sumAt (pl s) code at_) code (by have a1 := hsb.u; have a2 := hsb.f; unfold fitS Wd.fit; omega) _) ?_); clear hS a; (try clear w); intro a w hS
       refine L_op (s_e hS (e_move rfl) rfl ?_); clear hS a; intro a hS
       refine L_op (s_e hS (e_extract rfl rfl) rfl ?_); clear hS a; intro a hS
       refine L_op (s_e hS (e_extract rfl rfl) rfl ?_); clear hS a; intro a hS
       refine L_op (s_alloc hS ty_z60 rfl ?_); clear hS a; (try clear w); intro a w b11 hS
       refine L_op (s_storeA hS rfl rfl ty_sz60 (by repeat constructor) (by rfl) (by rfl) (by rfl) ?_); clear hS; (try clear w); intro w hS
       refine L_op (s_e hS (e_assign rfl) rfl ?_); clear hS a; intro a hS
       refine L_nil ?_
       refine n_then ?_
       refine c_seq ?_
       refine c_seq ?_
       refine c_region ?_
       refine L_op (s_e hS (e_move rfl) rfl ?_); clear hS a; intro a hS
       refine L_op (s_e hS (e_not rfl) rfl ?_); clear hS a; intro a hS
       refine L_nil ?_
       refine n_then ?_
       first | refine c_ifD hS rfl (fun hc40 => ?_) (fun hc40 => ?_) | refine c_if hS rfl (fun hc40 => ?_) (fun hc40 => ?_)
       ·
         refine c_seq ?_
         refine c_region ?_
         refine L_op (s_e hS (e_build ty_z60 ty_pl60 .nil) rfl ?_); clear hS a; intro a hS
         refine L_op (s_storeA hS rfl rfl ty_sz60 (by repeat constructor) (by rfl) (by rfl) (by rfl) ?_); clear hS; (try clear w); intro w hS
         refine L_op (s_e hS (e_assign rfl) rfl ?_); clear hS a; intro a hS
         refine L_nil ?_
         refine n_then ?_
         refine wp_ret ?_
         refine r_then ?_
         refine c_retN hS Try.results29 (.cons (.cellA rfl (by repeat constructor) ty_st60 ty_sz60 (by rfl)) (.cons (.tmp rfl) .nil)) rfl ?_
         have hn : ¬ okS (sumAt (pl s) code at_) := fun e => by
           have e2 : decide (inU (sumAt (pl s) code at_).1 ∧ inU (sumAt (pl s) code at_).2) = true := decide_eq_true e
           rw [e2] at hc40; cases hc40
         have hE : balF (pl s) code at_ = (noBl, 16) := by unfold balF; rw [if_neg h1, if_neg h2, if_neg hn]
         exact ⟨by rw [hE]; rfl, hS.chg⟩
       ·
         refine wp_skip ?_
         refine n_then ?_
         refine c_seq ?_
         refine c_region ?_
         refine L_op (s_e hS (e_loadA rfl (by repeat constructor) ty_st60 ty_sz60 (by rfl)) rfl ?_); clear hS a; intro a hS
         refine L_op (s_storeA hS rfl rfl ty_sz60 (by repeat constructor) (by rfl) (by rfl) (by rfl) ?_); clear hS; (try clear w); intro w hS
         refine L_op (s_e hS (e_assign rfl) rfl ?_); clear hS a; intro a hS
         refine L_nil ?_
         refine n_then ?_
         refine wp_ret ?_
         refine c_retN hS Try.results29 (.cons (.cellA rfl (by repeat constructor) ty_st60 ty_sz60 (by rfl)) (.cons (.tmp rfl) .nil)) rfl ?_
         have hy : okS (sumAt (pl s) code at_) := by
           have e2 : decide (inU (sumAt (pl s) code at_).1 ∧ inU (sumAt (pl s) code at_).2) = true := by simpa using hc40
           exact of_decide_eq_true e2
         have hE : balF (pl s) code at_ = ((code, (sumAt (pl s) code at_).1, (sumAt (pl s) code at_).2), 0) := by unfold balF; rw [if_neg h1, if_neg h2, if_pos hy]
         exact ⟨by rw [hE, show balV (sumAt (pl s) code at_) = sumAt (pl s) code at_ from if_pos hy]; rfl, hS.chg⟩
end Go.Proofs.Ytheofhegdjjfgaa

namespace Go.Proofs.Ytheofhegdjjfgaa
open Go.RowKit

def strA (v : Value) (xs : List ByteArray) : Asn := ownA 9 1 v xs.length (xs.map .string)
theorem owns_keepK {w w' : World} {E s : Nat} {v : Value} {m : Nat} {xs : List Value} (h : w.ownsRow 0 E s v m xs) (hw : ∀ b, v.ownBlock = some b → w'.heap[b]? = w.heap[b]?) : w'.ownsRow 0 E s v m xs :=
  (ok_own h).hold w' hw
/-- what holds between two rounds. -/
structure apI (w0 : World) (bx hi : Nat) (xs : List ByteArray) (W : World) : Prop where
  chg : Chg noB w0 W
  row : ∃ v, W.heap[bx]? = some (.cells [v].toArray 142 (0, 0)) ∧ W.ownsRow 0 9 1 v xs.length (xs.map .string) ∧ ∀ k, v.ownBlock = some k → hi ≤ k
theorem apI_ab {w0 : World} {bx B hi : Nat} (hB : w0.heap.size ≤ B) (h2 : bx < B) : AbR B hi (apI w0 bx hi) := fun _ _ _ h e1 e2 e3 e4 e5 => by
  obtain ⟨v, q1, q2, q3⟩ := h.row
  have hs := h.chg.size
  refine ⟨⟨e1.trans h.chg.os, e2.trans h.chg.tape, e3.trans h.chg.output, Nat.le_trans hs e4, fun k hk hn => (e5 k (by omega) (.inl (by omega))).trans (h.chg.block k hk hn)⟩, v, ?_, ?_, q3⟩
  · exact (e5 bx (Array.getElem?_eq_some_iff.1 q1).1 (.inl h2)).trans q1
  · exact owns_keepK q2 (fun k hk => e5 k (World.ownsRow.lt q2 k hk).2 (.inr (q3 k hk)))
theorem chg_roundK {w0 W W1 W2 W3 : World} {B : Nat} {F : Nat → Prop} (h : Chg noB w0 W) (hB : w0.heap.size ≤ B) (h1 : Chg noB W W1) (hT : Turn (B + 1) W1 W2) (h3 : Chg F W2 W3) (hF : ∀ k, F k → w0.heap.size ≤ k) : Chg noB w0 W3 := by
  refine ⟨h3.os.trans (hT.os.trans (h1.os.trans h.os)), h3.tape.trans (hT.tape.trans (h1.tape.trans h.tape)), h3.output.trans (hT.output.trans (h1.output.trans h.output)), ?_, fun k hk _ => ?_⟩
  · have := h.size; have := h1.size; have := hT.size; have := h3.size; omega
  · have e1 := h.block k hk (fun hf => hf)
    have e2 := h1.block k (by have := h.size; omega) (fun hf => hf)
    have e3 := hT.same k (by omega)
    have e4 := h3.block k (by have := h.size; have := h1.size; have := hT.size; omega) (fun hf => by have := hF k hf; omega)
    exact e4.trans (e3.trans (e2.trans e1))

set_option maxRecDepth 100000 in
theorem AppendSeq_P {gf : Nat} {lb : Array Value} (eg : CallsTo Try.prog gf) {S Sp : List ByteArray → Prop} {N : Nat} (hN : N ≤ 1000000) (X : Asn) (hXm : X.mine = false) (hseq : SeqD Try.prog gf lb keyV S Sp N X.φ) (w0 : World) (hX : X.ok w0) :
    NewC Try.prog 115 [.slice none 0 0, .func (.func gf) #[] lb] w0 (fun y : { y : Value × List ByteArray // S y.2 } => y.1.1) (fun y => strA y.1.1 y.1.2) := by
  refine callsM_enter [(0, .slice none 0 0), (1, .func (.func gf) #[] lb)] [X] noB Try.func115 rfl Try.ntmps115 ⟨rfl, rfl, trivial⟩ rfl (okC (hX) okN) dis1 (mineC hXm mineN) ?_
  intro a hS
  refine R_seq ?_
  refine R_region ?_
  refine R_op rfl (s_box1 hS rfl rfl rfl ?_); clear hS a; (try clear w); intro a w b2 hS
  refine R_op rfl (s_e hS (e_assign rfl) rfl ?_); clear hS a; intro a hS
  refine R_nil ?_
  refine n_then ?_
  refine R_seq ?_
  refine R_seq ?_
  refine R_region ?_
  refine R_op rfl (s_e hS (e_move rfl) rfl ?_); clear hS a; intro a hS
  refine R_nil ?_
  refine n_then ?_
  refine R_block ?_
  obtain ⟨B, hB⟩ : ∃ B, w.heap.size = B := ⟨_, rfl⟩
  have g2 := hS.get (X := .blk b2 [.slice none 0 0] 142) (by repeat constructor)
  have l2 : b2 < B := by rw [← hB]; exact (Array.getElem?_eq_some_iff.1 g2).1
  have m2 : w0.heap.size ≤ b2 := (hS.mine (.blk b2 [.slice none 0 0] 142) (by repeat constructor) rfl b2 rfl).resolve_right (fun h => h)
  have hB0 : w0.heap.size ≤ B := by rw [← hB]; exact hS.chg.size
  refine rangeFunc_D2 (α := ByteArray) hB (hS.sl.ev rfl) eg hseq (fun _ => rfl) (apI w0 b2) (fun _ _ _ _ => False) (fun hi hh => apI_ab hB0 l2) (fun _ _ _ _ _ _ h => h.elim)
    (fun hi pre W h => hX.hold W (fun b hb => h.chg.block b (hX.lt b hb) (fun e => e))) (fun hi hh => ⟨hS.chg, .slice none 0 0, g2, World.ownsRow_nil _ _ _ _, fun k hk => (by cases hk)⟩) ?_ ?_ ?_
  · intro hi l pre x W hh hhW hI hlen
    obtain ⟨v, q1, q2, q3⟩ := hI.row
    have hR : St 13 noB W (a.put (some 7) (.string x)) W [(7, .string x), (2, .pointer (some ⟨b2, 0, none⟩))] [] :=
      ⟨(hS.sl.put rfl _).sub (by repeat (first | exact trivial | refine ⟨rfl, ?_⟩)), Chg.refl _ _, okN, disN, mineN⟩
    have hact : ({ tmps := (#[7].zip (keyV x)).foldl (fun t (p, v) => t.setIfInBounds p v) a.tmps, defers := [] } : Act) = a.put (some 7) (.string x) := by
      simp [Act.put, hS.sl.defers, keyV]
    rw [hact]
    clear hS hact g2 hB
    generalize a.put (some 7) (.string x) = a2 at hR ⊢
    clear a; rename Act => a
    clear w
    have hS := hR
    clear hR
    refine R_region ?_
    refine R_op rfl (s_e hS (e_assign rfl) rfl ?_); clear hS a; intro a hS
    refine R_nil ?_
    refine n_then ?_
    have hCW := hS.chg
    have hC1 := hCW.size
    refine ⟨⟨hC1, fun k h1 h2 => hCW.block k (by omega) (fun h => h)⟩, fun W2 hT => ?_⟩
    have hT1 := hT.size
    have hlow : ∀ k, k < W.heap.size → (k < B ∨ hi ≤ k) → W2.heap[k]? = W.heap[k]? := fun k hk hk2 => (hT.same k (by omega)).trans (hCW.block k hk (fun h => h))
    have hR : St 13 (fun k => k = b2 ∨ v.ownBlock = some k) W2 a W2 [(5, .string x), (2, .pointer (some ⟨b2, 0, none⟩))] [.blk b2 [v] 142, ownA 9 1 v pre.length (pre.map .string)] :=
      ⟨hS.sl.sub (by repeat (first | exact trivial | refine ⟨rfl, ?_⟩)), Chg.refl _ _, okC (ok_blk ((hlow b2 (by omega) (.inl l2)).trans q1)) (okC (ok_own (owns_keepK q2 (fun k hk => hlow k (World.ownsRow.lt q2 k hk).2 (.inr (q3 k hk))))) okN),
       disC (sepC (fun b h1 h2 => by have h1 : b = b2 := h1; have := q3 b h2; omega) sepN) dis1, mineO (fun b hb => .inl hb) (mineO (fun b hb => .inr hb) mineN)⟩
    clear hS
    have hS := hR
    clear hR
    refine R_block ?_
    refine R_region ?_
    refine R_op rfl (s_e hS (e_load rfl (by repeat constructor) ty_sc142 (by rfl)) rfl ?_); clear hS a; intro a hS
    refine R_op rfl (s_e hS (e_move rfl) rfl ?_); clear hS a; intro a hS
    refine R_op rfl (s_bslice hS ty_sl142 ty_sz9 ty_z9 rfl rfl rfl rfl (.one rfl rfl rfl .nil) rfl ?_); clear hS a; (try clear w); intro a w b10 hS
    refine R_op rfl (s_append1 hS rfl rfl ty_sl142 ty_sz9 ty_by9 ty_z9 rfl rfl rfl (by repeat constructor) (by repeat constructor) (by rfl) (by rfl) (fun _ => (by repeat constructor)) (by omega) ?_); clear hS a; (try clear w); intro v11 a w hv11 hS
    obtain ⟨q11, c11, rfl⟩ := own_slice (hS.get (X := ownA 9 1 v11 (pre.length + 1) (pre.map .string ++ [.string x])) (by repeat constructor))
    refine R_op rfl (s_store hS rfl rfl rfl ty_sz142 (by repeat constructor) (by repeat constructor) ?_); clear hS; (try clear w); intro w hS
    refine R_nil ?_
    refine n_block ?_
    have hC2 := hS.chg
    have hnew : ∀ k, (Value.slice q11 (pre.length + 1) c11).ownBlock = some k → hi ≤ k := fun k hk => by
      rcases hS.mine (ownA 9 1 (.slice q11 (pre.length + 1) c11) (pre.length + 1) (pre.map Value.string ++ [Value.string x])) (by repeat constructor) rfl k hk with h | h | h
      · omega
      · exact absurd h.symm (fun e => hS.sep (X := ownA 9 1 (.slice q11 (pre.length + 1) c11) (pre.length + 1) (pre.map Value.string ++ [Value.string x])) (Y := .blk b2 [(.slice q11 (pre.length + 1) c11)] 142) (by repeat (first | exact Rem.head | apply Rem.tail)) (by repeat constructor) k hk e.symm)
      · exact q3 k h
    have hrow : World.ownsRow w 0 9 1 (.slice q11 (pre.length + 1) c11) (pre.length + 1) (pre.map Value.string ++ [Value.string x]) := hS.get (X := ownA 9 1 (.slice q11 (pre.length + 1) c11) (pre.length + 1) (pre.map Value.string ++ [Value.string x])) (by repeat constructor)
    refine ⟨⟨hC2.size, fun k h1 h2 => hC2.block k (by omega) (fun h => h.elim (fun h => by omega) (fun h => by have := q3 k h; omega))⟩, ⟨chg_roundK hI.chg hB0 hCW hT hC2 (fun k h => h.elim (fun h => by omega) (fun h => by have := q3 k h; omega)), (.slice q11 (pre.length + 1) c11), hS.get (X := .blk b2 [(.slice q11 (pre.length + 1) c11)] 142) (by repeat constructor), by simpa using hrow, hnew⟩⟩
  · intro hi D xs W hh hBD hDh hxs hI hDc
    obtain ⟨v, q1, q2, q3⟩ := hI.row
    have hd : St 13 noB w0 a W [(2, .pointer (some ⟨b2, 0, none⟩))] [.blk b2 [v] 142, strA v xs] :=
      ⟨hS.sl.sub (by repeat (first | exact trivial | refine ⟨rfl, ?_⟩)), hI.chg, okC (ok_blk q1) (okC (ok_own q2) okN), disC (sepC (fun b h1 h2 => by have h1 : b = b2 := h1; have := q3 b h2; omega) sepN) dis1, fun X hX _ k hk => .inl (by
        rcases List.mem_cons.1 hX with rfl | hX
        · have : k = b2 := hk; omega
        · obtain rfl := List.mem_singleton.1 hX; have := q3 k hk; omega)⟩
    clear hS
    refine n_block ?_
    refine n_then ?_
    refine R_seq ?_
    refine R_region ?_
    obtain ⟨p1, c1, rfl⟩ := own_slice q2
    rw [hd.sl.defers]
    refine R_op rfl (s_eD hd (e_loadC rfl ty_sc142 (fun w hh => cell_of_blk (cs := [.slice p1 xs.length c1]) (hh (.blk b2 [.slice p1 xs.length c1] 142) (by repeat constructor)) rfl)) rfl ?_); clear hd a; intro a hd
    refine R_op rfl (s_eD hd (e_assign rfl) rfl ?_); clear hd a; intro a hd
    refine R_nil ?_
    refine n_then ?_
    refine R_ret ?_
    have hd3 := hd.putD (D := D) (o := .deferred none) (by omega) (fun X hX k hk => by
      rcases List.mem_cons.1 hX with rfl | hX
      · have : k = b2 := hk; omega
      · obtain rfl := List.mem_singleton.1 hX; have := q3 k hk; omega)
    exact end1 hd3 (.inl rfl) hDc Try.results115 (.cons (.tmp rfl) .nil) ⟨⟨(.slice p1 xs.length c1, xs), hxs⟩, rfl, hd3.chg, hd3.new (X := strA (.slice p1 xs.length c1) xs) (by repeat constructor) rfl⟩
  · intro hi D c pre W _ _ _ _ hF; exact hF.elim
end Go.Proofs.Ytheofhegdjjfgaa

namespace Go.Proofs.Ytheofhegdjjfgaa
open Go.RowKit

def bytesL (xs : List ByteArray) : List (List UInt8) := xs.map (·.data.toList)
/-- texts in order. -/
def srt (xs : List ByteArray) : List ByteArray := ((bytesL xs).mergeSort fun x y => decide (x ≤ y)).map fun l => ⟨l.toArray⟩
theorem srt_len (xs : List ByteArray) : (srt xs).length = xs.length := by simp [srt, bytesL]
theorem srt_perm {xs ys : List ByteArray} (h : xs.Perm ys) : srt xs = srt ys := by
  unfold srt
  have h2 : (bytesL xs).Perm (bytesL ys) := h.map _
  have h3 := Go.mergeSort_of_perm h2
  exact congrArg (List.map fun l => (⟨l.toArray⟩ : ByteArray)) h3
theorem encStr_map (xs : List ByteArray) : (bytesL xs).map encStr = xs.map Value.string := by
  unfold bytesL
  rw [List.map_map]
  apply List.map_congr_left
  intro x _
  show Value.string ⟨x.data.toList.toArray⟩ = _
  simp
theorem SortS_P (v : Value) (xs : List ByteArray) (hx : xs.length ≤ 1000000) (w0 : World) (h : w0.ownsRow 0 9 1 v xs.length (xs.map .string)) :
    MutC Try.prog 100 [v] w0 (strA v xs) (fun _ : Unit => .tuple #[]) (fun _ => strA v (srt xs)) := by
  have hl : (bytesL xs).length = xs.length := by simp [bytesL]
  rcases h.2 with ⟨rfl, h0⟩ | ⟨g, cap, cur, rfl, hbase, hb, h1, h2, h3, h4⟩
  · obtain rfl : xs = [] := List.eq_nil_of_length_eq_zero h0
    refine (Try.slices_Sort_string_none none 0 w0).mono fun e w' ⟨he, hw⟩ => ?_
    subst hw
    exact ⟨(), he, Chg.refl _ _, (by have e : srt [] = [] := List.eq_nil_of_length_eq_zero (srt_len []); rw [e]; exact ok_own (World.ownsRow_nil _ _ _ _)), fun b hb => (by cases hb)⟩
  · have hH := Go.holds_of_block (ss := bytesL xs) hb (by rw [hl, encStr_map]; simpa using h4)
    have hc := Try.slices_Sort_string g 0 cap (bytesL xs) w0 hH (Array.getElem?_eq_some_iff.1 hb).1 (by omega)
    rw [hl] at hc
    refine hc.mono fun e w' ⟨he, n, os, hw⟩ => ?_
    have hgb : w0.grownBy w' (some g) := by rw [hw]; exact Go.grownBy_sorted _
    have hrow := Go.ownsRow_sorted (n := n) (os := os) (ss := bytesL xs) (ts := (bytesL xs).mergeSort fun x y => decide (x ≤ y)) (by simp) hbase hb (by omega) h2 h3
    rw [← hw, hl] at hrow
    have hsm : ((bytesL xs).mergeSort fun x y => decide (x ≤ y)).map encStr = (srt xs).map Value.string := by unfold srt; rw [List.map_map]; rfl
    rw [hsm] at hrow
    refine ⟨(), he, ?_, ?_, fun b hb2 => .inl hb2⟩
    · exact ⟨hgb.os, hgb.tape, hgb.output, hgb.size, fun k hk hn => hgb.block k hk (fun e => hn (congrArg some (Option.some.inj e).symm))⟩
    · have e1 := srt_len xs
      refine ok_own ?_
      rw [e1]; exact hrow

set_option maxRecDepth 100000 in
theorem CollectS_P {gf : Nat} {lb : Array Value} (eg : CallsTo Try.prog gf) {S Sp : List ByteArray → Prop} {N : Nat} (hN : N ≤ 1000000) (X : Asn) (hXm : X.mine = false) (hseq : SeqD Try.prog gf lb keyV S Sp N X.φ) (w0 : World) (hX : X.ok w0) :
    NewC Try.prog 99 [.func (.func gf) #[] lb] w0 (fun y : { y : Value × List ByteArray // S y.2 } => y.1.1) (fun y => strA y.1.1 y.1.2) := by
  refine c_enter [(0, .func (.func gf) #[] lb)] [X] noB Try.func99 rfl Try.ntmps99 ⟨rfl, trivial⟩ rfl (okC (hX) okN) dis1 (mineC hXm mineN) ?_
  intro a hS
  refine c_seq ?_
  refine c_region ?_
  refine L_op (s_e hS (e_assign rfl) rfl ?_); clear hS a; intro a hS
  refine L_nil ?_
  refine n_then ?_
  refine c_seq ?_
  refine c_region ?_
  refine L_op (s_e hS (e_move rfl) rfl ?_); clear hS a; intro a hS
  refine L_op (s_callN hS (.cons rfl (.cons rfl .nil)) cf115 rfl (AppendSeq_P eg hN X hXm hseq _ (hS.ok X (by repeat constructor))) ?_); clear hS a; (try clear w); intro x4 a w hS
  refine L_op (s_e hS (e_assign rfl) rfl ?_); clear hS a; intro a hS
  refine L_nil ?_
  refine n_then ?_
  refine wp_ret ?_
  refine c_ret1 hS Try.results99 (.tmp rfl) ?_
  exact ⟨x4, rfl, hS.chg, hS.new (X := strA x4.1.1 x4.1.2) (by repeat constructor) rfl⟩
set_option maxRecDepth 100000 in
/-- slices.Sorted over an iterator of texts. -/
theorem SortedS_P {gf : Nat} {lb : Array Value} (eg : CallsTo Try.prog gf) {S Sp : List ByteArray → Prop} {N : Nat} (hN : N ≤ 1000000) (hSN : ∀ xs, S xs → xs.length ≤ N) (X : Asn) (hXm : X.mine = false) (hseq : SeqD Try.prog gf lb keyV S Sp N X.φ) (w0 : World) (hX : X.ok w0) :
    NewC Try.prog 72 [.func (.func gf) #[] lb] w0 (fun y : { y : Value × List ByteArray // ∃ xs, S xs ∧ y.2 = srt xs } => y.1.1) (fun y => strA y.1.1 y.1.2) := by
  refine c_enter [(0, .func (.func gf) #[] lb)] [X] noB Try.func72 rfl Try.ntmps72 ⟨rfl, trivial⟩ rfl (okC (hX) okN) dis1 (mineC hXm mineN) ?_
  intro a hS
  refine c_seq ?_
  refine c_region ?_
  refine L_op (s_e hS (e_assign rfl) rfl ?_); clear hS a; intro a hS
  refine L_nil ?_
  refine n_then ?_
  refine c_seq ?_
  refine c_region ?_
  refine L_op (s_e hS (e_move rfl) rfl ?_); clear hS a; intro a hS
  refine L_op (s_callN hS (.cons rfl .nil) cf99 rfl (CollectS_P eg hN X hXm hseq _ (hS.ok X (by repeat constructor))) ?_); clear hS a; (try clear w); intro x5 a w hS
  obtain ⟨⟨v5, xs5⟩, hs5⟩ := x5
  simp only at hs5 hS
  have hn5 := hSN _ hs5
  refine L_op (s_e hS (e_assign rfl) rfl ?_); clear hS a; intro a hS
  refine L_nil ?_
  refine n_then ?_
  refine c_seq ?_
  refine c_region ?_
  refine L_op (s_e hS (e_move rfl) rfl ?_); clear hS a; intro a hS
  refine L_op (s_callM hS (.cons rfl .nil) cf100 rfl (SortS_P v5 xs5 (by omega) _ (hS.get (X := strA v5 xs5) (by repeat constructor))) (fun x => (by repeat constructor)) rfl ?_); clear hS a; (try clear w); intro x7 a w hS
  refine L_nil ?_
  refine n_then ?_
  refine c_seq ?_
  refine c_region ?_
  refine L_op (s_e hS (e_move rfl) rfl ?_); clear hS a; intro a hS
  refine L_op (s_e hS (e_assign rfl) rfl ?_); clear hS a; intro a hS
  refine L_nil ?_
  refine n_then ?_
  refine wp_ret ?_
  refine c_ret1 hS Try.results72 (.tmp rfl) ?_
  exact ⟨⟨(v5, srt xs5), xs5, hs5, rfl⟩, rfl, hS.chg, hS.new (X := strA v5 (srt xs5)) (by repeat constructor) rfl⟩
end Go.Proofs.Ytheofhegdjjfgaa

namespace Go.Proofs.Ytheofhegdjjfgaa
open Go.RowKit

set_option maxRecDepth 100000 in
theorem Keys_Led_seq (b m : Nat) (l : List (ByteArray × Value)) : SeqD Try.prog 101 #[.pointer (some ⟨b, 0, none⟩)] keyV (fun xs => xs.Perm (keysM l)) (fun _ => True) l.length (keysK b m 126 l) := by
  intro ly J Jx W hK hJ hJx hY h0
  have hk0 := hK _ _ _ (h0 W.heap.size (Nat.le_refl _))
  have hbW : b < W.heap.size := (Array.getElem?_eq_some_iff.1 hk0.box).1
  have hmW : m < W.heap.size := (Array.getElem?_eq_some_iff.1 hk0.mp).1
  rw [show (#[Value.func (.yield ly) #[] #[]] ++ #[Value.pointer (some ⟨b, 0, none⟩)] : Array Value) = [Value.func (.yield ly) #[] #[], Value.pointer (some ⟨b, 0, none⟩)].toArray from rfl]
  refine callsIn_enter [(0, .func (.yield ly) #[] #[]), (1, .pointer (some ⟨b, 0, none⟩))] [keysA b m 126 l] noB Try.func101 rfl Try.ntmps101 ⟨rfl, rfl, trivial⟩ rfl (okC (keys_ok hk0) okN) dis1 (mineC (by rfl) mineN) ?_
  intro a hS
  refine R_seq ?_
  refine R_region ?_
  refine R_op rfl (s_e hS (e_loadC rfl ty_sc126 (fun w hh => cell_of_blk (cs := [.map (some m)]) (hh (keysA b m 126 l) (by repeat constructor)).box rfl)) rfl ?_); clear hS a; intro a hS
  refine R_op rfl (s_rangeM (l := l) hS rfl ty_mp126 (fun w hh => (hh (keysA b m 126 l) (by repeat constructor)).mp) (by rfl) ?_); clear hS a; (try clear w); intro a w it hS
  refine R_nil ?_
  refine n_then ?_
  refine R_block ?_
  have hitW : W.heap.size ≤ it := by
    have h1 := hS.mine (itA it m [] l.length) (by repeat constructor) rfl it rfl
    rcases h1 with h1 | h1
    · exact h1
    · exact h1.elim
  have hnF : ¬ (keysA b m 126 l).F it := fun e => by
    have e2 : it = b ∨ it = m := e
    omega
  have hJi := hJ (it + 1) (by omega)
  have hJ0 : J (it + 1) [] w := hJi _ _ _ (h0 (it + 1) (by omega)) hS.chg.os hS.chg.tape hS.chg.output hS.chg.size (fun k hk _ => hS.chg.block k hk (fun e => e))
  have hWw := hS.chg.size
  refine R_loop (γ := List Nat) (fun s a w => St 14 (itF it) w a w [(5, .pointer (some ⟨it, 0, none⟩)), (0, .func (.yield ly) #[] #[]), (1, .pointer (some ⟨b, 0, none⟩))] [itA it m s l.length, keysA b m 126 l] ∧ W.heap.size ≤ w.heap.size ∧ s.Nodup ∧ (∀ i ∈ s, i < l.length) ∧ J (it + 1) (s.map (keyAt l)) w) (fun s => l.length - s.length) [] ⟨St.iter (hS.sl.sub (by repeat (first | exact trivial | refine ⟨rfl, ?_⟩))) (hS.get (X := itA it m [] l.length) (by repeat constructor)) (hS.ok _ (by repeat constructor)) rfl hnF, hWw, .nil, fun i hi => (by cases hi), hJ0⟩ ?_
  clear hS a; (try clear w); intro s a w hI
  obtain ⟨hS, hWw, hnd, hlt, hj⟩ := hI
  refine R_seq ?_
  refine R_region ?_
  refine R_op rfl (s_nextO (l := l) hS rfl (fun w hh => (hh (keysA b m 126 l) (by repeat constructor)).mp) (by rfl) (fun _ => .head) ?_); intro o ho a1 w1 hS1; have hj1 := ab_it hJi hitW hj hS1.chg; have hW1 : W.heap.size ≤ w1.heap.size := Nat.le_trans hWw hS1.chg.size; clear hS a; revert a1; intro a hS
  refine R_op rfl (s_e hS (e_extract rfl (nx0 o)) rfl ?_); clear hS a; intro a hS
  refine R_nil ?_
  refine n_then ?_
  refine R_seq ?_
  first | refine R_ifD hS rfl (fun hc7 => ?_) (fun hc7 => ?_) | refine R_if hS rfl (fun hc7 => ?_) (fun hc7 => ?_)
  ·
    obtain ⟨⟨i, k, v⟩, rfl⟩ : ∃ q, o = some q := Option.isSome_iff_exists.1 hc7
    obtain ⟨hl, hns⟩ := ho
    simp only [nxS] at hS
    have hil := (List.getElem?_eq_some_iff.1 hl).1
    have hnd2 : (s ++ [i]).Nodup := List.nodup_append.2 ⟨hnd, by simp, fun x hx y hy => by obtain rfl := List.mem_singleton.1 hy; exact fun e => hns (e ▸ hx)⟩
    have hlt2 : ∀ j ∈ s ++ [i], j < l.length := fun j hj => by
      rcases List.mem_append.1 hj with hj | hj
      · exact hlt j hj
      · obtain rfl := List.mem_singleton.1 hj; exact hil
    have hsl := nodup_le _ _ hnd2 hlt2
    rw [List.length_append, List.length_singleton] at hsl
    have hka : s.map (keyAt l) ++ [k] = (s ++ [i]).map (keyAt l) := by rw [List.map_append, List.map_singleton, keyAt_of hl]
    have hiw : w1.heap[it]? = some (.mapIter (some m) l.length (s ++ [i]).toArray l.length) := hS.get (X := itA it m (s ++ [i]) l.length) (by repeat constructor)
    have hilt := (Array.getElem?_eq_some_iff.1 hiw).1
    have hy := hY (it + 1) _ k w1 (by omega) hilt hj1 (by rw [List.length_map]; omega)
    unfold keyV at hy
    rw [hka] at hy
    refine R_skip ?_
    refine n_then ?_
    refine R_block ?_
    refine R_seq ?_
    refine R_region ?_
    refine R_op rfl (s_e hS (e_entryM rfl (fun w hh => (hh (keysA b m 126 l) (by repeat constructor)).mp) (by repeat constructor) hl) rfl ?_); clear hS a; intro a hS
    refine R_op rfl (s_e hS (e_extract rfl rfl) rfl ?_); clear hS a; intro a hS
    refine R_op rfl (s_e hS (e_assign rfl) rfl ?_); clear hS a; intro a hS
    refine R_nil ?_
    refine n_then ?_
    refine R_seq ?_
    refine R_region ?_
    refine R_op rfl (s_e hS (e_move rfl) rfl ?_); clear hS a; intro a hS
    refine R_op rfl (s_e hS (e_move rfl) rfl ?_); clear hS a; intro a hS
    refine R_yield hS rfl (.cons rfl .nil) hy (fun e' w' hR => ?_)
    obtain ⟨hKp, hR⟩ := hR
    have hit2 := (hKp.2 it hitW (by omega)).trans hiw
    have hW2 : W.heap.size ≤ w'.heap.size := Nat.le_trans hW1 hKp.1
    obtain ⟨y, rfl, hR2⟩ : ∃ y : Bool, e' = .returned (.bool y) ∧ ((y = true ∧ J (it + 1) ((s ++ [i]).map (keyAt l)) w') ∨ (y = false ∧ Jx (it + 1) ((s ++ [i]).map (keyAt l)) w')) := by
      rcases hR with ⟨h1, h2⟩ | ⟨h1, h2⟩
      · exact ⟨true, h1, .inl ⟨rfl, h2⟩⟩
      · exact ⟨false, h1, .inr ⟨rfl, h2⟩⟩
    refine ⟨_, rfl, ?_⟩
    replace hS := St.bareK (w := w') (hS.sl.put (d := 12) rfl (.bool y))
    clear hj1 hy hj hKp
    generalize a.put (some 12) (Value.bool y) = a2 at hS ⊢
    clear a; revert a2; intro a hS
    refine R_op rfl (s_e hS (e_not rfl) rfl ?_); clear hS a; intro a hS
    refine R_nil ?_
    refine n_then ?_
    first | refine R_ifD hS rfl (fun hc13 => ?_) (fun hc13 => ?_) | refine R_if hS rfl (fun hc13 => ?_) (fun hc13 => ?_)
    ·
      refine R_ret ?_
      refine r_block (r_then (r_block ?_))
      refine c_retN hS Try.results101 .nil rfl ?_
      have hx2 : Jx (it + 1) ((s ++ [i]).map (keyAt l)) w' := by
        rcases hR2 with ⟨h1, _⟩ | ⟨_, h2⟩
        · rw [h1] at hc13; cases hc13
        · exact h2
      exact ⟨⟨_, rfl⟩, it + 1, by omega, .inr ⟨_, trivial, hx2⟩⟩
    ·
      refine R_skip ?_
      refine n_block ?_
      have hx2 : J (it + 1) ((s ++ [i]).map (keyAt l)) w' := by
        rcases hR2 with ⟨_, h2⟩ | ⟨h1, _⟩
        · exact h2
        · rw [h1] at hc13; cases hc13
      exact ⟨s ++ [i], by rw [List.length_append, List.length_singleton]; omega, St.iter (hS.sl.sub (by repeat (first | exact trivial | refine ⟨rfl, ?_⟩))) hit2 (keys_ok (hK _ _ _ hx2)) rfl hnF, hW2, hnd2, hlt2, hx2⟩
  ·
    refine R_exit ?_
    refine x_then (x_then (x_hit ?_))
    refine r_norm ?_
    refine c_retN hS Try.results101 .nil rfl ?_
    obtain rfl : o = none := by
      cases o with
      | none => rfl
      | some q => cases hc7
    exact ⟨⟨_, rfl⟩, it + 1, by omega, .inl ⟨_, keys_all hnd hlt ho, hj1⟩⟩
set_option maxRecDepth 100000 in
theorem KeysLed_P (m : Nat) (w0 : World) : NewC Try.prog 73 [.map (some m)] w0 (fun b : Nat => .func (.func 101) #[] [.pointer (some ⟨b, 0, none⟩)].toArray) (fun b => .blk b [.map (some m)] 126) := by
  refine c_enter [(0, .map (some m))] [] noB Try.func73 rfl Try.ntmps73 ⟨rfl, trivial⟩ rfl (by simp) (by simp) (by simp) ?_
  intro a hS
  refine c_seq ?_
  refine c_region ?_
  obtain ⟨b1, hb1⟩ : ∃ b, b = w0.heap.size := ⟨_, rfl⟩
  refine L_op (s_box1 hS rfl rfl rfl ?_); clear hS a; intro a w b1 hS
  refine L_op (s_e hS (e_assign rfl) rfl ?_); clear hS a; intro a hS
  refine L_nil ?_
  refine n_then ?_
  refine c_seq ?_
  refine c_region ?_
  refine L_op (s_e hS (e_makeFunc .nil (.cons rfl .nil)) rfl ?_); clear hS a; intro a hS
  refine L_op (s_e hS (e_assign rfl) rfl ?_); clear hS a; intro a hS
  refine L_nil ?_
  refine n_then ?_
  refine wp_ret ?_
  refine c_ret1 hS Try.results73 (.tmp rfl) ?_
  exact ⟨b1, rfl, hS.chg, hS.new (.head _) rfl⟩
theorem str_getL {Γ : List Asn} {g c m : Nat} {xs : List ByteArray} (hm : strA (.slice (some ⟨g, 0, none⟩) m c) xs ∈ Γ) {i : Nat} {x : ByteArray} (hx : xs[i]? = some x) : ∀ w, Hd Γ w → w.cell? ⟨g, 0 + i * 1, none⟩ = some (.string x) := fun w hh => by
  have h : w.ownsRow 0 9 1 (.slice (some ⟨g, 0, none⟩) m c) xs.length (xs.map .string) := hh _ hm
  have h1 : (xs.map Value.string)[i]? = some (.string x) := by rw [List.getElem?_map, hx]; rfl
  have h2 := World.ownsRow.cells h (g := g) rfl _ _ h1
  rw [addr_add] at h2
  rw [← h2]; congr 2; omega
end Go.Proofs.Ytheofhegdjjfgaa

namespace Go.Proofs.Ytheofhegdjjfgaa
open Go.RowKit

theorem own_getL {Γ : List Asn} {α : Type} {enc : α → List Value} {s E g c m : Nat} {xs : List α} (hl : ∀ x, (enc x).length = s) (hm : ownA E s (.slice (some ⟨g, 0, none⟩) m c) m (xs.flatMap enc) ∈ Γ) {i : Nat} {x : α} (hx : xs[i]? = some x) : ∀ w, Hd Γ w → ∀ j v, (enc x)[j]? = some v → w.cell? ⟨g, 0 + i * s + j, none⟩ = some v := by
  intro w hh j v hj
  have h : w.ownsRow 0 E s (.slice (some ⟨g, 0, none⟩) m c) m (xs.flatMap enc) := hh _ hm
  have h1 := flat_get enc s hl xs i x hx j v hj
  have h2 := World.ownsRow.cells h (g := g) rfl _ _ h1
  rw [addr_add] at h2
  rw [← h2]; congr 2; omega
def codesA (acs : List Acc) : List ByteArray := acs.map (·.code)
/-- the accounts by their codes. -/
def accsL (acs : List Acc) : List Acc := (srt (codesA acs)).map (accOf acs)
theorem accs_len (acs : List Acc) : (accsL acs).length = acs.length := by simp [accsL, srt_len, codesA]
set_option maxRecDepth 100000 in
theorem lAccs_P (B : LB) (s : LS) (hacs : s.acs.length ≤ 1000) (w0 : World) (h : ledφ B s w0) :
    NewC Try.prog 30 [.pointer (some ⟨B.lb, 0, none⟩)] w0 (fun v : Value => v) (fun v => ownA 68 4 v (accsL s.acs).length ((accsL s.acs).flatMap encAc)) := by
  have hkm : keysM (entAc s.acs) = codesA s.acs := by simp [keysM, entAc, codesA, Function.comp_def]
  have hel : (entAc s.acs).length = s.acs.length := by simp [entAc]
  refine c_enter [(0, .pointer (some ⟨B.lb, 0, none⟩))] [ledA B s false] noB Try.func30 rfl Try.ntmps30 ⟨rfl, trivial⟩ rfl (okC (led_ok false h) okN) dis1 (mineC (by rfl) mineN) ?_
  intro a hS
  refine c_seq ?_
  refine c_region ?_
  refine L_op (s_e hS (e_assign rfl) rfl ?_); clear hS a; intro a hS
  refine L_nil ?_
  refine n_then ?_
  refine c_seq ?_
  refine c_region ?_
  refine L_op (s_e hS (e_assign rfl) rfl ?_); clear hS a; intro a hS
  refine L_nil ?_
  refine n_then ?_
  refine c_seq ?_
  refine c_seq ?_
  refine c_region ?_
  refine L_op (s_e hS (e_move rfl) rfl ?_); clear hS a; intro a hS
  refine L_op (s_e hS (e_nilCheck rfl) rfl ?_); clear hS a; intro a hS
  first | (refine L_op (s_e hS (e_fa0 rfl ty_fo129_1) rfl ?_); clear hS a; intro a hS) | (refine L_op (s_e hS (e_faK rfl ty_fo129_1) rfl ?_); clear hS a; intro a hS)
  refine L_op (s_e hS (e_loadC rfl ty_sc126 (led_cell (k := 1) (by repeat constructor) rfl)) rfl ?_); clear hS a; intro a hS
  refine L_op (s_callN hS (.cons rfl .nil) cf73 rfl (KeysLed_P B.ma _) ?_); clear hS a; (try clear w); intro x10 a w hS
  refine L_op (s_callN hS (.cons rfl .nil) cf72 rfl (SortedS_P cf101 (N := (entAc s.acs).length) (by omega) (fun xs hx => by rw [hx.length_eq]; simp [keysM]) (keysA x10 B.ma 126 (entAc s.acs)) rfl (Keys_Led_seq x10 B.ma (entAc s.acs)) _ (keys_ok ⟨hS.get (X := .blk x10 [.map (some B.ma)] 126) (by repeat constructor), (hS.get (X := ledA B s false) (by repeat constructor)).am⟩)) ?_); clear hS a; (try clear w); intro x11 a w hS
  obtain ⟨⟨v11, ks⟩, xs, hxs, hks⟩ := x11
  simp only at hks hS
  have hk2 : ks = srt (codesA s.acs) := by rw [hks, ← hkm]; exact srt_perm hxs
  have hkl : ks.length = s.acs.length := by rw [hk2, srt_len]; simp [codesA]
  obtain ⟨q11, c11, rfl⟩ := own_slice (hS.get (X := strA v11 ks) (by repeat constructor))
  have hsh : ks.length = 0 ∨ ∃ g, q11 = some ⟨g, 0, none⟩ := by
    have h0 : World.ownsRow w 0 9 1 (.slice q11 ks.length c11) ks.length (ks.map .string) := hS.get (X := strA (.slice q11 ks.length c11) ks) (by repeat constructor)
    rcases h0.2 with ⟨e1, e2⟩ | ⟨g, cap, cur, e1, _⟩
    · exact .inl e2
    · injection e1 with e3; exact .inr ⟨g, e3⟩
  refine L_op (s_e hS (e_len rfl rfl ty_sl142) rfl ?_); clear hS a; intro a hS
  refine L_op (s_e hS (e_move rfl) rfl ?_); clear hS a; intro a hS
  refine L_nil ?_
  refine n_then ?_
  refine wp_block ?_
  replace hS := hS.own_nil 68 4
  refine c_loop (γ := Nat × Value) (fun G a w => St 28 noB w0 a w [(13, .int .i64 (G.1 : Int)), (12, .int .i64 (ks.length : Int)), (11, .slice q11 ks.length c11), (3, G.2), (0, .pointer (some ⟨B.lb, 0, none⟩))] [ownA 68 4 G.2 ((ks.take G.1).map (accOf s.acs)).length (((ks.take G.1).map (accOf s.acs)).flatMap encAc), strA (.slice q11 ks.length c11) ks, ledA B s false] ∧ G.1 ≤ ks.length) (fun G => ks.length - G.1) (0, .slice none 0 0) ⟨(hS.slots (by repeat (first | exact trivial | refine ⟨rfl, ?_⟩))).pick (by repeat (first | exact Pick.nil | (refine Pick.cons (by repeat (first | exact Rem.head | apply Rem.tail)) ?_))), Nat.zero_le _⟩ ?_
  clear hS a; (try clear w); intro G a w hI
  obtain ⟨i, out⟩ := G
  obtain ⟨hS, hi⟩ := hI
  simp only at hS hi
  refine c_seq ?_
  refine c_region ?_
  refine L_op (s_e hS (e_bin rfl rfl rfl) rfl ?_); clear hS a; intro a hS
  refine L_nil ?_
  refine n_then ?_
  refine c_seq ?_
  first | refine c_ifD hS rfl (fun hc14 => ?_) (fun hc14 => ?_) | refine c_if hS rfl (fun hc14 => ?_) (fun hc14 => ?_)
  ·
    have hik : i < ks.length := by omega
    obtain ⟨c, hx⟩ : ∃ c, ks[i]? = some c := ⟨ks[i], List.getElem?_eq_getElem hik⟩
    obtain ⟨g, rfl⟩ : ∃ g, q11 = some ⟨g, 0, none⟩ := hsh.resolve_left (by omega)
    have htk : (ks.take (i + 1)).map (accOf s.acs) = (ks.take i).map (accOf s.acs) ++ [accOf s.acs c] := by rw [List.take_add_one, hx]; simp
    have hml : ((ks.take i).map (accOf s.acs)).length = i := by rw [List.length_map, List.length_take]; omega
    refine wp_skip ?_
    refine n_then ?_
    refine c_seq ?_
    refine wp_block ?_
    refine c_seq ?_
    refine c_region ?_
    refine L_op (s_e hS (e_ixN rfl rfl ty_sl142 ty_sz9 (by omega)) rfl ?_); clear hS a; intro a hS
    refine L_op (s_e hS (e_loadC rfl ty_sc9 (str_getL (by repeat constructor) hx)) rfl ?_); clear hS a; intro a hS
    refine L_op (s_e hS (e_assign rfl) rfl ?_); clear hS a; intro a hS
    refine L_nil ?_
    refine n_then ?_
    refine c_region ?_
    refine L_op (s_e hS (e_move rfl) rfl ?_); clear hS a; intro a hS
    refine L_op (s_e hS (e_move rfl) rfl ?_); clear hS a; intro a hS
    refine L_op (s_e hS (e_nilCheck rfl) rfl ?_); clear hS a; intro a hS
    first | (refine L_op (s_e hS (e_fa0 rfl ty_fo129_1) rfl ?_); clear hS a; intro a hS) | (refine L_op (s_e hS (e_faK rfl ty_fo129_1) rfl ?_); clear hS a; intro a hS)
    refine L_op (s_e hS (e_loadC rfl ty_sc126 (led_cell (k := 1) (by repeat constructor) rfl)) rfl ?_); clear hS a; intro a hS
    refine L_op (s_e hS (e_move rfl) rfl ?_); clear hS a; intro a hS
    refine L_op (s_e hS (e_lookupC rfl rfl ty_mp126 ty_u9 ty_zv68 (fun w hh => (hh (ledA B s false) (by repeat constructor)).am)) rfl ?_); clear hS a; intro a hS
    rw [lk_acc] at hS
    refine L_op (s_bslice hS ty_sl65 ty_sz68 ty_z68 rfl rfl rfl rfl (.agg rfl rfl .nil) rfl ?_); clear hS a; (try clear w); intro a w b24 hS
    refine L_op (s_append1 hS rfl rfl ty_sl65 ty_sz68 ty_by68 ty_z68 rfl rfl rfl (by repeat constructor) (by repeat constructor) (by rfl) (by rfl) (fun _ => (by repeat constructor)) (by omega) ?_); clear hS a; (try clear w); intro v25 a w hv25 hS
    refine L_op (s_e hS (e_assign rfl) rfl ?_); clear hS a; intro a hS
    refine L_nil ?_
    refine n_block ?_
    refine n_then ?_
    refine c_region ?_
    first | (refine L_op (s_e hS (e_binN rfl rfl rfl (by omega)) rfl ?_); clear hS a; intro a hS) | (refine L_op (s_e hS (e_bin rfl rfl rfl) rfl ?_); clear hS a; intro a hS)
    refine L_op (s_e hS (e_move rfl) rfl ?_); clear hS a; intro a hS
    refine L_nil ?_
    have e1 : ((ks.take (i + 1)).map (accOf s.acs)).length = ((ks.take i).map (accOf s.acs)).length + 1 := by rw [htk]; simp
    have e2 : ((ks.take (i + 1)).map (accOf s.acs)).flatMap encAc = ((ks.take i).map (accOf s.acs)).flatMap encAc ++ encAc (accOf s.acs c) := by rw [htk, List.flatMap_append]; simp
    refine ⟨(i + 1, v25), by simp only; omega, ?_, by simp only; omega⟩
    simp only
    rw [e1, e2]
    exact (hS.slots (by repeat (first | exact trivial | refine ⟨rfl, ?_⟩))).pick (by repeat (first | exact Pick.nil | (refine Pick.cons (by repeat (first | exact Rem.head | apply Rem.tail)) ?_)))
  ·
    obtain rfl : i = ks.length := by omega
    have hall : (ks.take ks.length).map (accOf s.acs) = accsL s.acs := by rw [List.take_length, hk2]; rfl
    rw [hall] at hS
    refine wp_exit ?_
    refine x_then (x_then (x_hit ?_))
    refine n_then ?_
    refine c_seq ?_
    refine c_region ?_
    refine L_op (s_e hS (e_move rfl) rfl ?_); clear hS a; intro a hS
    refine L_op (s_e hS (e_assign rfl) rfl ?_); clear hS a; intro a hS
    refine L_nil ?_
    refine n_then ?_
    refine wp_ret ?_
    refine c_ret1 hS Try.results30 (.tmp rfl) ?_
    exact ⟨out, rfl, hS.chg, hS.new (X := ownA 68 4 out (accsL s.acs).length ((accsL s.acs).flatMap encAc)) (by repeat constructor) rfl⟩

/-! ### what stands in all accounts -/
def triZ (bx m : Nat) (t : List (ByteArray × SM)) : Asn := .any (fun k => k = bx ∨ k = m) (fun w => w.heap[bx]? = some (.cells [Value.map (some m)].toArray 127 (0, 0)) ∧ w.heap[m]? = some (.map (mkM 0 (entSm t)).toArray (entSm t).length)) true
theorem triZ_ok {bx m : Nat} {t : List (ByteArray × SM)} {w : World} (h1 : w.heap[bx]? = some (.cells [Value.map (some m)].toArray 127 (0, 0))) (h2 : w.heap[m]? = some (.map (mkM 0 (entSm t)).toArray (entSm t).length)) : (triZ bx m t).ok w := by
  refine ⟨fun k hk => ?_, fun w' hw => ⟨?_, ?_⟩⟩
  · rcases hk with rfl | rfl
    · exact (Array.getElem?_eq_some_iff.1 h1).1
    · exact (Array.getElem?_eq_some_iff.1 h2).1
  · rw [hw bx (.inl rfl)]; exact h1
  · rw [hw m (.inr rfl)]; exact h2
def triStep (t : List (ByteArray × SM)) (p : Pst) : List (ByteArray × SM) := putT t p.acc (addS (totOf t p.acc) p)
theorem map_ok {b : Nat} {l : List (ByteArray × Value)} {w : World} (hb : w.heap[b]? = some (.map (mkM 0 l).toArray l.length)) : (smapA b l).ok w :=
  ⟨fun k hk => by obtain rfl : k = b := hk; exact (Array.getElem?_eq_some_iff.1 hb).1, fun w' hw => by show w'.heap[b]? = _; rw [hw b rfl]; exact hb⟩
set_option maxRecDepth 100000 in
theorem lTrial1_P (bx m : Nat) (t : List (ByteArray × SM)) (p : Pst) (hg : fitS (totOf t p.acc)) (hp : p.fits) (hr : fitS (addS (totOf t p.acc) p)) (hne : bx ≠ m) (w0 : World) (h : (triZ bx m t).ok w0) :
    MutC Try.prog 77 [.agg (encP p).toArray, .pointer (some ⟨bx, 0, none⟩)] w0 (triZ bx m t) (fun _ : Unit => .tuple #[]) (fun _ => triZ bx m (triStep t p)) := by
  have h1 := h.now.1
  have h2 := h.now.2
  refine c_enter [(0, .agg (encP p).toArray), (1, .pointer (some ⟨bx, 0, none⟩))] [.blk bx [.map (some m)] 127, smapA m (entSm t)] (triZ bx m t).F Try.func77 rfl Try.ntmps77 ⟨rfl, rfl, trivial⟩ rfl (okC (ok_blk h1) (okC (map_ok h2) okN)) (disC (sepC (fun b e1 e2 => hne (Eq.trans (Eq.symm e1) e2)) sepN) dis1) (mineO (fun _ hb => .inl hb) (mineO (fun _ hb => .inr hb) mineN)) ?_
  intro a hS
  refine c_seq ?_
  refine c_region ?_
  refine L_op (s_boxA hS rfl rfl ?_); clear hS a; (try clear w); intro a w b2 hS
  refine L_nil ?_
  refine n_then ?_
  refine c_drawS [9] (by kernel_rfl) hS (sub_cons (X := .blk b2 _ _) (by repeat constructor) (sub_cons (X := .blk bx [.map (some m)] 127) (by repeat constructor) (sub_cons (X := smapA m (entSm t)) (by repeat constructor) sub_nil))) ?_; clear hS; (try clear w); intro w hS
  simp only [List.length_cons, List.length_nil, Nat.zero_add, Nat.reduceAdd, List.replicate]
  refine Z_take (i := 0) hS rfl want_none (e_load rfl (by repeat constructor) ty_sc127 (by rfl)) (listed' := [true, false, false, false, false, false, false, false, false, false]) rfl (by kernel_rfl) (by kernel_rfl) (by kernel_rfl) (by kernel_rfl) (by kernel_rfl) (sub_cons (by repeat constructor) (sub_cons (by repeat constructor) (sub_cons (by repeat constructor) sub_nil))) (fun _ _ _ h => h) rfl ?_; clear hS a; intro a hS
  first | (refine Z_take0 (i := 1) hS rfl want_none (e_fa0 rfl ty_fo63_0) (listed' := [true, true, false, false, false, false, false, false, false, false]) rfl (by kernel_rfl) (by kernel_rfl) (by kernel_rfl) (fun _ _ _ h => h) rfl ?_; clear hS a; intro a hS) | (refine Z_take0 (i := 1) hS rfl want_none (e_faK rfl ty_fo63_0) (listed' := [true, true, false, false, false, false, false, false, false, false]) rfl (by kernel_rfl) (by kernel_rfl) (by kernel_rfl) (fun _ _ _ h => h) rfl ?_; clear hS a; intro a hS)
  refine Z_take (i := 2) hS rfl want_none (e_load rfl (by repeat constructor) ty_sc9 (by rfl)) (listed' := [true, true, true, false, false, false, false, false, false, false]) rfl (by kernel_rfl) (by kernel_rfl) (by kernel_rfl) (by kernel_rfl) (by kernel_rfl) (sub_cons (by repeat constructor) (sub_cons (by repeat constructor) (sub_cons (by repeat constructor) sub_nil))) (fun _ _ _ h => h) rfl ?_; clear hS a; intro a hS
  refine Z_take (i := 3) hS rfl want_none (e_load rfl (by repeat constructor) ty_sc127 (by rfl)) (listed' := [true, true, true, true, false, false, false, false, false, false]) rfl (by kernel_rfl) (by kernel_rfl) (by kernel_rfl) (by kernel_rfl) (by kernel_rfl) (sub_cons (by repeat constructor) (sub_cons (by repeat constructor) (sub_cons (by repeat constructor) sub_nil))) (fun _ _ _ h => h) rfl ?_; clear hS a; intro a hS
  first | (refine Z_take0 (i := 4) hS rfl want_none (e_fa0 rfl ty_fo63_0) (listed' := [true, true, true, true, true, false, false, false, false, false]) rfl (by kernel_rfl) (by kernel_rfl) (by kernel_rfl) (fun _ _ _ h => h) rfl ?_; clear hS a; intro a hS) | (refine Z_take0 (i := 4) hS rfl want_none (e_faK rfl ty_fo63_0) (listed' := [true, true, true, true, true, false, false, false, false, false]) rfl (by kernel_rfl) (by kernel_rfl) (by kernel_rfl) (fun _ _ _ h => h) rfl ?_; clear hS a; intro a hS)
  refine Z_take (i := 5) hS rfl want_none (e_load rfl (by repeat constructor) ty_sc9 (by rfl)) (listed' := [true, true, true, true, true, true, false, false, false, false]) rfl (by kernel_rfl) (by kernel_rfl) (by kernel_rfl) (by kernel_rfl) (by kernel_rfl) (sub_cons (by repeat constructor) (sub_cons (by repeat constructor) (sub_cons (by repeat constructor) sub_nil))) (fun _ _ _ h => h) rfl ?_; clear hS a; intro a hS
  refine Z_take (i := 6) hS rfl want_none (e_lookupS rfl rfl ty_mp127 ty_u9 ty_zv136 (by repeat constructor)) (listed' := [true, true, true, true, true, true, true, false, false, false]) rfl (by kernel_rfl) (by kernel_rfl) (by kernel_rfl) (by kernel_rfl) (by kernel_rfl) (sub_cons (by repeat constructor) (sub_cons (by repeat constructor) (sub_cons (by repeat constructor) sub_nil))) (fun _ _ _ h => h) rfl ?_; clear hS a; intro a hS
  rw [lk_tot] at hS
  refine Z_take (i := 7) hS rfl want_none (e_loadA rfl (by repeat constructor) ty_st63 ty_sz63 (by rfl)) (listed' := [true, true, true, true, true, true, true, true, false, false]) rfl (by kernel_rfl) (by kernel_rfl) (by kernel_rfl) (by kernel_rfl) (by kernel_rfl) (sub_cons (by repeat constructor) (sub_cons (by repeat constructor) (sub_cons (by repeat constructor) sub_nil))) (fun _ _ _ h => h) rfl ?_; clear hS a; intro a hS
  refine Z_one (i := 8) rfl (want_none a hS.sl) (listed' := [true, true, true, true, true, true, true, true, true, false]) rfl (by kernel_rfl) (s_callP hS (.cons rfl (.cons rfl .nil)) cf70 rfl (sadd_P (totOf t p.acc) p hg hp hr _) ?_); clear hS a; (try clear w); intro a w hS
  refine Z_and hS (sub_cons (by repeat constructor) (sub_cons (by repeat constructor) (sub_cons (by repeat constructor) sub_nil))) ?_
  refine Z_one (i := 9) rfl (want_none a hS.sl) (listed' := [true, true, true, true, true, true, true, true, true, true]) rfl (by kernel_rfl) (s_mapUp hS rfl rfl rfl ty_mp127 ty_u9 (by repeat constructor) ?_); clear hS; (try clear w); intro w hS
  refine Z_last (by simp) ?_
  refine Z_done (by kernel_rfl) ?_
  refine r_norm ?_
  refine c_retN hS Try.results77 .nil rfl ?_
  rw [putT_set] at hS
  exact ⟨(), rfl, hS.chg, triZ_ok (hS.get (X := .blk bx [.map (some m)] 127) (by repeat constructor)) (hS.get (X := smapA m (entSm (triStep t p))) (by repeat constructor)), fun b hb => .inl hb⟩
theorem tri_fold (l : List Pst) : ∀ (t : List (ByteArray × SM)) (n : Nat), (∀ p ∈ l, p.fits) → bdT t n → bdT (l.foldl triStep t) (n + l.length) := by
  induction l with
  | nil => intro t n _ h; exact h
  | cons p r ih =>
    intro t n hf h
    have h2 := ih (triStep t p) (n + 1) (fun q hq => hf q (.tail _ hq)) (bdT_put h (hf p (.head _)))
    rw [List.foldl_cons, List.length_cons, show n + (r.length + 1) = n + 1 + r.length by omega]; exact h2
theorem tri_sum (code : ByteArray) (l : List Pst) : ∀ (t : List (ByteArray × SM)), totOf (l.foldl triStep t) code = l.foldl (balStep code) (totOf t code) := by
  induction l with
  | nil => intro t; rfl
  | cons p r ih =>
    intro t
    rw [List.foldl_cons, List.foldl_cons, ih]
    congr 1
    unfold triStep balStep
    rw [totOf_put]
    by_cases e : p.acc = code
    · rw [if_pos e, if_pos e, e]
    · rw [if_neg e, if_neg e]
def triT (P : PL) (at_ : Int) : List (ByteArray × SM) := if inst at_ then (postsAt P.es at_).foldl triStep [] else []
def triB (P : PL) (at_ : Int) (a : Acc) : BL := (a.code, balV (totOf (triT P at_) a.code))
/-- what stands in all accounts at an instant. -/
def trialF (P : PL) (at_ : Int) : List BL := (accsL P.acs).map (triB P at_)
theorem tri_bd {P : PL} (h : fitL P) (at_ : Int) : bdT (triT P at_) 5000000 := by
  unfold triT
  split
  · have h1 := tri_fold (postsAt P.es at_) [] 0 (posts_fit h at_) (fun e he => (by cases he))
    have h2 := posts_len P.es at_ h.ps
    have h3 := h.few
    intro e he
    have h4 := h1 e he
    omega
  · intro e he; cases he
set_option maxHeartbeats 1000000 in
set_option maxRecDepth 100000 in
theorem lTrial_P (B : LB) (s : LS) (at_ : Int) (hacs : s.acs.length ≤ 1000) (hfl : fitL (pl s)) (w0 : World) (h : ledφ B s w0) :
     NewC Try.prog 35 [.pointer (some ⟨B.lb, 0, none⟩), .int .i64 at_] w0 (fun v : Value => v) (fun v => ownA 60 3 v (trialF (pl s) at_).length ((trialF (pl s) at_).flatMap encBl)) := by
   have hes : s.es.length ≤ 100000 := by have := hfl.few; simpa [pl] using this
   have hps : ∀ x ∈ s.es, x.v.ps.length ≤ 50 := fun x hx => hfl.ps x.v (by unfold pl; exact List.mem_map.2 ⟨x, hx, rfl⟩)
   have htb := tri_bd hfl at_
   have hal := accs_len s.acs
   refine c_enter [(0, .pointer (some ⟨B.lb, 0, none⟩)), (1, .int .i64 at_)] [ledA B s false] noB Try.func35 rfl Try.ntmps35 ⟨rfl, rfl, trivial⟩ rfl (okC (led_ok false h) okN) dis1 (mineC (by rfl) mineN) ?_
   intro a hS
   refine c_seq ?_
   refine c_region ?_
   refine L_op (s_e hS (e_assign rfl) rfl ?_); clear hS a; intro a hS
   refine L_nil ?_
   refine n_then ?_
   refine c_seq ?_
   refine c_region ?_
   refine L_op (s_makeMapS hS rfl ?_); clear hS a; (try clear w); intro a w b11 hS
   refine L_op (s_alloc hS ty_z127 rfl ?_); clear hS a; (try clear w); intro a w b5 hS
   refine L_op (s_store hS rfl rfl rfl ty_sz127 (by repeat constructor) (by repeat constructor) ?_); clear hS; (try clear w); intro w hS
   refine L_nil ?_
   refine n_then ?_
   refine c_cut (fun a w => St 41 noB w0 a w [(5, .pointer (some ⟨b5, 0, none⟩)), (0, .pointer (some ⟨B.lb, 0, none⟩))] [triZ b5 b11 (triT (pl s) at_), ledA B s false]) ?_ ?_
   ·
     refine c_seq ?_
     have hne : b5 ≠ b11 := fun e => hS.sep (X := .blk b5 [.map (some b11)] 127) (Y := smapA b11 []) (by repeat (first | exact Rem.head | apply Rem.tail)) (by repeat constructor) b5 rfl e
     replace hS := hS.join (Y := smapA b11 []) (Z := triZ b5 b11 []) (by repeat constructor) (triZ_ok (hS.get (X := .blk b5 [.map (some b11)] 127) (by repeat constructor)) (hS.get (X := smapA b11 []) (by repeat constructor))) (fun b hb => hb) (fun _ => ⟨rfl, rfl⟩)
     refine c_region ?_
     refine L_op (s_e hS (e_move rfl) rfl ?_); clear hS a; intro a hS
     refine L_op (s_callP hS (.cons rfl .nil) cf67 rfl (linst_P at_ _) ?_); clear hS a; (try clear w); intro a w hS
     refine L_nil ?_
     refine n_then ?_
     first | refine c_ifD hS rfl (fun hc13 => ?_) (fun hc13 => ?_) | refine c_if hS rfl (fun hc13 => ?_) (fun hc13 => ?_)
     ·
       refine c_region ?_
       refine L_op (s_e hS (e_move rfl) rfl ?_); clear hS a; intro a hS
       refine L_op (s_e hS (e_move rfl) rfl ?_); clear hS a; intro a hS
       refine L_op (s_e hS (e_makeFunc .nil (.cons rfl .nil)) rfl ?_); clear hS a; intro a hS
       refine L_op (s_callM hS (.cons rfl (.cons rfl (.cons rfl .nil))) cf68 rfl (leach_P B s at_ 77 [.pointer (some ⟨b5, 0, none⟩)] (triZ b5 b11) (fun _ => rfl) triStep [] cf77 (by omega) (fun x hx => by have := hps x hx; omega) (fun pre p post hsp w hok => by
 have hm : p ∈ postsAt (pl s).es at_ := by rw [hsp]; simp
 have hpf := posts_fit hfl at_ p hm
 have hpre : ∀ q ∈ pre, q.fits := fun q hq => posts_fit hfl at_ q (by rw [hsp]; simp [hq])
 have hb := bdT_of (tri_fold pre [] 0 hpre (fun e he => (by cases he))) p.acc
 have hl := posts_len (pl s).es at_ hfl.ps
 have hfw := hfl.few
 rw [hsp, List.length_append, List.length_cons] at hl
 have hu := hpf.u
 have hff := hpf.f
 have e : (pre ++ [p]).foldl triStep [] = triStep (pre.foldl triStep []) p := by rw [List.foldl_append]; rfl
 rw [e]
 exact lTrial1_P b5 b11 _ p (by unfold fitS Wd.fit; omega) hpf (by unfold fitS addS Wd.fit; simp only; omega) hne w hok) _ (hS.get (X := ledA B s false) (by repeat constructor)) (hS.ok (triZ b5 b11 []) (by repeat constructor)) (fun b hb hl => hS.sep (X := triZ b5 b11 []) (Y := ledA B s false) (by repeat (first | exact Rem.head | apply Rem.tail)) (by repeat constructor) b hb hl)) (fun x => (by repeat constructor)) rfl ?_); clear hS a; (try clear w); intro x17 a w hS
       refine L_nil ?_
       first
       | (rw [show triT (pl s) at_ = (postsAt (pl s).es at_).foldl triStep [] from if_pos hc13]; exact (hS.slots (by repeat (first | exact trivial | refine ⟨rfl, ?_⟩))).pick (by repeat (first | exact Pick.nil | (refine Pick.cons (by repeat (first | exact Rem.head | apply Rem.tail)) ?_))))
       | (rw [show triT (pl s) at_ = [] from if_neg hc13]; exact (hS.slots (by repeat (first | exact trivial | refine ⟨rfl, ?_⟩))).pick (by repeat (first | exact Pick.nil | (refine Pick.cons (by repeat (first | exact Rem.head | apply Rem.tail)) ?_))))
     ·
       refine wp_skip ?_
       first
       | (rw [show triT (pl s) at_ = (postsAt (pl s).es at_).foldl triStep [] from if_pos hc13]; exact (hS.slots (by repeat (first | exact trivial | refine ⟨rfl, ?_⟩))).pick (by repeat (first | exact Pick.nil | (refine Pick.cons (by repeat (first | exact Rem.head | apply Rem.tail)) ?_))))
       | (rw [show triT (pl s) at_ = [] from if_neg hc13]; exact (hS.slots (by repeat (first | exact trivial | refine ⟨rfl, ?_⟩))).pick (by repeat (first | exact Pick.nil | (refine Pick.cons (by repeat (first | exact Rem.head | apply Rem.tail)) ?_))))
   ·
     clear hS a; (try clear w); intro a w hS
     skip
     refine c_seq ?_
     refine c_region ?_
     refine L_op (s_e hS (e_assign rfl) rfl ?_); clear hS a; intro a hS
     refine L_nil ?_
     refine n_then ?_
     refine c_seq ?_
     refine c_seq ?_
     refine c_region ?_
     refine L_op (s_e hS (e_move rfl) rfl ?_); clear hS a; intro a hS
     refine L_op (s_callN hS (.cons rfl .nil) cf30 rfl (lAccs_P B s hacs _ (hS.get (X := ledA B s false) (by repeat constructor))) ?_); clear hS a; (try clear w); intro x19 a w hS
     obtain ⟨q19, c19, rfl⟩ := own_slice (hS.get (X := ownA 68 4 x19 (accsL s.acs).length ((accsL s.acs).flatMap encAc)) (by repeat constructor))
     have hsh : (accsL s.acs).length = 0 ∨ ∃ g, q19 = some ⟨g, 0, none⟩ := by
       have h0 : World.ownsRow w 0 68 4 (.slice q19 (accsL s.acs).length c19) (accsL s.acs).length ((accsL s.acs).flatMap encAc) := hS.get (X := ownA 68 4 (.slice q19 (accsL s.acs).length c19) (accsL s.acs).length ((accsL s.acs).flatMap encAc)) (by repeat constructor)
       rcases h0.2 with ⟨e1, e2⟩ | ⟨g, cap, cur, e1, _⟩
       · exact .inl e2
       · injection e1 with e3; exact .inr ⟨g, e3⟩
     refine L_op (s_e hS (e_len rfl rfl ty_sl65) rfl ?_); clear hS a; intro a hS
     refine L_op (s_e hS (e_move rfl) rfl ?_); clear hS a; intro a hS
     refine L_nil ?_
     refine n_then ?_
     refine wp_block ?_
     replace hS := hS.own_nil 60 3
     refine c_loop (γ := Nat × Value) (fun G a w => St 41 noB w0 a w [(21, .int .i64 (G.1 : Int)), (20, .int .i64 ((accsL s.acs).length : Int)), (19, .slice q19 (accsL s.acs).length c19), (6, G.2), (5, .pointer (some ⟨b5, 0, none⟩))] [ownA 60 3 G.2 (((accsL s.acs).take G.1).map (triB (pl s) at_)).length ((((accsL s.acs).take G.1).map (triB (pl s) at_)).flatMap encBl), ownA 68 4 (.slice q19 (accsL s.acs).length c19) (accsL s.acs).length ((accsL s.acs).flatMap encAc), triZ b5 b11 (triT (pl s) at_)] ∧ G.1 ≤ (accsL s.acs).length) (fun G => (accsL s.acs).length - G.1) (0, .slice none 0 0) ⟨(hS.slots (by repeat (first | exact trivial | refine ⟨rfl, ?_⟩))).pick (by repeat (first | exact Pick.nil | (refine Pick.cons (by repeat (first | exact Rem.head | apply Rem.tail)) ?_))), Nat.zero_le _⟩ ?_
     clear hS a; (try clear w); intro G a w hI
     obtain ⟨i, out⟩ := G
     obtain ⟨hS, hi⟩ := hI
     simp only at hS hi
     refine c_seq ?_
     refine c_region ?_
     refine L_op (s_e hS (e_bin rfl rfl rfl) rfl ?_); clear hS a; intro a hS
     refine L_nil ?_
     refine n_then ?_
     refine c_seq ?_
     first | refine c_ifD hS rfl (fun hc22 => ?_) (fun hc22 => ?_) | refine c_if hS rfl (fun hc22 => ?_) (fun hc22 => ?_)
     ·
       have hik : i < (accsL s.acs).length := by omega
       obtain ⟨x, hx⟩ : ∃ x, (accsL s.acs)[i]? = some x := ⟨(accsL s.acs)[i], List.getElem?_eq_getElem hik⟩
       obtain ⟨g, rfl⟩ : ∃ g, q19 = some ⟨g, 0, none⟩ := hsh.resolve_left (by omega)
       have htk : ((accsL s.acs).take (i + 1)).map (triB (pl s) at_) = ((accsL s.acs).take i).map (triB (pl s) at_) ++ [triB (pl s) at_ x] := by rw [List.take_add_one, hx]; simp
       have hml : (((accsL s.acs).take i).map (triB (pl s) at_)).length = i := by rw [List.length_map, List.length_take]; omega
       have hb1 := bdT_of htb x.code
       have ft : fitS (totOf (triT (pl s) at_) x.code) := by unfold fitS Wd.fit; omega
       refine wp_skip ?_
       refine n_then ?_
       refine c_seq ?_
       refine wp_block ?_
       refine c_seq ?_
       refine c_region ?_
       refine L_op (s_e hS (e_ixN rfl rfl ty_sl65 ty_sz68 (by omega)) rfl ?_); clear hS a; intro a hS
       refine L_op (s_e hS (e_loadAC (l := encAc x) rfl ty_st68 ty_sz68 (own_getL (enc := encAc) (s := 4) (fun _ => rfl) (by repeat constructor) hx)) rfl ?_); clear hS a; intro a hS
       refine L_op (s_alloc hS ty_z68 rfl ?_); clear hS a; (try clear w); intro a w b8 hS
       refine L_op (s_storeA hS rfl rfl ty_sz68 (by repeat constructor) (by rfl) (by rfl) (by rfl) ?_); clear hS; (try clear w); intro w hS
       refine L_nil ?_
       refine n_then ?_
       refine c_seq ?_
       refine c_region ?_
       refine L_op (s_e hS (e_loadC rfl ty_sc127 (fun w hh => cell_of_blk (cs := [.map (some b11)]) (hh (triZ b5 b11 (triT (pl s) at_)) (by repeat constructor)).1 rfl)) rfl ?_); clear hS a; intro a hS
       first | (refine L_op (s_e hS (e_fa0 rfl ty_fo68_0) rfl ?_); clear hS a; intro a hS) | (refine L_op (s_e hS (e_faK rfl ty_fo68_0) rfl ?_); clear hS a; intro a hS)
       refine L_op (s_e hS (e_load rfl (by repeat constructor) ty_sc9 (by rfl)) rfl ?_); clear hS a; intro a hS
       refine L_op (s_e hS (e_lookupC rfl rfl ty_mp127 ty_u9 ty_zv136 (fun w hh => (hh (triZ b5 b11 (triT (pl s) at_)) (by repeat constructor)).2)) rfl ?_); clear hS a; intro a hS
       rw [lk_tot] at hS
       first | (refine L_op (s_e hS (e_fa0 rfl ty_fo68_0) rfl ?_); clear hS a; intro a hS) | (refine L_op (s_e hS (e_faK rfl ty_fo68_0) rfl ?_); clear hS a; intro a hS)
       refine L_op (s_e hS (e_load rfl (by repeat constructor) ty_sc9 (by rfl)) rfl ?_); clear hS a; intro a hS
       refine L_op (s_callP hS (.cons rfl (.cons rfl .nil)) cf71 rfl (sbal_P (totOf (triT (pl s) at_) x.code) x.code ft _) ?_); clear hS a; (try clear w); intro a w hS
       refine L_op (s_e hS (e_move rfl) rfl ?_); clear hS a; intro a hS
       refine L_op (s_e hS (e_extract rfl rfl) rfl ?_); clear hS a; intro a hS
       refine L_op (s_e hS (e_extract rfl rfl) rfl ?_); clear hS a; intro a hS
       refine L_op (s_alloc hS ty_z60 rfl ?_); clear hS a; (try clear w); intro a w b9 hS
       refine L_op (s_storeA hS rfl rfl ty_sz60 (by repeat constructor) (by rfl) (by rfl) (by rfl) ?_); clear hS; (try clear w); intro w hS
       refine L_op (s_e hS (e_assign rfl) rfl ?_); clear hS a; intro a hS
       refine L_nil ?_
       refine n_then ?_
       refine c_region ?_
       refine L_op (s_e hS (e_move rfl) rfl ?_); clear hS a; intro a hS
       refine L_op (s_e hS (e_loadA rfl (by repeat constructor) ty_st60 ty_sz60 (by rfl)) rfl ?_); clear hS a; intro a hS
       refine L_op (s_bslice hS ty_sl76 ty_sz60 ty_z60 rfl rfl rfl rfl (.agg rfl rfl .nil) rfl ?_); clear hS a; (try clear w); intro a w b37 hS
       refine L_op (s_append1 hS rfl rfl ty_sl76 ty_sz60 ty_by60 ty_z60 rfl rfl rfl (by repeat constructor) (by repeat constructor) (by rfl) (by rfl) (fun _ => (by repeat constructor)) (by omega) ?_); clear hS a; (try clear w); intro v38 a w hv38 hS
       refine L_op (s_e hS (e_assign rfl) rfl ?_); clear hS a; intro a hS
       refine L_nil ?_
       refine n_block ?_
       refine n_then ?_
       refine c_region ?_
       first | (refine L_op (s_e hS (e_binN rfl rfl rfl (by omega)) rfl ?_); clear hS a; intro a hS) | (refine L_op (s_e hS (e_bin rfl rfl rfl) rfl ?_); clear hS a; intro a hS)
       refine L_op (s_e hS (e_move rfl) rfl ?_); clear hS a; intro a hS
       refine L_nil ?_
       have e1 : (((accsL s.acs).take (i + 1)).map (triB (pl s) at_)).length = (((accsL s.acs).take i).map (triB (pl s) at_)).length + 1 := by rw [htk]; simp
       have e2 : (((accsL s.acs).take (i + 1)).map (triB (pl s) at_)).flatMap encBl = (((accsL s.acs).take i).map (triB (pl s) at_)).flatMap encBl ++ encBl (triB (pl s) at_ x) := by rw [htk, List.flatMap_append]; simp
       refine ⟨(i + 1, v38), by simp only; omega, ?_, by simp only; omega⟩
       simp only
       rw [e1, e2]
       exact (hS.slots (by repeat (first | exact trivial | refine ⟨rfl, ?_⟩))).pick (by repeat (first | exact Pick.nil | (refine Pick.cons (by repeat (first | exact Rem.head | apply Rem.tail)) ?_)))
     ·
       obtain rfl : i = (accsL s.acs).length := by omega
       have hall : ((accsL s.acs).take (accsL s.acs).length).map (triB (pl s) at_) = trialF (pl s) at_ := by rw [List.take_length]; rfl
       rw [hall] at hS
       refine wp_exit ?_
       refine x_then (x_then (x_hit ?_))
       refine n_then ?_
       refine c_seq ?_
       refine c_region ?_
       refine L_op (s_e hS (e_move rfl) rfl ?_); clear hS a; intro a hS
       refine L_op (s_e hS (e_assign rfl) rfl ?_); clear hS a; intro a hS
       refine L_nil ?_
       refine n_then ?_
       refine wp_ret ?_
       refine c_ret1 hS Try.results35 (.tmp rfl) ?_
       exact ⟨out, rfl, hS.chg, hS.new (X := ownA 60 3 out (trialF (pl s) at_).length ((trialF (pl s) at_).flatMap encBl)) (by repeat constructor) rfl⟩
end Go.Proofs.Ytheofhegdjjfgaa

namespace Go.Proofs.Ytheofhegdjjfgaa
open Go.RowKit
variable {P : Program} {n : Nat} {F0 : Nat → Prop} {w0 w : World} {a : Act} {L : List (Nat × Value)} {Γ : List Asn} {dst : Option Nat}
variable {ty : Nat} {pos : String} {af : Array Edge} {g : Option (Nat × Bool)} {K : Act → World → Prop} {Q : Exit → Act → World → Prop} {d : Nat}

def setMany : List Value → Nat → List Value → List Value
  | xs, _, [] => xs
  | xs, j, v :: vs => setMany (xs.set j v) (j + 1) vs
theorem setMany_mid : ∀ (vs A B C : List Value), B.length = vs.length → setMany (A ++ (B ++ C)) A.length vs = A ++ (vs ++ C)
  | [], A, B, C, h => by
    have : B = [] := List.eq_nil_of_length_eq_zero (by simpa using h)
    subst this; rfl
  | v :: vs, A, [], C, h => by simp at h
  | v :: vs, A, b :: B, C, h => by
    have h1 : (A ++ (b :: B ++ C)).set A.length v = (A ++ [v]) ++ (B ++ C) := by simp
    show setMany ((A ++ (b :: B ++ C)).set A.length v) (A.length + 1) vs = _
    rw [h1]
    have h2 := setMany_mid vs (A ++ [v]) B C (by simpa using h)
    simp only [List.length_append, List.length_cons, List.length_nil, Nat.zero_add] at h2
    rw [h2]; simp
theorem flat_put {α : Type} {enc : α → List Value} {s : Nat} (hl : ∀ x, (enc x).length = s) {xs : List α} {i : Nat} {x y : α} (hx : xs[i]? = some x) : setMany (xs.flatMap enc) (i * s) (enc y) = (xs.set i y).flatMap enc := by
  obtain ⟨hi, e⟩ := List.getElem?_eq_some_iff.1 hx
  have e1 : xs = xs.take i ++ x :: xs.drop (i + 1) := by rw [← e, List.getElem_cons_drop, List.take_append_drop]
  have e2 : (xs.take i).length = i := by simp; omega
  have e3 : ((xs.take i).flatMap enc).length = i * s := by rw [flat_len enc s hl, e2]
  have e4 : xs.set i y = xs.take i ++ y :: xs.drop (i + 1) := by rw [List.set_eq_take_append_cons_drop, if_pos hi]
  rw [e4]
  conv => lhs; rw [e1]
  rw [List.flatMap_append, List.flatMap_cons, List.flatMap_append, List.flatMap_cons, ← e3]
  exact setMany_mid (enc y) _ (enc x) _ (by rw [hl, hl])
theorem storeOwn_run {E s gb m c o : Nat} : ∀ (vs : List Value) (i : Nat) (w : World) (xs : List Value), w.ownsRow 0 E s (.slice (some ⟨gb, 0, none⟩) m c) m xs → o + i + vs.length ≤ m * s → (∀ v ∈ vs, isOne v = true) →
    ∃ w', (storeCells ⟨gb, o, none⟩ vs i).run P w = .ok () w' ∧ w'.ownsRow 0 E s (.slice (some ⟨gb, 0, none⟩) m c) m (setMany xs (o + i) vs) ∧ Chg (fun k => k = gb) w w' := by
  intro vs
  induction vs with
  | nil => intro i w xs h _ _; exact ⟨w, by simp [storeCells], h, Chg.refl _ _⟩
  | cons v vs ih =>
    intro i w xs h hb h1
    have hv := h1 v (by simp)
    simp only [List.length_cons] at hb
    have hcell : w.cell? ⟨gb, o + i, none⟩ = xs[o + i]? := World.ownsRow.cellAt h (o + i) (by omega)
    rw [List.getElem?_eq_getElem (by rw [h.1]; omega)] at hcell
    have hfz := World.ownsRow.frozenAt h (o + i)
    have hst := (World.ownsRow.stored h (o + i) v).1
    obtain ⟨w', h2, h3, h4⟩ := ih (i + 1) _ _ hst (by omega) (fun u hu => h1 u (by simp [hu]))
    refine ⟨w', ?_, by rw [← Nat.add_assoc] at h3; exact h3, (Chg.setCell w ⟨gb, o + i, none⟩ v).trans h4 (fun i hi _ => hi)⟩
    simp [storeCells, addr_add, run_store _ _ _ _ _ (isOne_oneCell hv), hcell, hfz, h2]
/-- a struct stored whole into an element of a row of the walk's own. -/
theorem s_storeOA {α : Type} {enc : α → List Value} {T gb i s m c E : Nat} {x y : Operand} {xs : List α} {u v : α} {Γ' : List Asn} (hS : St n F0 w0 a w L Γ) (hx : ev L x = some (.pointer (some ⟨gb, 0 + i * s, none⟩))) (hy : ev L y = some (.agg (enc v).toArray)) (hl : ∀ x, (enc x).length = s)
    (h1 : (enc v).all isOne = true) (hz : szOf P T = some s) (hu : xs[i]? = some u) (hm : xs.length = m) (hr : Rep (ownA E s (.slice (some ⟨gb, 0, none⟩) m c) m (xs.flatMap enc)) (ownA E s (.slice (some ⟨gb, 0, none⟩) m c) m ((xs.set i v).flatMap enc)) Γ Γ') (h : ∀ w', St n F0 w0 a w' L Γ' → K a w') : OW P ⟨none, .store T x y, ty, pos, af, g⟩ a w K Q := by
  have hown : w.ownsRow 0 E s (.slice (some ⟨gb, 0, none⟩) m c) m (xs.flatMap enc) := hS.get hr.mem
  have hi : i < m := by rw [← hm]; exact (List.getElem?_eq_some_iff.1 hu).1
  obtain ⟨w', h2, h3, h4⟩ := storeOwn_run (P := P) (o := 0 + i * s) (enc v) 0 w _ hown (by rw [hl]; have := Nat.mul_le_mul_right s (show i + 1 ≤ m from hi); rw [Nat.add_mul] at this; omega) (by simpa using h1)
  rw [Nat.zero_add, Nat.add_zero, flat_put hl hu] at h3
  rw [Nat.zero_add] at h2
  have he : (execOp a.eval (⟨none, .store T x y, ty, pos, af, g⟩ : Oper)).run P w = .ok .skip w' := by
    simp [execOp, hS.sl.ev hx, hS.sl.ev hy, Instr.storeAt, Instr.sureAddr, storeVar, sizeOf_run hz, Value.cells, hl, h2]
  refine ⟨?_⟩
  unfold Oper.wp
  rw [he]
  exact h _ (hS.upd hr (h4.mono (fun k hk => by rw [hk]; rfl)) (ok_own h3) (fun k hk => .inl hk) rfl)
end Go.Proofs.Ytheofhegdjjfgaa

namespace Go.Proofs.Ytheofhegdjjfgaa
open Go.RowKit

set_option maxRecDepth 100000 in
theorem isNaN_P (x : Int) (w0 : World) : PureC Try.prog 96 [.int .i64 x] w0 (.bool false) := by
  refine c_enter [(0, .int .i64 x)] [] noB Try.func96 rfl Try.ntmps96 ⟨rfl, trivial⟩ rfl (by simp) (by simp) (by simp) ?_
  intro a hS
  refine c_seq ?_
  refine c_region ?_
  refine L_op (s_e hS (e_assign rfl) rfl ?_); clear hS a; intro a hS
  refine L_nil ?_
  refine n_then ?_
  refine c_seq ?_
  refine c_region ?_
  refine L_op (s_e hS (e_move rfl) rfl ?_); clear hS a; intro a hS
  refine L_op (s_e hS (e_move rfl) rfl ?_); clear hS a; intro a hS
  refine L_op (s_e hS (e_bin rfl rfl rfl) rfl ?_); clear hS a; intro a hS
  refine L_op (s_e hS (e_assign rfl) rfl ?_); clear hS a; intro a hS
  refine L_nil ?_
  refine n_then ?_
  refine wp_ret ?_
  refine c_ret1 hS Try.results96 (.tmp rfl) ?_
  exact ⟨by simp, hS.chg⟩
set_option maxRecDepth 100000 in
theorem cmpInt_P (u v : Int) (w0 : World) : PureC Try.prog 66 [.int .i64 u, .int .i64 v] w0 (.int .i64 (cmpI u v)) := by
  refine c_enter [(0, .int .i64 u), (1, .int .i64 v)] [] noB Try.func66 rfl Try.ntmps66 ⟨rfl, rfl, trivial⟩ rfl (by simp) (by simp) (by simp) ?_
  intro a hS
  refine c_seq ?_
  refine c_region ?_
  refine L_op (s_e hS (e_assign rfl) rfl ?_); clear hS a; intro a hS
  refine L_nil ?_
  refine n_then ?_
  refine c_seq ?_
  refine c_region ?_
  refine L_op (s_e hS (e_move rfl) rfl ?_); clear hS a; intro a hS
  refine L_op (s_callP hS (.cons rfl .nil) cf96 rfl (isNaN_P u _) ?_); clear hS a; (try clear w); intro a w hS
  refine L_op (s_e hS (e_assign rfl) rfl ?_); clear hS a; intro a hS
  refine L_nil ?_
  refine n_then ?_
  refine c_seq ?_
  refine c_region ?_
  refine L_op (s_e hS (e_move rfl) rfl ?_); clear hS a; intro a hS
  refine L_op (s_callP hS (.cons rfl .nil) cf96 rfl (isNaN_P v _) ?_); clear hS a; (try clear w); intro a w hS
  refine L_op (s_e hS (e_assign rfl) rfl ?_); clear hS a; intro a hS
  refine L_nil ?_
  refine n_then ?_
  refine c_seq ?_
  refine c_seq ?_
  refine c_region ?_
  refine L_op (s_e hS (e_move rfl) rfl ?_); clear hS a; intro a hS
  refine L_nil ?_
  refine n_then ?_
  replace hS := hS.is (t := 11) (c := false) rfl (rfl)
  refine c_if_f hS rfl ?_
  refine wp_skip ?_
  refine n_then ?_
  refine c_seq ?_
  refine c_seq ?_
  refine c_region ?_
  refine L_op (s_e hS (e_move rfl) rfl ?_); clear hS a; intro a hS
  refine L_nil ?_
  refine n_then ?_
  replace hS := hS.is (t := 13) (c := false) rfl (rfl)
  refine c_if_f hS rfl ?_
  refine wp_skip ?_
  refine n_then ?_
  refine c_seq ?_
  refine c_seq ?_
  refine c_region ?_
  refine L_op (s_e hS (e_move rfl) rfl ?_); clear hS a; intro a hS
  refine L_op (s_e hS (e_move rfl) rfl ?_); clear hS a; intro a hS
  refine L_op (s_e hS (e_bin rfl rfl rfl) rfl ?_); clear hS a; intro a hS
  refine L_nil ?_
  refine n_then ?_
  first | refine c_ifD hS rfl (fun hc16 => ?_) (fun hc16 => ?_) | refine c_if hS rfl (fun hc16 => ?_) (fun hc16 => ?_)
  ·
    refine c_seq ?_
    refine c_region ?_
    refine L_op (s_e hS (e_assign rfl) rfl ?_); clear hS a; intro a hS
    refine L_nil ?_
    refine n_then ?_
    refine wp_ret ?_
    refine r_then ?_
    refine c_ret1 hS Try.results66 (.tmp rfl) ?_
    exact ⟨by rw [show cmpI u v = -1 from if_pos (by omega)], hS.chg⟩
  ·
    refine wp_skip ?_
    refine n_then ?_
    refine c_seq ?_
    refine c_seq ?_
    refine c_region ?_
    refine L_op (s_e hS (e_move rfl) rfl ?_); clear hS a; intro a hS
    refine L_op (s_e hS (e_move rfl) rfl ?_); clear hS a; intro a hS
    refine L_op (s_e hS (e_bin rfl rfl rfl) rfl ?_); clear hS a; intro a hS
    refine L_nil ?_
    refine n_then ?_
    first | refine c_ifD hS rfl (fun hc19 => ?_) (fun hc19 => ?_) | refine c_if hS rfl (fun hc19 => ?_) (fun hc19 => ?_)
    ·
      refine c_seq ?_
      refine c_region ?_
      refine L_op (s_e hS (e_assign rfl) rfl ?_); clear hS a; intro a hS
      refine L_nil ?_
      refine n_then ?_
      refine wp_ret ?_
      refine r_then ?_
      refine c_ret1 hS Try.results66 (.tmp rfl) ?_
      exact ⟨by rw [show cmpI u v = 1 by unfold cmpI; rw [if_neg (by omega), if_pos (by omega)]], hS.chg⟩
    ·
      refine wp_skip ?_
      refine n_then ?_
      refine c_seq ?_
      refine c_region ?_
      refine L_op (s_e hS (e_assign rfl) rfl ?_); clear hS a; intro a hS
      refine L_nil ?_
      refine n_then ?_
      refine wp_ret ?_
      refine c_ret1 hS Try.results66 (.tmp rfl) ?_
      exact ⟨by rw [show cmpI u v = 0 by unfold cmpI; rw [if_neg (by omega), if_neg (by omega)]], hS.chg⟩
set_option maxRecDepth 100000 in
theorem lE1_P (x y : EA) (w0 : World) : PureC Try.prog 65 ([.agg (encE x).toArray, .agg (encE y).toArray] ++ []) w0 (.int .i64 (cmpI x.v.at_ y.v.at_)) := by
  refine c_enter [(0, .agg (encE x).toArray), (1, .agg (encE y).toArray)] [] noB Try.func65 rfl Try.ntmps65 ⟨rfl, rfl, trivial⟩ rfl (by simp) (by simp) (by simp) ?_
  intro a hS
  refine c_seq ?_
  refine c_region ?_
  refine L_op (s_boxA hS rfl rfl ?_); clear hS a; (try clear w); intro a w b2 hS
  refine L_op (s_boxA hS rfl rfl ?_); clear hS a; (try clear w); intro a w b3 hS
  refine L_op (s_e hS (e_assign rfl) rfl ?_); clear hS a; intro a hS
  refine L_nil ?_
  refine n_then ?_
  refine c_seq ?_
  refine c_region ?_
  first | (refine L_op (s_e hS (e_fa0 rfl ty_fo58_1) rfl ?_); clear hS a; intro a hS) | (refine L_op (s_e hS (e_faK rfl ty_fo58_1) rfl ?_); clear hS a; intro a hS)
  refine L_op (s_e hS (e_load rfl (by repeat constructor) ty_sc3 (by rfl)) rfl ?_); clear hS a; intro a hS
  first | (refine L_op (s_e hS (e_fa0 rfl ty_fo58_1) rfl ?_); clear hS a; intro a hS) | (refine L_op (s_e hS (e_faK rfl ty_fo58_1) rfl ?_); clear hS a; intro a hS)
  refine L_op (s_e hS (e_load rfl (by repeat constructor) ty_sc3 (by rfl)) rfl ?_); clear hS a; intro a hS
  refine L_op (s_callP hS (.cons rfl (.cons rfl .nil)) cf66 rfl (cmpInt_P x.v.at_ y.v.at_ _) ?_); clear hS a; (try clear w); intro a w hS
  refine L_op (s_e hS (e_assign rfl) rfl ?_); clear hS a; intro a hS
  refine L_nil ?_
  refine n_then ?_
  refine wp_ret ?_
  refine c_ret1 hS Try.results65 (.tmp rfl) ?_
  exact ⟨rfl, hS.chg⟩

/-- the function that compares. -/
abbrev cmpV : Value := .func (.func 65) #[] #[]
set_option maxHeartbeats 1000000 in
set_option maxRecDepth 100000 in
theorem swapR_P (g n c p q k : Nat) (A X M Y B zs zs' : List EA) (hz : zs = A ++ (X ++ (M ++ (Y ++ B)))) (hz' : zs' = A ++ (Y ++ (M ++ (X ++ B)))) (hxy : X.length = Y.length) (ha : p = A.length) (hb : q = p + X.length + M.length) (hk : k = X.length) (hn : zs.length = n) (hN : n ≤ 1000000) (w0 : World) (h : (ownA 58 4 (.slice (some ⟨g, 0, none⟩) n c) n ((zs).flatMap encE)).ok w0) :
    MutC Try.prog 136 [.slice (some ⟨g, 0, none⟩) n c, .int .i64 (p : Int), .int .i64 (q : Int), .int .i64 (k : Int), cmpV] w0 (ownA 58 4 (.slice (some ⟨g, 0, none⟩) n c) n ((zs).flatMap encE)) (fun _ : Unit => .tuple #[]) (fun _ => (ownA 58 4 (.slice (some ⟨g, 0, none⟩) n c) n ((zs').flatMap encE))) := by
  have hlen : ∀ i, (swapS A X M Y B i).length = n := fun i => by
    rw [← hn, hz]; unfold swapS; simp only [List.length_append, List.length_take, List.length_drop]; omega
  have hnn : p + X.length + M.length + Y.length ≤ n := by rw [← hn, hz]; simp only [List.length_append]; omega
  have hz0 : zs = swapS A X M Y B 0 := by rw [swapS_zero, hz]
  have hze : zs' = swapS A X M Y B X.length := by rw [swapS_end _ _ _ _ _ hxy, hz']
  refine c_enter [(0, .slice (some ⟨g, 0, none⟩) n c), (1, .int .i64 (p : Int)), (2, .int .i64 (q : Int)), (3, .int .i64 (k : Int)), (4, cmpV)] [(ownA 58 4 (.slice (some ⟨g, 0, none⟩) n c) n ((zs).flatMap encE))] (ownA 58 4 (.slice (some ⟨g, 0, none⟩) n c) n ((zs).flatMap encE)).F Try.func136 rfl Try.ntmps136 ⟨rfl, rfl, rfl, rfl, rfl, trivial⟩ rfl (okC h okN) dis1 (mineO (fun _ hb => hb) mineN) ?_
  intro a hS
  refine c_seq ?_
  refine c_region ?_
  refine L_op (s_e hS (e_assign rfl) rfl ?_); clear hS a; intro a hS
  refine L_nil ?_
  refine n_then ?_
  refine wp_block ?_
  skip
  refine c_loop (γ := Nat) (fun i a w => St 38 (ownA 58 4 (.slice (some ⟨g, 0, none⟩) n c) n ((zs).flatMap encE)).F w0 a w [(10, .int .i64 (i : Int)), (0, .slice (some ⟨g, 0, none⟩) n c), (1, .int .i64 (p : Int)), (2, .int .i64 (q : Int)), (3, .int .i64 (k : Int))] [(ownA 58 4 (.slice (some ⟨g, 0, none⟩) n c) n ((swapS A X M Y B i).flatMap encE))] ∧ i ≤ k) (fun i => k - i) 0 ⟨by rw [← hz0]; exact (hS.slots (by repeat (first | exact trivial | refine ⟨rfl, ?_⟩))).pick (by repeat (first | exact Pick.nil | (refine Pick.cons (by repeat (first | exact Rem.head | apply Rem.tail)) ?_))), Nat.zero_le _⟩ ?_
  clear hS a; (try clear w); intro i a w hI
  obtain ⟨hS, hi⟩ := hI
  refine c_seq ?_
  refine c_seq ?_
  refine c_region ?_
  refine L_op (s_e hS (e_move rfl) rfl ?_); clear hS a; intro a hS
  refine L_op (s_e hS (e_move rfl) rfl ?_); clear hS a; intro a hS
  refine L_op (s_e hS (e_bin rfl rfl rfl) rfl ?_); clear hS a; intro a hS
  refine L_nil ?_
  refine n_then ?_
  first | refine c_ifD hS rfl (fun hc13 => ?_) (fun hc13 => ?_) | refine c_if hS rfl (fun hc13 => ?_) (fun hc13 => ?_)
  ·
    obtain ⟨x, hx⟩ : ∃ x, X[i]? = some x := ⟨X[i]'(by omega), List.getElem?_eq_getElem (by omega)⟩
    obtain ⟨y, hy⟩ : ∃ y, Y[i]? = some y := ⟨Y[i]'(by omega), List.getElem?_eq_getElem (by omega)⟩
    have hs := swapS_step A X M Y B hxy hx hy
    rw [← ha, ← hb] at hs
    obtain ⟨s1, s2, s3⟩ := hs
    have s4 : ((swapS A X M Y B i).set (p + i) y)[q + i]? = some y := by rw [List.getElem?_set_ne (by omega)]; exact s2
    refine wp_skip ?_
    refine n_then ?_
    refine c_seq ?_
    refine wp_block ?_
    refine c_drawS [21, 23] (by kernel_rfl) hS (sub_cons (X := (ownA 58 4 (.slice (some ⟨g, 0, none⟩) n c) n ((swapS A X M Y B i).flatMap encE))) (by repeat constructor) sub_nil) ?_; clear hS; (try clear w); intro w hS
    simp only [List.length_cons, List.length_nil, Nat.zero_add, Nat.reduceAdd, List.replicate]
    refine Z_take0 (i := 0) hS rfl want_none (e_move rfl) (listed' := [true, false, false, false, false, false, false, false, false, false, false, false, false, false, false, false, false, false, false, false, false, false, false, false]) rfl (by kernel_rfl) (by kernel_rfl) (by kernel_rfl) (fun _ _ _ h => h) rfl ?_; clear hS a; intro a hS
    refine Z_take0 (i := 1) hS rfl want_none (e_move rfl) (listed' := [true, true, false, false, false, false, false, false, false, false, false, false, false, false, false, false, false, false, false, false, false, false, false, false]) rfl (by kernel_rfl) (by kernel_rfl) (by kernel_rfl) (fun _ _ _ h => h) rfl ?_; clear hS a; intro a hS
    refine Z_take0 (i := 2) hS rfl want_none (e_move rfl) (listed' := [true, true, true, false, false, false, false, false, false, false, false, false, false, false, false, false, false, false, false, false, false, false, false, false]) rfl (by kernel_rfl) (by kernel_rfl) (by kernel_rfl) (fun _ _ _ h => h) rfl ?_; clear hS a; intro a hS
    first | (refine Z_take0 (i := 3) hS rfl want_none (e_binN rfl rfl rfl (by omega)) (listed' := [true, true, true, true, false, false, false, false, false, false, false, false, false, false, false, false, false, false, false, false, false, false, false, false]) rfl (by kernel_rfl) (by kernel_rfl) (by kernel_rfl) (fun _ _ _ h => h) rfl ?_; clear hS a; intro a hS) | (refine Z_take0 (i := 3) hS rfl want_none (e_bin rfl rfl rfl) (listed' := [true, true, true, true, false, false, false, false, false, false, false, false, false, false, false, false, false, false, false, false, false, false, false, false]) rfl (by kernel_rfl) (by kernel_rfl) (by kernel_rfl) (fun _ _ _ h => h) rfl ?_; clear hS a; intro a hS)
    rw [show (p : Int) + (i : Int) = ((p + i : Nat) : Int) from by omega] at hS
    refine Z_take0 (i := 4) hS rfl want_none (e_move rfl) (listed' := [true, true, true, true, true, false, false, false, false, false, false, false, false, false, false, false, false, false, false, false, false, false, false, false]) rfl (by kernel_rfl) (by kernel_rfl) (by kernel_rfl) (fun _ _ _ h => h) rfl ?_; clear hS a; intro a hS
    refine Z_take0 (i := 5) hS rfl want_none (e_move rfl) (listed' := [true, true, true, true, true, true, false, false, false, false, false, false, false, false, false, false, false, false, false, false, false, false, false, false]) rfl (by kernel_rfl) (by kernel_rfl) (by kernel_rfl) (fun _ _ _ h => h) rfl ?_; clear hS a; intro a hS
    refine Z_take0 (i := 6) hS rfl want_none (e_move rfl) (listed' := [true, true, true, true, true, true, true, false, false, false, false, false, false, false, false, false, false, false, false, false, false, false, false, false]) rfl (by kernel_rfl) (by kernel_rfl) (by kernel_rfl) (fun _ _ _ h => h) rfl ?_; clear hS a; intro a hS
    first | (refine Z_take0 (i := 7) hS rfl want_none (e_binN rfl rfl rfl (by omega)) (listed' := [true, true, true, true, true, true, true, true, false, false, false, false, false, false, false, false, false, false, false, false, false, false, false, false]) rfl (by kernel_rfl) (by kernel_rfl) (by kernel_rfl) (fun _ _ _ h => h) rfl ?_; clear hS a; intro a hS) | (refine Z_take0 (i := 7) hS rfl want_none (e_bin rfl rfl rfl) (listed' := [true, true, true, true, true, true, true, true, false, false, false, false, false, false, false, false, false, false, false, false, false, false, false, false]) rfl (by kernel_rfl) (by kernel_rfl) (by kernel_rfl) (fun _ _ _ h => h) rfl ?_; clear hS a; intro a hS)
    rw [show (q : Int) + (i : Int) = ((q + i : Nat) : Int) from by omega] at hS
    refine Z_take0 (i := 8) hS rfl want_none (e_move rfl) (listed' := [true, true, true, true, true, true, true, true, true, false, false, false, false, false, false, false, false, false, false, false, false, false, false, false]) rfl (by kernel_rfl) (by kernel_rfl) (by kernel_rfl) (fun _ _ _ h => h) rfl ?_; clear hS a; intro a hS
    refine Z_take0 (i := 9) hS rfl want_none (e_move rfl) (listed' := [true, true, true, true, true, true, true, true, true, true, false, false, false, false, false, false, false, false, false, false, false, false, false, false]) rfl (by kernel_rfl) (by kernel_rfl) (by kernel_rfl) (fun _ _ _ h => h) rfl ?_; clear hS a; intro a hS
    refine Z_take0 (i := 10) hS rfl want_none (e_move rfl) (listed' := [true, true, true, true, true, true, true, true, true, true, true, false, false, false, false, false, false, false, false, false, false, false, false, false]) rfl (by kernel_rfl) (by kernel_rfl) (by kernel_rfl) (fun _ _ _ h => h) rfl ?_; clear hS a; intro a hS
    first | (refine Z_take0 (i := 11) hS rfl want_none (e_binN rfl rfl rfl (by omega)) (listed' := [true, true, true, true, true, true, true, true, true, true, true, true, false, false, false, false, false, false, false, false, false, false, false, false]) rfl (by kernel_rfl) (by kernel_rfl) (by kernel_rfl) (fun _ _ _ h => h) rfl ?_; clear hS a; intro a hS) | (refine Z_take0 (i := 11) hS rfl want_none (e_bin rfl rfl rfl) (listed' := [true, true, true, true, true, true, true, true, true, true, true, true, false, false, false, false, false, false, false, false, false, false, false, false]) rfl (by kernel_rfl) (by kernel_rfl) (by kernel_rfl) (fun _ _ _ h => h) rfl ?_; clear hS a; intro a hS)
    rw [show (q : Int) + (i : Int) = ((q + i : Nat) : Int) from by omega] at hS
    refine Z_take0 (i := 12) hS rfl want_none (e_ixN rfl rfl ty_sl54 ty_sz58 (by omega)) (listed' := [true, true, true, true, true, true, true, true, true, true, true, true, true, false, false, false, false, false, false, false, false, false, false, false]) rfl (by kernel_rfl) (by kernel_rfl) (by kernel_rfl) (fun _ _ _ h => h) rfl ?_; clear hS a; intro a hS
    refine Z_take (i := 13) hS rfl want_none (e_loadAC (l := encE y) rfl ty_st58 ty_sz58 (own_getL (enc := encE) (s := 4) (fun _ => rfl) (by repeat constructor) s2)) (listed' := [true, true, true, true, true, true, true, true, true, true, true, true, true, true, false, false, false, false, false, false, false, false, false, false]) rfl (by kernel_rfl) (by kernel_rfl) (by kernel_rfl) (by kernel_rfl) (by kernel_rfl) (sub_cons (by repeat constructor) sub_nil) (fun _ _ _ h => h) rfl ?_; clear hS a; intro a hS
    refine Z_take0 (i := 14) hS rfl want_none (e_move rfl) (listed' := [true, true, true, true, true, true, true, true, true, true, true, true, true, true, true, false, false, false, false, false, false, false, false, false]) rfl (by kernel_rfl) (by kernel_rfl) (by kernel_rfl) (fun _ _ _ h => h) rfl ?_; clear hS a; intro a hS
    refine Z_take0 (i := 15) hS rfl want_none (e_move rfl) (listed' := [true, true, true, true, true, true, true, true, true, true, true, true, true, true, true, true, false, false, false, false, false, false, false, false]) rfl (by kernel_rfl) (by kernel_rfl) (by kernel_rfl) (fun _ _ _ h => h) rfl ?_; clear hS a; intro a hS
    refine Z_take0 (i := 16) hS rfl want_none (e_move rfl) (listed' := [true, true, true, true, true, true, true, true, true, true, true, true, true, true, true, true, true, false, false, false, false, false, false, false]) rfl (by kernel_rfl) (by kernel_rfl) (by kernel_rfl) (fun _ _ _ h => h) rfl ?_; clear hS a; intro a hS
    first | (refine Z_take0 (i := 17) hS rfl want_none (e_binN rfl rfl rfl (by omega)) (listed' := [true, true, true, true, true, true, true, true, true, true, true, true, true, true, true, true, true, true, false, false, false, false, false, false]) rfl (by kernel_rfl) (by kernel_rfl) (by kernel_rfl) (fun _ _ _ h => h) rfl ?_; clear hS a; intro a hS) | (refine Z_take0 (i := 17) hS rfl want_none (e_bin rfl rfl rfl) (listed' := [true, true, true, true, true, true, true, true, true, true, true, true, true, true, true, true, true, true, false, false, false, false, false, false]) rfl (by kernel_rfl) (by kernel_rfl) (by kernel_rfl) (fun _ _ _ h => h) rfl ?_; clear hS a; intro a hS)
    rw [show (p : Int) + (i : Int) = ((p + i : Nat) : Int) from by omega] at hS
    refine Z_take0 (i := 18) hS rfl want_none (e_ixN rfl rfl ty_sl54 ty_sz58 (by omega)) (listed' := [true, true, true, true, true, true, true, true, true, true, true, true, true, true, true, true, true, true, true, false, false, false, false, false]) rfl (by kernel_rfl) (by kernel_rfl) (by kernel_rfl) (fun _ _ _ h => h) rfl ?_; clear hS a; intro a hS
    refine Z_take (i := 19) hS rfl want_none (e_loadAC (l := encE x) rfl ty_st58 ty_sz58 (own_getL (enc := encE) (s := 4) (fun _ => rfl) (by repeat constructor) s1)) (listed' := [true, true, true, true, true, true, true, true, true, true, true, true, true, true, true, true, true, true, true, true, false, false, false, false]) rfl (by kernel_rfl) (by kernel_rfl) (by kernel_rfl) (by kernel_rfl) (by kernel_rfl) (sub_cons (by repeat constructor) sub_nil) (fun _ _ _ h => h) rfl ?_; clear hS a; intro a hS
    refine Z_take0 (i := 20) hS rfl want_none (e_ixN rfl rfl ty_sl54 ty_sz58 (by omega)) (listed' := [true, true, true, true, true, true, true, true, true, true, true, true, true, true, true, true, true, true, true, true, true, false, false, false]) rfl (by kernel_rfl) (by kernel_rfl) (by kernel_rfl) (fun _ _ _ h => h) rfl ?_; clear hS a; intro a hS
    refine Z_one (i := 21) rfl (want_none a hS.sl) (listed' := [true, true, true, true, true, true, true, true, true, true, true, true, true, true, true, true, true, true, true, true, true, true, false, false]) rfl (by kernel_rfl) (s_storeOA (enc := encE) (s := 4) (m := n) (c := c) (v := y) (u := x) hS rfl rfl (fun _ => rfl) rfl ty_sz58 s1 (hlen i) (by repeat constructor) ?_); clear hS; (try clear w); intro w hS
    refine Z_last (by simp) ?_
    refine Z_take0 (i := 22) hS rfl want_none (e_ixN rfl rfl ty_sl54 ty_sz58 (by omega)) (listed' := [true, true, true, true, true, true, true, true, true, true, true, true, true, true, true, true, true, true, true, true, true, true, true, false]) rfl (by kernel_rfl) (by kernel_rfl) (by kernel_rfl) (fun _ _ _ h => h) rfl ?_; clear hS a; intro a hS
    refine Z_one (i := 23) rfl (want_none a hS.sl) (listed' := [true, true, true, true, true, true, true, true, true, true, true, true, true, true, true, true, true, true, true, true, true, true, true, true]) rfl (by kernel_rfl) (s_storeOA (enc := encE) (s := 4) (m := n) (c := c) (v := x) (u := y) hS rfl rfl (fun _ => rfl) rfl ty_sz58 s4 (by rw [List.length_set]; exact hlen i) (by repeat constructor) ?_); clear hS; (try clear w); intro w hS
    refine Z_last (by simp) ?_
    refine Z_done (by kernel_rfl) ?_
    refine n_block ?_
    refine n_then ?_
    refine c_region ?_
    refine L_op (s_e hS (e_move rfl) rfl ?_); clear hS a; intro a hS
    first | (refine L_op (s_e hS (e_binN rfl rfl rfl (by omega)) rfl ?_); clear hS a; intro a hS) | (refine L_op (s_e hS (e_bin rfl rfl rfl) rfl ?_); clear hS a; intro a hS)
    refine L_op (s_e hS (e_assign rfl) rfl ?_); clear hS a; intro a hS
    refine L_nil ?_
    rw [s3] at hS
    exact ⟨i + 1, by omega, (hS.slots (by repeat (first | exact trivial | refine ⟨rfl, ?_⟩))).pick (by repeat (first | exact Pick.nil | (refine Pick.cons (by repeat (first | exact Rem.head | apply Rem.tail)) ?_))), by omega⟩
  ·
    refine wp_exit ?_
    refine x_then (x_then (x_hit ?_))
    refine r_norm ?_
    refine c_retN hS Try.results136 .nil rfl ?_
    obtain rfl : i = k := by omega
    rw [hk, ← hze] at hS
    exact ⟨(), rfl, hS.chg, hS.ok (ownA 58 4 (.slice (some ⟨g, 0, none⟩) n c) n ((zs').flatMap encE)) (by repeat constructor), fun b hb => (hS.mine (ownA 58 4 (.slice (some ⟨g, 0, none⟩) n c) n ((zs').flatMap encE)) (by repeat constructor) rfl b hb).symm⟩
end Go.Proofs.Ytheofhegdjjfgaa

namespace Go.Proofs.Ytheofhegdjjfgaa
open Go.RowKit

set_option maxHeartbeats 1000000 in
set_option maxRecDepth 100000 in
theorem rotate_P (g n c p m e : Nat) (A X Y B zs zs' : List EA) (hz : zs = A ++ (X ++ (Y ++ B))) (hz' : zs' = A ++ (Y ++ (X ++ B))) (hp : p = A.length) (hm : m = p + X.length) (he : e = m + Y.length) (hX : X.length ≠ 0) (hY : Y.length ≠ 0) (hn : zs.length = n) (hN : n ≤ 1000000) (w0 : World) (h : (ownA 58 4 (.slice (some ⟨g, 0, none⟩) n c) n ((zs).flatMap encE)).ok w0) :
    MutC Try.prog 122 [.slice (some ⟨g, 0, none⟩) n c, .int .i64 (p : Int), .int .i64 (m : Int), .int .i64 (e : Int), cmpV] w0 (ownA 58 4 (.slice (some ⟨g, 0, none⟩) n c) n ((zs).flatMap encE)) (fun _ : Unit => .tuple #[]) (fun _ => (ownA 58 4 (.slice (some ⟨g, 0, none⟩) n c) n ((zs').flatMap encE))) := by
  have hnn : p + X.length + Y.length + B.length = n := by rw [← hn, hz]; simp only [List.length_append]; omega
  refine c_enter [(0, .slice (some ⟨g, 0, none⟩) n c), (1, .int .i64 (p : Int)), (2, .int .i64 (m : Int)), (3, .int .i64 (e : Int)), (4, cmpV)] [(ownA 58 4 (.slice (some ⟨g, 0, none⟩) n c) n ((zs).flatMap encE))] (ownA 58 4 (.slice (some ⟨g, 0, none⟩) n c) n ((zs).flatMap encE)).F Try.func122 rfl Try.ntmps122 ⟨rfl, rfl, rfl, rfl, rfl, trivial⟩ rfl (okC h okN) dis1 (mineO (fun _ hb => hb) mineN) ?_
  intro a hS
  refine c_seq ?_
  refine c_region ?_
  refine L_op (s_e hS (e_move rfl) rfl ?_); clear hS a; intro a hS
  refine L_op (s_e hS (e_move rfl) rfl ?_); clear hS a; intro a hS
  first | (refine L_op (s_e hS (e_binN rfl rfl rfl (by omega)) rfl ?_); clear hS a; intro a hS) | (refine L_op (s_e hS (e_bin rfl rfl rfl) rfl ?_); clear hS a; intro a hS)
  rw [show (m : Int) - (p : Int) = (X.length : Int) from by omega] at hS
  refine L_op (s_e hS (e_assign rfl) rfl ?_); clear hS a; intro a hS
  refine L_nil ?_
  refine n_then ?_
  refine c_seq ?_
  refine c_region ?_
  refine L_op (s_e hS (e_move rfl) rfl ?_); clear hS a; intro a hS
  refine L_op (s_e hS (e_move rfl) rfl ?_); clear hS a; intro a hS
  first | (refine L_op (s_e hS (e_binN rfl rfl rfl (by omega)) rfl ?_); clear hS a; intro a hS) | (refine L_op (s_e hS (e_bin rfl rfl rfl) rfl ?_); clear hS a; intro a hS)
  rw [show (e : Int) - (m : Int) = (Y.length : Int) from by omega] at hS
  refine L_op (s_e hS (e_assign rfl) rfl ?_); clear hS a; intro a hS
  refine L_nil ?_
  refine n_then ?_
  refine c_seq ?_
  refine wp_block ?_
  skip
  refine c_loop (γ := (List EA × List EA) × (List EA × List EA)) (fun G a w => St 58 (ownA 58 4 (.slice (some ⟨g, 0, none⟩) n c) n ((zs).flatMap encE)).F w0 a w [(10, .int .i64 (G.1.2.length : Int)), (11, .int .i64 (G.2.1.length : Int)), (0, .slice (some ⟨g, 0, none⟩) n c), (2, .int .i64 (m : Int)), (4, cmpV)] [(ownA 58 4 (.slice (some ⟨g, 0, none⟩) n c) n ((G.1.1 ++ (G.1.2 ++ (G.2.1 ++ G.2.2))).flatMap encE))] ∧ G.1.1.length + G.1.2.length = m ∧ m + G.2.1.length + G.2.2.length = n ∧ G.1.1 ++ (G.2.1 ++ (G.1.2 ++ G.2.2)) = zs' ∧ G.1.2.length ≠ 0 ∧ G.2.1.length ≠ 0) (fun G => G.1.2.length + G.2.1.length) ((A, X), (Y, B)) ⟨by rw [hz] at hS; exact (hS.slots (by repeat (first | exact trivial | refine ⟨rfl, ?_⟩))).pick (by repeat (first | exact Pick.nil | (refine Pick.cons (by repeat (first | exact Rem.head | apply Rem.tail)) ?_))), by simp only; omega, by simp only; omega, hz'.symm, hX, hY⟩ ?_
  clear hS a; (try clear w); intro G a w hI
  obtain ⟨⟨A1, X1⟩, ⟨Y1, B1⟩⟩ := G
  obtain ⟨hS, h1, h2, h3, h4, h5⟩ := hI
  simp only at hS h1 h2 h3 h4 h5
  have hl1 : (A1 ++ (X1 ++ (Y1 ++ B1))).length = n := by simp only [List.length_append]; omega
  refine c_seq ?_
  refine c_seq ?_
  refine c_region ?_
  refine L_op (s_e hS (e_move rfl) rfl ?_); clear hS a; intro a hS
  refine L_op (s_e hS (e_move rfl) rfl ?_); clear hS a; intro a hS
  refine L_op (s_e hS (e_bin rfl rfl rfl) rfl ?_); clear hS a; intro a hS
  refine L_nil ?_
  refine n_then ?_
  first | refine c_ifD hS rfl (fun hc20 => ?_) (fun hc20 => ?_) | refine c_if hS rfl (fun hc20 => ?_) (fun hc20 => ?_)
  ·
    refine wp_skip ?_
    refine n_then ?_
    refine wp_block ?_
    refine c_seq ?_
    refine c_region ?_
    refine L_op (s_e hS (e_move rfl) rfl ?_); clear hS a; intro a hS
    refine L_op (s_e hS (e_move rfl) rfl ?_); clear hS a; intro a hS
    refine L_op (s_e hS (e_bin rfl rfl rfl) rfl ?_); clear hS a; intro a hS
    refine L_nil ?_
    refine n_then ?_
    first | refine c_ifD hS rfl (fun hc23 => ?_) (fun hc23 => ?_) | refine c_if hS rfl (fun hc23 => ?_) (fun hc23 => ?_)
    ·
      refine c_seq ?_
      refine c_region ?_
      refine L_op (s_e hS (e_move rfl) rfl ?_); clear hS a; intro a hS
      refine L_op (s_e hS (e_move rfl) rfl ?_); clear hS a; intro a hS
      refine L_op (s_e hS (e_move rfl) rfl ?_); clear hS a; intro a hS
      first | (refine L_op (s_e hS (e_binN rfl rfl rfl (by omega)) rfl ?_); clear hS a; intro a hS) | (refine L_op (s_e hS (e_bin rfl rfl rfl) rfl ?_); clear hS a; intro a hS)
      rw [show (m : Int) - (X1.length : Int) = ((A1.length : Nat) : Int) from by omega] at hS
      refine L_op (s_e hS (e_move rfl) rfl ?_); clear hS a; intro a hS
      refine L_op (s_e hS (e_move rfl) rfl ?_); clear hS a; intro a hS
      refine L_op (s_e hS (e_move rfl) rfl ?_); clear hS a; intro a hS
      refine L_op (s_callM hS (.cons rfl (.cons rfl (.cons rfl (.cons rfl (.cons rfl .nil))))) cf136 rfl (swapR_P g n c A1.length m Y1.length A1 (X1.take Y1.length) (X1.drop Y1.length) Y1 B1 (A1 ++ (X1 ++ (Y1 ++ B1))) ((A1 ++ Y1) ++ (X1.drop Y1.length ++ (X1.take Y1.length ++ B1))) (by rw [← List.append_assoc (X1.take Y1.length), List.take_append_drop]) (by rw [List.append_assoc]) (by rw [List.length_take]; omega) rfl (by rw [List.length_take, List.length_drop]; omega) (by rw [List.length_take]; omega) hl1 hN _ (hS.ok (ownA 58 4 (.slice (some ⟨g, 0, none⟩) n c) n ((A1 ++ (X1 ++ (Y1 ++ B1))).flatMap encE)) (by repeat constructor))) (fun x => (by repeat constructor)) rfl ?_); clear hS a; (try clear w); intro x31 a w hS
      refine L_nil ?_
      refine n_then ?_
      refine c_region ?_
      refine L_op (s_e hS (e_move rfl) rfl ?_); clear hS a; intro a hS
      refine L_op (s_e hS (e_move rfl) rfl ?_); clear hS a; intro a hS
      first | (refine L_op (s_e hS (e_binN rfl rfl rfl (by omega)) rfl ?_); clear hS a; intro a hS) | (refine L_op (s_e hS (e_bin rfl rfl rfl) rfl ?_); clear hS a; intro a hS)
      rw [show (X1.length : Int) - (Y1.length : Int) = (((X1.drop Y1.length).length : Nat) : Int) from by rw [List.length_drop]; omega] at hS
      refine L_op (s_e hS (e_assign rfl) rfl ?_); clear hS a; intro a hS
      refine L_nil ?_
      refine n_block ?_
      first
      | (have e1 : (X1.take Y1.length).length = Y1.length := by rw [List.length_take]; omega
         refine ⟨((A1 ++ Y1, X1.drop Y1.length), (X1.take Y1.length, B1)), by simp only [List.length_take, List.length_drop]; omega, ?_, by simp only [List.length_append, List.length_drop]; omega, by simp only; rw [e1]; omega, ?_, by simp only [List.length_drop]; omega, by simp only; rw [e1]; omega⟩
         · simp only; rw [e1]; exact (hS.slots (by repeat (first | exact trivial | refine ⟨rfl, ?_⟩))).pick (by repeat (first | exact Pick.nil | (refine Pick.cons (by repeat (first | exact Rem.head | apply Rem.tail)) ?_)))
         · simp only; rw [← h3, List.append_assoc]; congr 2; rw [← List.append_assoc, List.take_append_drop])
      | (have e1 : (Y1.drop (Y1.length - X1.length)).length = X1.length := by rw [List.length_drop]; omega
         refine ⟨((A1, Y1.drop (Y1.length - X1.length)), (Y1.take (Y1.length - X1.length), X1 ++ B1)), by simp only [List.length_take, List.length_drop]; omega, ?_, by simp only; rw [e1]; omega, by simp only [List.length_append, List.length_take]; omega, ?_, by simp only; rw [e1]; omega, by simp only [List.length_take]; omega⟩
         · simp only; rw [e1]; exact (hS.slots (by repeat (first | exact trivial | refine ⟨rfl, ?_⟩))).pick (by repeat (first | exact Pick.nil | (refine Pick.cons (by repeat (first | exact Rem.head | apply Rem.tail)) ?_)))
         · simp only; rw [← h3]; congr 1; rw [← List.append_assoc, List.take_append_drop])
    ·
      refine c_seq ?_
      refine c_region ?_
      refine L_op (s_e hS (e_move rfl) rfl ?_); clear hS a; intro a hS
      refine L_op (s_e hS (e_move rfl) rfl ?_); clear hS a; intro a hS
      refine L_op (s_e hS (e_move rfl) rfl ?_); clear hS a; intro a hS
      first | (refine L_op (s_e hS (e_binN rfl rfl rfl (by omega)) rfl ?_); clear hS a; intro a hS) | (refine L_op (s_e hS (e_bin rfl rfl rfl) rfl ?_); clear hS a; intro a hS)
      rw [show (m : Int) - (X1.length : Int) = ((A1.length : Nat) : Int) from by omega] at hS
      refine L_op (s_e hS (e_move rfl) rfl ?_); clear hS a; intro a hS
      refine L_op (s_e hS (e_move rfl) rfl ?_); clear hS a; intro a hS
      first | (refine L_op (s_e hS (e_binN rfl rfl rfl (by omega)) rfl ?_); clear hS a; intro a hS) | (refine L_op (s_e hS (e_bin rfl rfl rfl) rfl ?_); clear hS a; intro a hS)
      refine L_op (s_e hS (e_move rfl) rfl ?_); clear hS a; intro a hS
      first | (refine L_op (s_e hS (e_binN rfl rfl rfl (by omega)) rfl ?_); clear hS a; intro a hS) | (refine L_op (s_e hS (e_bin rfl rfl rfl) rfl ?_); clear hS a; intro a hS)
      rw [show (m : Int) + (Y1.length : Int) - (X1.length : Int) = ((m + (Y1.length - X1.length) : Nat) : Int) from by omega] at hS
      refine L_op (s_e hS (e_move rfl) rfl ?_); clear hS a; intro a hS
      refine L_op (s_e hS (e_move rfl) rfl ?_); clear hS a; intro a hS
      refine L_op (s_callM hS (.cons rfl (.cons rfl (.cons rfl (.cons rfl (.cons rfl .nil))))) cf136 rfl (swapR_P g n c A1.length (m + (Y1.length - X1.length)) X1.length A1 X1 (Y1.take (Y1.length - X1.length)) (Y1.drop (Y1.length - X1.length)) B1 (A1 ++ (X1 ++ (Y1 ++ B1))) (A1 ++ (Y1.drop (Y1.length - X1.length) ++ (Y1.take (Y1.length - X1.length) ++ (X1 ++ B1)))) (by rw [← List.append_assoc (Y1.take (Y1.length - X1.length)), List.take_append_drop]) rfl (by rw [List.length_drop]; omega) rfl (by rw [List.length_take]; omega) rfl hl1 hN _ (hS.ok (ownA 58 4 (.slice (some ⟨g, 0, none⟩) n c) n ((A1 ++ (X1 ++ (Y1 ++ B1))).flatMap encE)) (by repeat constructor))) (fun x => (by repeat constructor)) rfl ?_); clear hS a; (try clear w); intro x46 a w hS
      refine L_nil ?_
      refine n_then ?_
      refine c_region ?_
      refine L_op (s_e hS (e_move rfl) rfl ?_); clear hS a; intro a hS
      refine L_op (s_e hS (e_move rfl) rfl ?_); clear hS a; intro a hS
      first | (refine L_op (s_e hS (e_binN rfl rfl rfl (by omega)) rfl ?_); clear hS a; intro a hS) | (refine L_op (s_e hS (e_bin rfl rfl rfl) rfl ?_); clear hS a; intro a hS)
      rw [show (Y1.length : Int) - (X1.length : Int) = (((Y1.take (Y1.length - X1.length)).length : Nat) : Int) from by rw [List.length_take]; omega] at hS
      refine L_op (s_e hS (e_assign rfl) rfl ?_); clear hS a; intro a hS
      refine L_nil ?_
      refine n_block ?_
      first
      | (have e1 : (X1.take Y1.length).length = Y1.length := by rw [List.length_take]; omega
         refine ⟨((A1 ++ Y1, X1.drop Y1.length), (X1.take Y1.length, B1)), by simp only [List.length_take, List.length_drop]; omega, ?_, by simp only [List.length_append, List.length_drop]; omega, by simp only; rw [e1]; omega, ?_, by simp only [List.length_drop]; omega, by simp only; rw [e1]; omega⟩
         · simp only; rw [e1]; exact (hS.slots (by repeat (first | exact trivial | refine ⟨rfl, ?_⟩))).pick (by repeat (first | exact Pick.nil | (refine Pick.cons (by repeat (first | exact Rem.head | apply Rem.tail)) ?_)))
         · simp only; rw [← h3, List.append_assoc]; congr 2; rw [← List.append_assoc, List.take_append_drop])
      | (have e1 : (Y1.drop (Y1.length - X1.length)).length = X1.length := by rw [List.length_drop]; omega
         refine ⟨((A1, Y1.drop (Y1.length - X1.length)), (Y1.take (Y1.length - X1.length), X1 ++ B1)), by simp only [List.length_take, List.length_drop]; omega, ?_, by simp only; rw [e1]; omega, by simp only [List.length_append, List.length_take]; omega, ?_, by simp only; rw [e1]; omega, by simp only [List.length_take]; omega⟩
         · simp only; rw [e1]; exact (hS.slots (by repeat (first | exact trivial | refine ⟨rfl, ?_⟩))).pick (by repeat (first | exact Pick.nil | (refine Pick.cons (by repeat (first | exact Rem.head | apply Rem.tail)) ?_)))
         · simp only; rw [← h3]; congr 1; rw [← List.append_assoc, List.take_append_drop])
  ·
    have hxy : X1.length = Y1.length := by omega
    refine wp_exit ?_
    refine x_then (x_then (x_hit ?_))
    refine n_then ?_
    refine c_region ?_
    refine L_op (s_e hS (e_move rfl) rfl ?_); clear hS a; intro a hS
    refine L_op (s_e hS (e_move rfl) rfl ?_); clear hS a; intro a hS
    refine L_op (s_e hS (e_move rfl) rfl ?_); clear hS a; intro a hS
    first | (refine L_op (s_e hS (e_binN rfl rfl rfl (by omega)) rfl ?_); clear hS a; intro a hS) | (refine L_op (s_e hS (e_bin rfl rfl rfl) rfl ?_); clear hS a; intro a hS)
    rw [show (m : Int) - (X1.length : Int) = ((A1.length : Nat) : Int) from by omega] at hS
    refine L_op (s_e hS (e_move rfl) rfl ?_); clear hS a; intro a hS
    refine L_op (s_e hS (e_move rfl) rfl ?_); clear hS a; intro a hS
    refine L_op (s_e hS (e_move rfl) rfl ?_); clear hS a; intro a hS
    refine L_op (s_callM hS (.cons rfl (.cons rfl (.cons rfl (.cons rfl (.cons rfl .nil))))) cf136 rfl (swapR_P g n c A1.length m X1.length A1 X1 [] Y1 B1 (A1 ++ (X1 ++ (Y1 ++ B1))) zs' (by simp) (by rw [← h3]; simp) hxy rfl (by simp; omega) rfl hl1 hN _ (hS.ok (ownA 58 4 (.slice (some ⟨g, 0, none⟩) n c) n ((A1 ++ (X1 ++ (Y1 ++ B1))).flatMap encE)) (by repeat constructor))) (fun x => (by repeat constructor)) rfl ?_); clear hS a; (try clear w); intro x57 a w hS
    refine L_nil ?_
    refine r_norm ?_
    refine c_retN hS Try.results122 .nil rfl ?_
    exact ⟨(), rfl, hS.chg, hS.ok (ownA 58 4 (.slice (some ⟨g, 0, none⟩) n c) n ((zs').flatMap encE)) (by repeat constructor), fun b hb => (hS.mine (ownA 58 4 (.slice (some ⟨g, 0, none⟩) n c) n ((zs').flatMap encE)) (by repeat constructor) rfl b hb).symm⟩

/-- is the last one later? -/
def lastLt (P1 : List EA) (y : EA) : Prop := match P1.getLast? with | some z => y.v.at_ < z.v.at_ | none => False
instance (P1 : List EA) (y : EA) : Decidable (lastLt P1 y) := by unfold lastLt; split <;> infer_instance
theorem lastLt_snoc (Q : List EA) (z y : EA) : lastLt (Q ++ [z]) y ↔ y.v.at_ < z.v.at_ := by unfold lastLt; simp
theorem snoc_of {P1 : List EA} (h : P1.length ≠ 0) : ∃ Q z, P1 = Q ++ [z] := by
  rcases List.eq_nil_or_concat P1 with e | ⟨Q, z, e⟩
  · rw [e] at h; exact absurd rfl h
  · exact ⟨Q, z, by rw [e]; simp⟩
theorem at_mid {α : Type} (P S : List α) (x : α) : (P ++ x :: S)[P.length]? = some x := by simp

set_option maxHeartbeats 1000000 in
set_option maxRecDepth 100000 in
theorem insort_P (g n c p e : Nat) (A seg B zs : List EA) (hz : zs = A ++ (seg ++ B)) (hids : Ids seg) (hp : p = A.length) (he : e = p + seg.length) (hn : zs.length = n) (hN : n ≤ 1000000) (w0 : World) (h : (ownA 58 4 (.slice (some ⟨g, 0, none⟩) n c) n ((zs).flatMap encE)).ok w0) :
    MutC Try.prog 113 [.slice (some ⟨g, 0, none⟩) n c, .int .i64 (p : Int), .int .i64 (e : Int), cmpV] w0 (ownA 58 4 (.slice (some ⟨g, 0, none⟩) n c) n ((zs).flatMap encE)) (fun _ : { S // IsS seg S } => .tuple #[]) (fun S => (ownA 58 4 (.slice (some ⟨g, 0, none⟩) n c) n ((A ++ (S.1 ++ B)).flatMap encE))) := by
  have hnn : p + seg.length + B.length = n := by rw [← hn, hz]; simp only [List.length_append]; omega
  refine c_enter [(0, .slice (some ⟨g, 0, none⟩) n c), (1, .int .i64 (p : Int)), (2, .int .i64 (e : Int)), (3, cmpV)] [(ownA 58 4 (.slice (some ⟨g, 0, none⟩) n c) n ((zs).flatMap encE))] (ownA 58 4 (.slice (some ⟨g, 0, none⟩) n c) n ((zs).flatMap encE)).F Try.func113 rfl Try.ntmps113 ⟨rfl, rfl, rfl, rfl, trivial⟩ rfl (okC h okN) dis1 (mineO (fun _ hb => hb) mineN) ?_
  intro a hS
  refine c_seq ?_
  refine c_region ?_
  refine L_op (s_e hS (e_move rfl) rfl ?_); clear hS a; intro a hS
  first | (refine L_op (s_e hS (e_binN rfl rfl rfl (by omega)) rfl ?_); clear hS a; intro a hS) | (refine L_op (s_e hS (e_bin rfl rfl rfl) rfl ?_); clear hS a; intro a hS)
  rw [show (p : Int) + 1 = ((p + 1 : Nat) : Int) from by omega] at hS
  refine L_op (s_e hS (e_assign rfl) rfl ?_); clear hS a; intro a hS
  refine L_nil ?_
  refine n_then ?_
  refine wp_block ?_
  skip
  refine c_loop (γ := Nat × List EA) (fun G a w => St 53 (ownA 58 4 (.slice (some ⟨g, 0, none⟩) n c) n ((zs).flatMap encE)).F w0 a w [(8, .int .i64 ((p + G.1 : Nat) : Int)), (0, .slice (some ⟨g, 0, none⟩) n c), (1, .int .i64 (p : Int)), (2, .int .i64 (e : Int)), (3, cmpV)] [(ownA 58 4 (.slice (some ⟨g, 0, none⟩) n c) n ((A ++ (G.2 ++ (seg.drop G.1 ++ B))).flatMap encE))] ∧ IsS (seg.take G.1) G.2 ∧ (G.1 ≤ seg.length ∨ G.1 = 1)) (fun G => seg.length - G.1) (1, seg.take 1) ⟨by simp only; rw [← List.append_assoc (seg.take 1), List.take_append_drop, ← hz]; exact (hS.slots (by repeat (first | exact trivial | refine ⟨rfl, ?_⟩))).pick (by repeat (first | exact Pick.nil | (refine Pick.cons (by repeat (first | exact Rem.head | apply Rem.tail)) ?_))), ⟨.refl _, by cases seg <;> simp⟩, .inr rfl⟩ ?_
  clear hS a; (try clear w); intro G a w hI
  obtain ⟨u, P0⟩ := G
  obtain ⟨hS, his, hu⟩ := hI
  simp only at hS his hu
  refine c_seq ?_
  refine c_seq ?_
  refine c_region ?_
  refine L_op (s_e hS (e_move rfl) rfl ?_); clear hS a; intro a hS
  refine L_op (s_e hS (e_move rfl) rfl ?_); clear hS a; intro a hS
  refine L_op (s_e hS (e_bin rfl rfl rfl) rfl ?_); clear hS a; intro a hS
  refine L_nil ?_
  refine n_then ?_
  first | refine c_ifD hS rfl (fun hc14 => ?_) (fun hc14 => ?_) | refine c_if hS rfl (fun hc14 => ?_) (fun hc14 => ?_)
  ·
    have hul : u < seg.length := by omega
    obtain ⟨y, hy⟩ : ∃ y, seg[u]? = some y := ⟨seg[u], List.getElem?_eq_getElem hul⟩
    have hdu : seg.drop u = y :: seg.drop (u + 1) := by
      obtain ⟨_, h2⟩ := List.getElem?_eq_some_iff.1 hy
      rw [← h2, List.getElem_cons_drop]
    have hpl := his.len
    rw [List.length_take] at hpl
    rw [hdu] at hS
    refine wp_skip ?_
    refine n_then ?_
    refine c_seq ?_
    refine wp_block ?_
    refine c_seq ?_
    refine c_region ?_
    refine L_op (s_e hS (e_move rfl) rfl ?_); clear hS a; intro a hS
    refine L_op (s_e hS (e_assign rfl) rfl ?_); clear hS a; intro a hS
    refine L_nil ?_
    refine n_then ?_
    refine wp_block ?_
    skip
    refine c_loop (γ := List EA × List EA) (fun H a w => St 53 (ownA 58 4 (.slice (some ⟨g, 0, none⟩) n c) n ((zs).flatMap encE)).F w0 a w [(9, .int .i64 ((p + H.1.length : Nat) : Int)), (8, .int .i64 ((p + u : Nat) : Int)), (0, .slice (some ⟨g, 0, none⟩) n c), (1, .int .i64 (p : Int)), (2, .int .i64 (e : Int)), (3, cmpV)] [(ownA 58 4 (.slice (some ⟨g, 0, none⟩) n c) n (((A ++ H.1) ++ y :: (H.2 ++ (seg.drop (u + 1) ++ B))).flatMap encE))] ∧ InsOk seg u H.1 H.2 y) (fun H => H.1.length) (P0, []) ⟨by simp only; rw [show P0.length = u from by omega, List.append_assoc]; exact (hS.slots (by repeat (first | exact trivial | refine ⟨rfl, ?_⟩))).pick (by repeat (first | exact Pick.nil | (refine Pick.cons (by repeat (first | exact Rem.head | apply Rem.tail)) ?_))), ⟨by simpa using his, hy, fun x hx => (by cases hx)⟩⟩ ?_
    clear hS a; (try clear w); intro H a w hI
    obtain ⟨P1, P2⟩ := H
    obtain ⟨hS, hio⟩ := hI
    simp only at hS hio
    have hil := hio.is.len
    rw [List.length_append, List.length_take] at hil
    have hll : ((A ++ P1) ++ y :: (P2 ++ (seg.drop (u + 1) ++ B))).length = n := by simp only [List.length_append, List.length_cons, List.length_drop]; omega
    have hat : ((A ++ P1) ++ y :: (P2 ++ (seg.drop (u + 1) ++ B)))[p + P1.length]? = some y := by rw [show p + P1.length = (A ++ P1).length from by rw [List.length_append]; omega]; exact at_mid _ _ _
    refine c_seq ?_
    refine c_seq ?_
    refine c_drawS [] (by kernel_rfl) hS (sub_cons (X := (ownA 58 4 (.slice (some ⟨g, 0, none⟩) n c) n (((A ++ P1) ++ y :: (P2 ++ (seg.drop (u + 1) ++ B))).flatMap encE))) (by repeat constructor) sub_nil) ?_; clear hS; (try clear w); intro w hS
    simp only [List.length_cons, List.length_nil, Nat.zero_add, Nat.reduceAdd, List.replicate]
    refine Z_take0 (i := 0) hS rfl want_none (e_move rfl) (listed' := [true, false, false, false, false, false, false, false, false, false, false, false, false, false, false, false, false]) rfl (by kernel_rfl) (by kernel_rfl) (by kernel_rfl) (fun _ _ _ h => h) rfl ?_; clear hS a; intro a hS
    refine Z_take0 (i := 1) hS rfl want_none (e_move rfl) (listed' := [true, true, false, false, false, false, false, false, false, false, false, false, false, false, false, false, false]) rfl (by kernel_rfl) (by kernel_rfl) (by kernel_rfl) (fun _ _ _ h => h) rfl ?_; clear hS a; intro a hS
    refine Z_take0 (i := 2) hS rfl want_none (e_bin rfl rfl rfl) (listed' := [true, true, true, false, false, false, false, false, false, false, false, false, false, false, false, false, false]) rfl (by kernel_rfl) (by kernel_rfl) (by kernel_rfl) (fun _ _ _ h => h) rfl ?_; clear hS a; intro a hS
    refine Z_take0 (i := 3) hS rfl want_none (e_move rfl) (listed' := [true, true, true, true, false, false, false, false, false, false, false, false, false, false, false, false, false]) rfl (by kernel_rfl) (by kernel_rfl) (by kernel_rfl) (fun _ _ _ h => h) rfl ?_; clear hS a; intro a hS
    refine Z_merge 0 [true, true, true, true, true, true, true, true, true, true, true, true, true, true, true, true, true] 34 (.bool (decide (lastLt P1 y))) hS ?_ ?_
    · intro hcM34
      (first | refine g_splitD (t := 21) hS rfl ?_ ?_ | refine g_split (t := 21) hS rfl ?_ ?_) <;> (clear hS; intro hg21 hS)
      ·
        obtain ⟨Q, z, hQ⟩ := snoc_of (P1 := P1) (by omega)
        have hQl : P1.length = Q.length + 1 := by rw [hQ]; simp
        have hzt : ((A ++ P1) ++ y :: (P2 ++ (seg.drop (u + 1) ++ B)))[p + P1.length - 1]? = some z := by
          rw [show p + P1.length - 1 = (A ++ Q).length from by rw [List.length_append]; omega, hQ, ← List.append_assoc, List.append_assoc (A ++ Q)]
          exact at_mid _ _ _
        refine Z_take0 (i := 4) hS rfl (want_go rfl rfl) (e_move rfl) (listed' := [true, true, true, true, true, false, false, false, false, false, false, false, false, false, false, false, false]) rfl (by kernel_rfl) (by kernel_rfl) (by kernel_rfl) (fun _ _ _ h => h) rfl ?_; clear hS a; intro a hS
        refine Z_take0 (i := 5) hS rfl (want_go rfl rfl) (e_move rfl) (listed' := [true, true, true, true, true, true, false, false, false, false, false, false, false, false, false, false, false]) rfl (by kernel_rfl) (by kernel_rfl) (by kernel_rfl) (fun _ _ _ h => h) rfl ?_; clear hS a; intro a hS
        refine Z_take0 (i := 6) hS rfl (want_go rfl rfl) (e_move rfl) (listed' := [true, true, true, true, true, true, true, false, false, false, false, false, false, false, false, false, false]) rfl (by kernel_rfl) (by kernel_rfl) (by kernel_rfl) (fun _ _ _ h => h) rfl ?_; clear hS a; intro a hS
        refine Z_take0 (i := 7) hS rfl (want_go rfl rfl) (e_ixN rfl rfl ty_sl54 ty_sz58 (by omega)) (listed' := [true, true, true, true, true, true, true, true, false, false, false, false, false, false, false, false, false]) rfl (by kernel_rfl) (by kernel_rfl) (by kernel_rfl) (fun _ _ _ h => h) rfl ?_; clear hS a; intro a hS
        refine Z_take (i := 8) hS rfl (want_go rfl rfl) (e_loadAC (l := encE y) rfl ty_st58 ty_sz58 (own_getL (enc := encE) (s := 4) (fun _ => rfl) (by repeat constructor) hat)) (listed' := [true, true, true, true, true, true, true, true, true, false, false, false, false, false, false, false, false]) rfl (by kernel_rfl) (by kernel_rfl) (by kernel_rfl) (by kernel_rfl) (by kernel_rfl) (sub_cons (by repeat constructor) sub_nil) (fun _ _ _ h => h) rfl ?_; clear hS a; intro a hS
        refine Z_take0 (i := 9) hS rfl (want_go rfl rfl) (e_move rfl) (listed' := [true, true, true, true, true, true, true, true, true, true, false, false, false, false, false, false, false]) rfl (by kernel_rfl) (by kernel_rfl) (by kernel_rfl) (fun _ _ _ h => h) rfl ?_; clear hS a; intro a hS
        refine Z_take0 (i := 10) hS rfl (want_go rfl rfl) (e_move rfl) (listed' := [true, true, true, true, true, true, true, true, true, true, true, false, false, false, false, false, false]) rfl (by kernel_rfl) (by kernel_rfl) (by kernel_rfl) (fun _ _ _ h => h) rfl ?_; clear hS a; intro a hS
        first | (refine Z_take0 (i := 11) hS rfl (want_go rfl rfl) (e_binN rfl rfl rfl (by omega)) (listed' := [true, true, true, true, true, true, true, true, true, true, true, true, false, false, false, false, false]) rfl (by kernel_rfl) (by kernel_rfl) (by kernel_rfl) (fun _ _ _ h => h) rfl ?_; clear hS a; intro a hS) | (refine Z_take0 (i := 11) hS rfl (want_go rfl rfl) (e_bin rfl rfl rfl) (listed' := [true, true, true, true, true, true, true, true, true, true, true, true, false, false, false, false, false]) rfl (by kernel_rfl) (by kernel_rfl) (by kernel_rfl) (fun _ _ _ h => h) rfl ?_; clear hS a; intro a hS)
        rw [show ((p + P1.length : Nat) : Int) - 1 = ((p + P1.length - 1 : Nat) : Int) from by omega] at hS
        refine Z_take0 (i := 12) hS rfl (want_go rfl rfl) (e_ixN rfl rfl ty_sl54 ty_sz58 (by omega)) (listed' := [true, true, true, true, true, true, true, true, true, true, true, true, true, false, false, false, false]) rfl (by kernel_rfl) (by kernel_rfl) (by kernel_rfl) (fun _ _ _ h => h) rfl ?_; clear hS a; intro a hS
        refine Z_take (i := 13) hS rfl (want_go rfl rfl) (e_loadAC (l := encE z) rfl ty_st58 ty_sz58 (own_getL (enc := encE) (s := 4) (fun _ => rfl) (by repeat constructor) hzt)) (listed' := [true, true, true, true, true, true, true, true, true, true, true, true, true, true, false, false, false]) rfl (by kernel_rfl) (by kernel_rfl) (by kernel_rfl) (by kernel_rfl) (by kernel_rfl) (sub_cons (by repeat constructor) sub_nil) (fun _ _ _ h => h) rfl ?_; clear hS a; intro a hS
        refine Z_one (i := 14) rfl (want_go rfl rfl a hS.sl) (listed' := [true, true, true, true, true, true, true, true, true, true, true, true, true, true, true, false, false]) rfl (by kernel_rfl) (s_callvP (cs := []) hS rfl (.cons rfl (.cons rfl .nil)) cf65 rfl (lE1_P y z _) ?_); clear hS a; (try clear w); intro a w hS
        refine Z_and hS (sub_cons (by repeat constructor) sub_nil) ?_
        refine Z_take0 (i := 15) hS rfl (want_go rfl rfl) (e_bin rfl rfl rfl) (listed' := [true, true, true, true, true, true, true, true, true, true, true, true, true, true, true, true, false]) rfl (by kernel_rfl) (by kernel_rfl) (by kernel_rfl) (fun _ _ _ h => h) rfl ?_; clear hS a; intro a hS
        first | (refine Z_take0 (i := 16) hS rfl want_none (e_pick_t rfl rfl) (listed' := [true, true, true, true, true, true, true, true, true, true, true, true, true, true, true, true, true]) rfl (by kernel_rfl) (by kernel_rfl) (by kernel_rfl) (fun _ _ _ h => h) rfl ?_; clear hS a; intro a hS) | (refine Z_take0 (i := 16) hS rfl want_none (e_pick_f rfl rfl) (listed' := [true, true, true, true, true, true, true, true, true, true, true, true, true, true, true, true, true]) rfl (by kernel_rfl) (by kernel_rfl) (by kernel_rfl) (fun _ _ _ h => h) rfl ?_; clear hS a; intro a hS)
        exact hcM34 _ _ (hS.ends 14 34 21 rfl (congrArg Value.bool (by rw [decide_eq_decide, cmpI_neg, hQ, lastLt_snoc])) rfl rfl (by first | exact congrArg Value.bool (decide_eq_true hg21).symm | exact congrArg Value.bool hg21.symm | simp [hg21]) rfl)
      ·
        refine Z_none_t (i := 4) hS rfl rfl rfl (listed' := [true, true, true, true, true, false, false, false, false, false, false, false, false, false, false, false, false]) rfl (by kernel_rfl) (by kernel_rfl) (by kernel_rfl) (fun _ _ _ h => h) rfl ?_; clear hS a; intro a hS
        refine Z_none_t (i := 5) hS rfl rfl rfl (listed' := [true, true, true, true, true, true, false, false, false, false, false, false, false, false, false, false, false]) rfl (by kernel_rfl) (by kernel_rfl) (by kernel_rfl) (fun _ _ _ h => h) rfl ?_; clear hS a; intro a hS
        refine Z_none_t (i := 6) hS rfl rfl rfl (listed' := [true, true, true, true, true, true, true, false, false, false, false, false, false, false, false, false, false]) rfl (by kernel_rfl) (by kernel_rfl) (by kernel_rfl) (fun _ _ _ h => h) rfl ?_; clear hS a; intro a hS
        refine Z_none_t (i := 7) hS rfl rfl rfl (listed' := [true, true, true, true, true, true, true, true, false, false, false, false, false, false, false, false, false]) rfl (by kernel_rfl) (by kernel_rfl) (by kernel_rfl) (fun _ _ _ h => h) rfl ?_; clear hS a; intro a hS
        refine Z_none_t (i := 8) hS rfl rfl rfl (listed' := [true, true, true, true, true, true, true, true, true, false, false, false, false, false, false, false, false]) rfl (by kernel_rfl) (by kernel_rfl) (by kernel_rfl) (fun _ _ _ h => h) rfl ?_; clear hS a; intro a hS
        refine Z_none_t (i := 9) hS rfl rfl rfl (listed' := [true, true, true, true, true, true, true, true, true, true, false, false, false, false, false, false, false]) rfl (by kernel_rfl) (by kernel_rfl) (by kernel_rfl) (fun _ _ _ h => h) rfl ?_; clear hS a; intro a hS
        refine Z_none_t (i := 10) hS rfl rfl rfl (listed' := [true, true, true, true, true, true, true, true, true, true, true, false, false, false, false, false, false]) rfl (by kernel_rfl) (by kernel_rfl) (by kernel_rfl) (fun _ _ _ h => h) rfl ?_; clear hS a; intro a hS
        refine Z_none_t (i := 11) hS rfl rfl rfl (listed' := [true, true, true, true, true, true, true, true, true, true, true, true, false, false, false, false, false]) rfl (by kernel_rfl) (by kernel_rfl) (by kernel_rfl) (fun _ _ _ h => h) rfl ?_; clear hS a; intro a hS
        refine Z_none_t (i := 12) hS rfl rfl rfl (listed' := [true, true, true, true, true, true, true, true, true, true, true, true, true, false, false, false, false]) rfl (by kernel_rfl) (by kernel_rfl) (by kernel_rfl) (fun _ _ _ h => h) rfl ?_; clear hS a; intro a hS
        refine Z_none_t (i := 13) hS rfl rfl rfl (listed' := [true, true, true, true, true, true, true, true, true, true, true, true, true, true, false, false, false]) rfl (by kernel_rfl) (by kernel_rfl) (by kernel_rfl) (fun _ _ _ h => h) rfl ?_; clear hS a; intro a hS
        refine Z_none_t (i := 14) hS rfl rfl rfl (listed' := [true, true, true, true, true, true, true, true, true, true, true, true, true, true, true, false, false]) rfl (by kernel_rfl) (by kernel_rfl) (by kernel_rfl) (fun _ _ _ h => h) rfl ?_; clear hS a; intro a hS
        refine Z_none_t (i := 15) hS rfl rfl rfl (listed' := [true, true, true, true, true, true, true, true, true, true, true, true, true, true, true, true, false]) rfl (by kernel_rfl) (by kernel_rfl) (by kernel_rfl) (fun _ _ _ h => h) rfl ?_; clear hS a; intro a hS
        first | (refine Z_take0 (i := 16) hS rfl want_none (e_pick_t rfl rfl) (listed' := [true, true, true, true, true, true, true, true, true, true, true, true, true, true, true, true, true]) rfl (by kernel_rfl) (by kernel_rfl) (by kernel_rfl) (fun _ _ _ h => h) rfl ?_; clear hS a; intro a hS) | (refine Z_take0 (i := 16) hS rfl want_none (e_pick_f rfl rfl) (listed' := [true, true, true, true, true, true, true, true, true, true, true, true, true, true, true, true, true]) rfl (by kernel_rfl) (by kernel_rfl) (by kernel_rfl) (fun _ _ _ h => h) rfl ?_; clear hS a; intro a hS)
        exact hcM34 _ _ (hS.ends 14 34 21 rfl (congrArg Value.bool (by symm; rw [decide_eq_false_iff_not, List.eq_nil_of_length_eq_zero (show P1.length = 0 from by omega)]; exact fun e => e)) rfl rfl (by first | exact congrArg Value.bool (decide_eq_false hg21).symm | exact congrArg Value.bool hg21.symm | simp [hg21]) rfl)
    · clear hS a; (try clear w); intro a w hS
      refine Z_done (by kernel_rfl) ?_
      refine n_then ?_
      first | refine c_ifD hS rfl (fun hc34 => ?_) (fun hc34 => ?_) | refine c_if hS rfl (fun hc34 => ?_) (fun hc34 => ?_)
      ·
        obtain ⟨Q, z, hQ⟩ := snoc_of (P1 := P1) (fun e => by rw [List.eq_nil_of_length_eq_zero e] at hc34; exact hc34)
        subst hQ
        have hlt : y.v.at_ < z.v.at_ := (lastLt_snoc Q z y).1 hc34
        have hQl : (Q ++ [z]).length = Q.length + 1 := by simp
        have hAQ : (A ++ Q).length = p + Q.length := by rw [List.length_append]; omega
        have hlist : (A ++ (Q ++ [z])) ++ y :: (P2 ++ (seg.drop (u + 1) ++ B)) = (A ++ Q) ++ z :: ([] ++ y :: (P2 ++ (seg.drop (u + 1) ++ B))) := by simp
        have hsw := swap_mid2 (A ++ Q) [] (P2 ++ (seg.drop (u + 1) ++ B)) z y _ hlist
        have hg := swap_mid (A ++ Q) [] (P2 ++ (seg.drop (u + 1) ++ B)) z y _ hlist
        rw [hAQ] at hsw hg
        simp only [List.length_nil, Nat.add_zero] at hsw hg
        obtain ⟨hg1, hg2, _⟩ := hg
        rw [hQl] at hS hil
        generalize hL : (A ++ (Q ++ [z])) ++ y :: (P2 ++ (seg.drop (u + 1) ++ B)) = L at hS hsw hg1 hg2 hll
        rw [show ((p + (Q.length + 1) : Nat) : Int) = ((p + Q.length + 1 : Nat) : Int) from by omega] at hS
        have hg3 : (L.set (p + Q.length + 1) z)[p + Q.length]? = some z := by rw [List.getElem?_set_ne (by omega)]; exact hg1
        refine wp_skip ?_
        refine n_then ?_
        refine c_seq ?_
        refine wp_block ?_
        refine c_drawS [15, 17] (by kernel_rfl) hS (sub_cons (X := (ownA 58 4 (.slice (some ⟨g, 0, none⟩) n c) n ((L).flatMap encE))) (by repeat constructor) sub_nil) ?_; clear hS; (try clear w); intro w hS
        simp only [List.length_cons, List.length_nil, Nat.zero_add, Nat.reduceAdd, List.replicate]
        refine Z_take0 (i := 0) hS rfl want_none (e_move rfl) (listed' := [true, false, false, false, false, false, false, false, false, false, false, false, false, false, false, false, false, false]) rfl (by kernel_rfl) (by kernel_rfl) (by kernel_rfl) (fun _ _ _ h => h) rfl ?_; clear hS a; intro a hS
        refine Z_take0 (i := 1) hS rfl want_none (e_move rfl) (listed' := [true, true, false, false, false, false, false, false, false, false, false, false, false, false, false, false, false, false]) rfl (by kernel_rfl) (by kernel_rfl) (by kernel_rfl) (fun _ _ _ h => h) rfl ?_; clear hS a; intro a hS
        refine Z_take0 (i := 2) hS rfl want_none (e_move rfl) (listed' := [true, true, true, false, false, false, false, false, false, false, false, false, false, false, false, false, false, false]) rfl (by kernel_rfl) (by kernel_rfl) (by kernel_rfl) (fun _ _ _ h => h) rfl ?_; clear hS a; intro a hS
        refine Z_take0 (i := 3) hS rfl want_none (e_move rfl) (listed' := [true, true, true, true, false, false, false, false, false, false, false, false, false, false, false, false, false, false]) rfl (by kernel_rfl) (by kernel_rfl) (by kernel_rfl) (fun _ _ _ h => h) rfl ?_; clear hS a; intro a hS
        first | (refine Z_take0 (i := 4) hS rfl want_none (e_binN rfl rfl rfl (by omega)) (listed' := [true, true, true, true, true, false, false, false, false, false, false, false, false, false, false, false, false, false]) rfl (by kernel_rfl) (by kernel_rfl) (by kernel_rfl) (fun _ _ _ h => h) rfl ?_; clear hS a; intro a hS) | (refine Z_take0 (i := 4) hS rfl want_none (e_bin rfl rfl rfl) (listed' := [true, true, true, true, true, false, false, false, false, false, false, false, false, false, false, false, false, false]) rfl (by kernel_rfl) (by kernel_rfl) (by kernel_rfl) (fun _ _ _ h => h) rfl ?_; clear hS a; intro a hS)
        rw [show ((p + Q.length + 1 : Nat) : Int) - 1 = ((p + Q.length : Nat) : Int) from by omega] at hS
        refine Z_take0 (i := 5) hS rfl want_none (e_move rfl) (listed' := [true, true, true, true, true, true, false, false, false, false, false, false, false, false, false, false, false, false]) rfl (by kernel_rfl) (by kernel_rfl) (by kernel_rfl) (fun _ _ _ h => h) rfl ?_; clear hS a; intro a hS
        refine Z_take0 (i := 6) hS rfl want_none (e_move rfl) (listed' := [true, true, true, true, true, true, true, false, false, false, false, false, false, false, false, false, false, false]) rfl (by kernel_rfl) (by kernel_rfl) (by kernel_rfl) (fun _ _ _ h => h) rfl ?_; clear hS a; intro a hS
        first | (refine Z_take0 (i := 7) hS rfl want_none (e_binN rfl rfl rfl (by omega)) (listed' := [true, true, true, true, true, true, true, true, false, false, false, false, false, false, false, false, false, false]) rfl (by kernel_rfl) (by kernel_rfl) (by kernel_rfl) (fun _ _ _ h => h) rfl ?_; clear hS a; intro a hS) | (refine Z_take0 (i := 7) hS rfl want_none (e_bin rfl rfl rfl) (listed' := [true, true, true, true, true, true, true, true, false, false, false, false, false, false, false, false, false, false]) rfl (by kernel_rfl) (by kernel_rfl) (by kernel_rfl) (fun _ _ _ h => h) rfl ?_; clear hS a; intro a hS)
        rw [show ((p + Q.length + 1 : Nat) : Int) - 1 = ((p + Q.length : Nat) : Int) from by omega] at hS
        refine Z_take0 (i := 8) hS rfl want_none (e_ixN rfl rfl ty_sl54 ty_sz58 (by omega)) (listed' := [true, true, true, true, true, true, true, true, true, false, false, false, false, false, false, false, false, false]) rfl (by kernel_rfl) (by kernel_rfl) (by kernel_rfl) (fun _ _ _ h => h) rfl ?_; clear hS a; intro a hS
        refine Z_take (i := 9) hS rfl want_none (e_loadAC (l := encE z) rfl ty_st58 ty_sz58 (own_getL (enc := encE) (s := 4) (fun _ => rfl) (by repeat constructor) hg1)) (listed' := [true, true, true, true, true, true, true, true, true, true, false, false, false, false, false, false, false, false]) rfl (by kernel_rfl) (by kernel_rfl) (by kernel_rfl) (by kernel_rfl) (by kernel_rfl) (sub_cons (by repeat constructor) sub_nil) (fun _ _ _ h => h) rfl ?_; clear hS a; intro a hS
        refine Z_take0 (i := 10) hS rfl want_none (e_move rfl) (listed' := [true, true, true, true, true, true, true, true, true, true, true, false, false, false, false, false, false, false]) rfl (by kernel_rfl) (by kernel_rfl) (by kernel_rfl) (fun _ _ _ h => h) rfl ?_; clear hS a; intro a hS
        refine Z_take0 (i := 11) hS rfl want_none (e_move rfl) (listed' := [true, true, true, true, true, true, true, true, true, true, true, true, false, false, false, false, false, false]) rfl (by kernel_rfl) (by kernel_rfl) (by kernel_rfl) (fun _ _ _ h => h) rfl ?_; clear hS a; intro a hS
        refine Z_take0 (i := 12) hS rfl want_none (e_ixN rfl rfl ty_sl54 ty_sz58 (by omega)) (listed' := [true, true, true, true, true, true, true, true, true, true, true, true, true, false, false, false, false, false]) rfl (by kernel_rfl) (by kernel_rfl) (by kernel_rfl) (fun _ _ _ h => h) rfl ?_; clear hS a; intro a hS
        refine Z_take (i := 13) hS rfl want_none (e_loadAC (l := encE y) rfl ty_st58 ty_sz58 (own_getL (enc := encE) (s := 4) (fun _ => rfl) (by repeat constructor) hg2)) (listed' := [true, true, true, true, true, true, true, true, true, true, true, true, true, true, false, false, false, false]) rfl (by kernel_rfl) (by kernel_rfl) (by kernel_rfl) (by kernel_rfl) (by kernel_rfl) (sub_cons (by repeat constructor) sub_nil) (fun _ _ _ h => h) rfl ?_; clear hS a; intro a hS
        refine Z_take0 (i := 14) hS rfl want_none (e_ixN rfl rfl ty_sl54 ty_sz58 (by omega)) (listed' := [true, true, true, true, true, true, true, true, true, true, true, true, true, true, true, false, false, false]) rfl (by kernel_rfl) (by kernel_rfl) (by kernel_rfl) (fun _ _ _ h => h) rfl ?_; clear hS a; intro a hS
        refine Z_one (i := 15) rfl (want_none a hS.sl) (listed' := [true, true, true, true, true, true, true, true, true, true, true, true, true, true, true, true, false, false]) rfl (by kernel_rfl) (s_storeOA (enc := encE) (s := 4) (m := n) (c := c) (v := z) (u := y) hS rfl rfl (fun _ => rfl) rfl ty_sz58 hg2 hll (by repeat constructor) ?_); clear hS; (try clear w); intro w hS
        refine Z_last (by simp) ?_
        refine Z_take0 (i := 16) hS rfl want_none (e_ixN rfl rfl ty_sl54 ty_sz58 (by omega)) (listed' := [true, true, true, true, true, true, true, true, true, true, true, true, true, true, true, true, true, false]) rfl (by kernel_rfl) (by kernel_rfl) (by kernel_rfl) (fun _ _ _ h => h) rfl ?_; clear hS a; intro a hS
        refine Z_one (i := 17) rfl (want_none a hS.sl) (listed' := [true, true, true, true, true, true, true, true, true, true, true, true, true, true, true, true, true, true]) rfl (by kernel_rfl) (s_storeOA (enc := encE) (s := 4) (m := n) (c := c) (v := y) (u := z) hS rfl rfl (fun _ => rfl) rfl ty_sz58 hg3 (by rw [List.length_set]; exact hll) (by repeat constructor) ?_); clear hS; (try clear w); intro w hS
        refine Z_last (by simp) ?_
        refine Z_done (by kernel_rfl) ?_
        refine n_block ?_
        refine n_then ?_
        refine c_region ?_
        refine L_op (s_e hS (e_move rfl) rfl ?_); clear hS a; intro a hS
        first | (refine L_op (s_e hS (e_binN rfl rfl rfl (by omega)) rfl ?_); clear hS a; intro a hS) | (refine L_op (s_e hS (e_bin rfl rfl rfl) rfl ?_); clear hS a; intro a hS)
        rw [show ((p + Q.length + 1 : Nat) : Int) - 1 = ((p + Q.length : Nat) : Int) from by omega] at hS
        refine L_op (s_e hS (e_assign rfl) rfl ?_); clear hS a; intro a hS
        refine L_nil ?_
        rw [hsw] at hS
        refine ⟨(Q, z :: P2), by simp only; omega, ?_, ins_back hio hlt⟩
        exact (hS.slots (by repeat (first | exact trivial | refine ⟨rfl, ?_⟩))).pick (by repeat (first | exact Pick.nil | (refine Pick.cons (by repeat (first | exact Rem.head | apply Rem.tail)) ?_)))
      ·
        refine wp_exit ?_
        refine x_then (x_then (x_hit ?_))
        refine n_block ?_
        refine n_then ?_
        refine c_region ?_
        refine L_op (s_e hS (e_move rfl) rfl ?_); clear hS a; intro a hS
        first | (refine L_op (s_e hS (e_binN rfl rfl rfl (by omega)) rfl ?_); clear hS a; intro a hS) | (refine L_op (s_e hS (e_bin rfl rfl rfl) rfl ?_); clear hS a; intro a hS)
        refine L_op (s_e hS (e_assign rfl) rfl ?_); clear hS a; intro a hS
        refine L_nil ?_
        have hd := ins_done hids hio (by
          rcases List.eq_nil_or_concat P1 with e | ⟨Q, z, e⟩
          · exact .inl e
          · refine .inr ⟨z, by rw [e]; simp, fun hlt => hc34 ?_⟩
            rw [e, List.concat_eq_append]; exact (lastLt_snoc Q z y).2 hlt)
        refine ⟨(u + 1, P1 ++ y :: P2), by simp only; omega, ?_, hd, by simp only; omega⟩
        simp only
        rw [show A ++ ((P1 ++ y :: P2) ++ (seg.drop (u + 1) ++ B)) = (A ++ P1) ++ y :: (P2 ++ (seg.drop (u + 1) ++ B)) from by simp, show ((p + (u + 1) : Nat) : Int) = ((p + u : Nat) : Int) + 1 from by omega]
        exact (hS.slots (by repeat (first | exact trivial | refine ⟨rfl, ?_⟩))).pick (by repeat (first | exact Pick.nil | (refine Pick.cons (by repeat (first | exact Rem.head | apply Rem.tail)) ?_)))
  ·
    refine wp_exit ?_
    refine x_then (x_then (x_hit ?_))
    refine r_norm ?_
    refine c_retN hS Try.results113 .nil rfl ?_
    have hge : seg.length ≤ u := by omega
    rw [List.drop_of_length_le hge, List.nil_append] at hS
    rw [List.take_of_length_le hge] at his
    exact ⟨⟨P0, his⟩, rfl, hS.chg, hS.ok (ownA 58 4 (.slice (some ⟨g, 0, none⟩) n c) n ((A ++ (P0 ++ B)).flatMap encE)) (by repeat constructor), fun b hb => (hS.mine (ownA 58 4 (.slice (some ⟨g, 0, none⟩) n c) n ((A ++ (P0 ++ B)).flatMap encE)) (by repeat constructor) rfl b hb).symm⟩
end Go.Proofs.Ytheofhegdjjfgaa
