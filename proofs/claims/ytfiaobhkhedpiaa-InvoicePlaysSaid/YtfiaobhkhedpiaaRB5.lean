/- The reference's payments and voids, walked. -/
import Derived.Test.YtfiaobhkhedpiaaRB4
import Derived.Test.YtfiaobhkhedpiaaSe13
namespace Go.Proofs.Ytfiaobhkhedpiaa
open Go.RowKit

theorem rowObj {w : World} {E s : Nat} {v : Value} {m : Nat} {xs : List Value} (h : w.ownsRow 0 E s v m xs) {g : Nat} (hg : v.ownBlock = some g) : ∃ cs, w.heap[g]? = some (.cells cs E (0, 0)) := by
  rcases h.2 with ⟨rfl, _⟩ | ⟨g', cap, cur, rfl, _, e2, _⟩
  · cases hg
  · simp [Value.ownBlock] at hg; subst hg; exact ⟨_, e2⟩
def rlnA (its : List IA) : Asn := .any (fun k => ∃ x ∈ its, k = x.b) (fun w => ∀ x ∈ its, lnR x w) true
def rrowA (sv : Value) (its : List IA) : Asn := ownA 119 13 sv its.length (its.flatMap encA)
def rbkA (bw : Nat) (sv : Value) : Asn := .blk bw [sv] 56
theorem rln_ok {its : List IA} {w : World} (h : ∀ x ∈ its, lnR x w) : (rlnA its).ok w := by
  refine ⟨fun b hb => ?_, fun w' hw x hx => (h x hx).keep (hw x.b ⟨x, hx, rfl⟩)⟩
  obtain ⟨x, hx, rfl⟩ := hb
  exact (h x hx).lt
theorem rb_apart {bw : Nat} {sv : Value} {its : List IA} {w : World} (h : rbφ bw sv its w) : sv.ownBlock ≠ some bw ∧ (∀ x ∈ its, x.b ≠ bw) ∧ ∀ x ∈ its, sv.ownBlock ≠ some x.b := by
  refine ⟨fun e => ?_, fun x hx e => ?_, fun x hx e => ?_⟩
  · obtain ⟨cs, h1⟩ := rowObj h.row e
    rw [h.bk] at h1; injection h1 with h1; injection h1 with h1 h2 h3; exact absurd h2 (by decide)
  · obtain ⟨cs, h1⟩ := rowObj (h.lns x hx) (g := x.b) rfl
    rw [e, h.bk] at h1; injection h1 with h1; injection h1 with h1 h2 h3; exact absurd h2 (by decide)
  · obtain ⟨cs, h1⟩ := rowObj (h.lns x hx) (g := x.b) rfl
    obtain ⟨cs2, h2⟩ := rowObj h.row e
    rw [h2] at h1; injection h1 with h1; injection h1 with h1 h2 h3; exact absurd h2 (by decide)
def rbΓ (bw : Nat) (sv : Value) (its : List IA) : List Asn := [rbkA bw sv, rrowA sv its, rlnA its]
theorem rbΓ_ok {bw : Nat} {sv : Value} {its : List IA} {w : World} (h : rbφ bw sv its w) : ∀ X ∈ rbΓ bw sv its, X.ok w := okC (ok_blk h.bk) (okC (ok_own h.row) (okC (rln_ok h.lns) okN))
theorem rbΓ_dis {bw : Nat} {sv : Value} {its : List IA} {w : World} (h : rbφ bw sv its w) : (rbΓ bw sv its).Pairwise (fun X Y => ∀ b, X.F b → ¬ Y.F b) := by
  obtain ⟨a1, a2, a3⟩ := rb_apart h
  exact disC (sepC (fun b hb hb' => a1 (by rw [← show b = bw from hb]; exact hb')) (sepC (fun b hb hb' => by obtain ⟨x, hx, hxb⟩ := hb'; exact a2 x hx (hxb.symm.trans (show b = bw from hb))) sepN)) (disC (sepC (fun b hb hb' => by obtain ⟨x, hx, hxb⟩ := hb'; exact a3 x hx (by rw [← hxb]; exact hb)) sepN) dis1)
theorem rbΓ_mine {bw : Nat} {sv : Value} {its : List IA} {w : World} : ∀ X ∈ rbΓ bw sv its, X.mine = true → ∀ b, X.F b → w.heap.size ≤ b ∨ rbF bw sv its b :=
  mineO (fun b hb => .inl hb) (mineO (fun b hb => .inr (.inl hb)) (mineO (fun b hb => .inr (.inr hb)) mineN))

/-- the error of a payment. -/
def settV (v : Inv) (u : Int) : Int := if v.state ≠ 1 then 25 else if u < 1 ∨ leftI v < u then 6 else 0
theorem payV_err (add : Inv → Int → Inv) (v : Inv) (u : Int) : (payV add v u).2.2 = settV v u := by
  unfold payV settV; split
  · rfl
  · split <;> rfl
set_option maxRecDepth 100000 in
theorem xSettle_none (bw : Nat) (sv : Value) (its : List IA) (number u : Int) (hn : its.length ≤ 1000000) (w0 : World) (h : rbφ bw sv its w0) (h0 : number < 1 ∨ (its.length : Int) < number) :
    PureC Try.prog 103 [.pointer (some ⟨bw, 0, none⟩), .int .i64 number, .int .i64 u] w0 (.int .i64 2) := by
  obtain ⟨p, c, rfl, hsh⟩ := rb_shape h
  refine c_enter [(0, .pointer (some ⟨bw, 0, none⟩)), (1, .int .i64 number), (2, .int .i64 u)] [rbA bw (.slice p its.length c) its false] noB Try.func103 rfl Try.ntmps103 ⟨rfl, rfl, rfl, trivial⟩ rfl (okC (rb_ok false h) okN) dis1 (mineC (by rfl) mineN) ?_
  intro a hS
  refine c_seq ?_
  refine c_region ?_
  refine L_op (s_e hS (e_assign rfl) rfl ?_); clear hS a; intro a hS
  refine L_nil ?_
  refine n_then ?_
  refine c_seq ?_
  refine c_seq ?_
  refine c_region ?_
  refine L_op (s_e hS (e_move rfl) rfl ?_); clear hS a; intro a hS
  refine L_op (s_e hS (e_bin rfl rfl rfl) rfl ?_); clear hS a; intro a hS
  refine L_op (s_e hS (e_move rfl) rfl ?_); clear hS a; intro a hS
  refine L_merge 8 18 (.bool (true)) hS ?_ ?_
  · intro hcM18
    (first | refine g_splitD (t := 10) hS rfl ?_ ?_ | refine g_split (t := 10) hS rfl ?_ ?_) <;> (clear hS; intro hg10 hS)
    ·
      refine L_skip_f hS rfl rfl rfl ?_; clear hS a; intro a hS
      refine L_skip_f hS rfl rfl rfl ?_; clear hS a; intro a hS
      refine L_skip_f hS rfl rfl rfl ?_; clear hS a; intro a hS
      refine L_skip_f hS rfl rfl rfl ?_; clear hS a; intro a hS
      refine L_skip_f hS rfl rfl rfl ?_; clear hS a; intro a hS
      refine L_skip_f hS rfl rfl rfl ?_; clear hS a; intro a hS
      refine L_skip_f hS rfl rfl rfl ?_; clear hS a; intro a hS
      first | (refine L_op (s_e hS (e_pick_t rfl rfl) rfl ?_); clear hS a; intro a hS) | (refine L_op (s_e hS (e_pick_f rfl rfl) rfl ?_); clear hS a; intro a hS)
      exact hcM18 _ _ (hS.ends 9 18 10 rfl (congrArg Value.bool (by first | rfl | (simp [hg10]; done) | (simp [hg10]; omega) | grind)) rfl rfl (by first | exact congrArg Value.bool (decide_eq_true hg10).symm | exact congrArg Value.bool hg10.symm | simp [hg10]) rfl)
    ·
      refine L_go hS rfl rfl (s_e hS (e_move rfl) rfl ?_); clear hS a; intro a hS
      refine L_go hS rfl rfl (s_e hS (e_move rfl) rfl ?_); clear hS a; intro a hS
      refine L_go hS rfl rfl (s_e hS (e_nilCheck rfl) rfl ?_); clear hS a; intro a hS
      first | (refine L_go hS rfl rfl (s_e hS (e_fa0 rfl ty_fo56_0) rfl ?_); clear hS a; intro a hS) | (refine L_go hS rfl rfl (s_e hS (e_faK rfl ty_fo56_0) rfl ?_); clear hS a; intro a hS)
      refine L_go hS rfl rfl (s_e hS (e_loadC rfl ty_sc54 (rrd_bk (by repeat constructor))) rfl ?_); clear hS a; intro a hS
      refine L_go hS rfl rfl (s_e hS (e_len rfl rfl ty_sl54) rfl ?_); clear hS a; intro a hS
      refine L_go hS rfl rfl (s_e hS (e_bin rfl rfl rfl) rfl ?_); clear hS a; intro a hS
      first | (refine L_op (s_e hS (e_pick_t rfl rfl) rfl ?_); clear hS a; intro a hS) | (refine L_op (s_e hS (e_pick_f rfl rfl) rfl ?_); clear hS a; intro a hS)
      exact hcM18 _ _ (hS.ends 9 18 10 rfl (congrArg Value.bool (by exact decide_eq_true (by omega))) rfl rfl (by first | exact congrArg Value.bool (decide_eq_false hg10).symm | exact congrArg Value.bool hg10.symm | simp [hg10]) rfl)
  · clear hS a; (try clear w); intro a w hS
    simp only [List.drop_succ_cons, List.drop_zero]
    refine L_nil ?_
    refine n_then ?_
    replace hS := hS.is (t := 18) (c := true) rfl (rfl)
    refine c_if_t hS rfl ?_
    refine c_seq ?_
    refine c_region ?_
    refine L_op (s_e hS (e_assign rfl) rfl ?_); clear hS a; intro a hS
    refine L_nil ?_
    refine n_then ?_
    refine wp_ret ?_
    refine r_then ?_
    refine c_ret1 hS Try.results103 (.tmp rfl) ?_
    exact ⟨rfl, hS.chg⟩
set_option maxRecDepth 100000 in
theorem xSettle_some (bw : Nat) (sv : Value) (its : List IA) (k : Nat) (x : IA) (hx : its[k]? = some x) (hg : goodI x.v) (u : Int) (hn : its.length ≤ 1000000) (w0 : World) (h : rbφ bw sv its w0) :
    PureC Try.prog 103 [.pointer (some ⟨bw, 0, none⟩), .int .i64 ((k : Int) + 1), .int .i64 u] w0 (.int .i64 (settV x.v u)) := by
  obtain ⟨p, c, rfl, hsh⟩ := rb_shape h
  have hkl : k < its.length := (List.getElem?_eq_some_iff.1 hx).1
  obtain ⟨g, rfl⟩ : ∃ g, p = some ⟨g, 0, none⟩ := hsh.resolve_left (by omega)
  obtain ⟨a1, a2, a3, a4, a5, a6⟩ := hg
  refine c_enter [(0, .pointer (some ⟨bw, 0, none⟩)), (1, .int .i64 ((k : Int) + 1)), (2, .int .i64 u)] [rbA bw (.slice (some ⟨g, 0, none⟩) its.length c) its false] noB Try.func103 rfl Try.ntmps103 ⟨rfl, rfl, rfl, trivial⟩ rfl (okC (rb_ok false h) okN) dis1 (mineC (by rfl) mineN) ?_
  intro a hS
  refine c_seq ?_
  refine c_region ?_
  refine L_op (s_e hS (e_assign rfl) rfl ?_); clear hS a; intro a hS
  refine L_nil ?_
  refine n_then ?_
  refine c_seq ?_
  refine c_seq ?_
  refine c_region ?_
  refine L_op (s_e hS (e_move rfl) rfl ?_); clear hS a; intro a hS
  refine L_op (s_e hS (e_bin rfl rfl rfl) rfl ?_); clear hS a; intro a hS
  refine L_op (s_e hS (e_move rfl) rfl ?_); clear hS a; intro a hS
  refine L_merge 8 18 (.bool (false)) hS ?_ ?_
  · intro hcM18
    (first | refine g_splitD (t := 10) hS rfl ?_ ?_ | refine g_split (t := 10) hS rfl ?_ ?_) <;> (clear hS; intro hg10 hS)
    ·
      refine L_skip_f hS rfl rfl rfl ?_; clear hS a; intro a hS
      refine L_skip_f hS rfl rfl rfl ?_; clear hS a; intro a hS
      refine L_skip_f hS rfl rfl rfl ?_; clear hS a; intro a hS
      refine L_skip_f hS rfl rfl rfl ?_; clear hS a; intro a hS
      refine L_skip_f hS rfl rfl rfl ?_; clear hS a; intro a hS
      refine L_skip_f hS rfl rfl rfl ?_; clear hS a; intro a hS
      refine L_skip_f hS rfl rfl rfl ?_; clear hS a; intro a hS
      first | (refine L_op (s_e hS (e_pick_t rfl rfl) rfl ?_); clear hS a; intro a hS) | (refine L_op (s_e hS (e_pick_f rfl rfl) rfl ?_); clear hS a; intro a hS)
      exact hcM18 _ _ (hS.ends 9 18 10 rfl (congrArg Value.bool (by omega)) rfl rfl (by first | exact congrArg Value.bool (decide_eq_true hg10).symm | exact congrArg Value.bool hg10.symm | simp [hg10]) rfl)
    ·
      refine L_go hS rfl rfl (s_e hS (e_move rfl) rfl ?_); clear hS a; intro a hS
      refine L_go hS rfl rfl (s_e hS (e_move rfl) rfl ?_); clear hS a; intro a hS
      refine L_go hS rfl rfl (s_e hS (e_nilCheck rfl) rfl ?_); clear hS a; intro a hS
      first | (refine L_go hS rfl rfl (s_e hS (e_fa0 rfl ty_fo56_0) rfl ?_); clear hS a; intro a hS) | (refine L_go hS rfl rfl (s_e hS (e_faK rfl ty_fo56_0) rfl ?_); clear hS a; intro a hS)
      refine L_go hS rfl rfl (s_e hS (e_loadC rfl ty_sc54 (rrd_bk (by repeat constructor))) rfl ?_); clear hS a; intro a hS
      refine L_go hS rfl rfl (s_e hS (e_len rfl rfl ty_sl54) rfl ?_); clear hS a; intro a hS
      refine L_go hS rfl rfl (s_e hS (e_bin rfl rfl rfl) rfl ?_); clear hS a; intro a hS
      first | (refine L_op (s_e hS (e_pick_t rfl rfl) rfl ?_); clear hS a; intro a hS) | (refine L_op (s_e hS (e_pick_f rfl rfl) rfl ?_); clear hS a; intro a hS)
      exact hcM18 _ _ (hS.ends 9 18 10 rfl (congrArg Value.bool (by exact decide_eq_false (by omega))) rfl rfl (by first | exact congrArg Value.bool (decide_eq_false hg10).symm | exact congrArg Value.bool hg10.symm | simp [hg10]) rfl)
  · clear hS a; (try clear w); intro a w hS
    simp only [List.drop_succ_cons, List.drop_zero]
    refine L_nil ?_
    refine n_then ?_
    replace hS := hS.is (t := 18) (c := false) rfl (rfl)
    refine c_if_f hS rfl ?_
    refine wp_skip ?_
    refine n_then ?_
    refine c_seq ?_
    refine c_region ?_
    refine L_op (s_e hS (e_move rfl) rfl ?_); clear hS a; intro a hS
    refine L_op (s_e hS (e_nilCheck rfl) rfl ?_); clear hS a; intro a hS
    first | (refine L_op (s_e hS (e_fa0 rfl ty_fo56_0) rfl ?_); clear hS a; intro a hS) | (refine L_op (s_e hS (e_faK rfl ty_fo56_0) rfl ?_); clear hS a; intro a hS)
    refine L_op (s_e hS (e_loadC rfl ty_sc54 (rrd_bk (by repeat constructor))) rfl ?_); clear hS a; intro a hS
    refine L_op (s_e hS (e_move rfl) rfl ?_); clear hS a; intro a hS
    first | (refine L_op (s_e hS (e_binN rfl rfl rfl (by omega)) rfl ?_); clear hS a; intro a hS) | (refine L_op (s_e hS (e_bin rfl rfl rfl) rfl ?_); clear hS a; intro a hS)
    rw [show (k : Int) + 1 - 1 = (k : Int) by omega] at hS
    refine L_op (s_e hS (e_ixN rfl rfl ty_sl54 ty_sz119 (by omega)) rfl ?_); clear hS a; intro a hS
    refine L_op (s_e hS (e_loadAC (l := encA x) rfl ty_st119 ty_sz119 (rrd_row (by repeat constructor) hx)) rfl ?_); clear hS a; intro a hS
    refine L_op (s_alloc hS ty_z119 rfl ?_); clear hS a; (try clear w); intro a w b7 hS
    refine L_op (s_storeA hS rfl rfl ty_sz119 (by repeat constructor) (by rfl) (by rfl) (by rfl) ?_); clear hS; (try clear w); intro w hS
    refine L_nil ?_
    refine n_then ?_
    refine c_seq ?_
    refine c_seq ?_
    refine c_region ?_
    first | (refine L_op (s_e hS (e_fa0 rfl ty_fo119_12) rfl ?_); clear hS a; intro a hS) | (refine L_op (s_e hS (e_faK rfl ty_fo119_12) rfl ?_); clear hS a; intro a hS)
    refine L_op (s_e hS (e_load rfl (by repeat constructor) ty_sc3 (by rfl)) rfl ?_); clear hS a; intro a hS
    refine L_op (s_e hS (e_bin rfl rfl rfl) rfl ?_); clear hS a; intro a hS
    refine L_nil ?_
    refine n_then ?_
    first | refine c_ifD hS rfl (fun hc29 => ?_) (fun hc29 => ?_) | refine c_if hS rfl (fun hc29 => ?_) (fun hc29 => ?_)
    ·
      refine c_seq ?_
      refine c_region ?_
      refine L_op (s_e hS (e_assign rfl) rfl ?_); clear hS a; intro a hS
      refine L_nil ?_
      refine n_then ?_
      refine wp_ret ?_
      refine r_then ?_
      refine c_ret1 hS Try.results103 (.tmp rfl) ?_
      exact ⟨by unfold settV; rw [if_pos hc29], hS.chg⟩
    ·
      refine wp_skip ?_
      refine n_then ?_
      refine c_seq ?_
      refine c_seq ?_
      refine c_region ?_
      refine L_op (s_e hS (e_move rfl) rfl ?_); clear hS a; intro a hS
      refine L_op (s_e hS (e_bin rfl rfl rfl) rfl ?_); clear hS a; intro a hS
      refine L_op (s_e hS (e_move rfl) rfl ?_); clear hS a; intro a hS
      refine L_merge 11 43 (.bool (decide (u < 1 ∨ leftI x.v < u))) hS ?_ ?_
      · intro hcM43
        (first | refine g_splitD (t := 32) hS rfl ?_ ?_ | refine g_split (t := 32) hS rfl ?_ ?_) <;> (clear hS; intro hg32 hS)
        ·
          refine L_skip_f hS rfl rfl rfl ?_; clear hS a; intro a hS
          refine L_skip_f hS rfl rfl rfl ?_; clear hS a; intro a hS
          refine L_skip_f hS rfl rfl rfl ?_; clear hS a; intro a hS
          refine L_skip_f hS rfl rfl rfl ?_; clear hS a; intro a hS
          refine L_skip_f hS rfl rfl rfl ?_; clear hS a; intro a hS
          refine L_skip_f hS rfl rfl rfl ?_; clear hS a; intro a hS
          refine L_skip_f hS rfl rfl rfl ?_; clear hS a; intro a hS
          refine L_skip_f hS rfl rfl rfl ?_; clear hS a; intro a hS
          refine L_skip_f hS rfl rfl rfl ?_; clear hS a; intro a hS
          refine L_skip_f hS rfl rfl rfl ?_; clear hS a; intro a hS
          first | (refine L_op (s_e hS (e_pick_t rfl rfl) rfl ?_); clear hS a; intro a hS) | (refine L_op (s_e hS (e_pick_f rfl rfl) rfl ?_); clear hS a; intro a hS)
          exact hcM43 _ _ (hS.ends 12 43 32 rfl (congrArg Value.bool (by exact (decide_eq_true (.inl hg32)).symm)) rfl rfl (by first | exact congrArg Value.bool (decide_eq_true hg32).symm | exact congrArg Value.bool hg32.symm | simp [hg32]) rfl)
        ·
          refine L_go hS rfl rfl (s_e hS (e_move rfl) rfl ?_); clear hS a; intro a hS
          first | (refine L_go hS rfl rfl (s_e hS (e_fa0 rfl ty_fo119_9) rfl ?_); clear hS a; intro a hS) | (refine L_go hS rfl rfl (s_e hS (e_faK rfl ty_fo119_9) rfl ?_); clear hS a; intro a hS)
          refine L_go hS rfl rfl (s_e hS (e_load rfl (by repeat constructor) ty_sc3 (by rfl)) rfl ?_); clear hS a; intro a hS
          first | (refine L_go hS rfl rfl (s_e hS (e_fa0 rfl ty_fo119_10) rfl ?_); clear hS a; intro a hS) | (refine L_go hS rfl rfl (s_e hS (e_faK rfl ty_fo119_10) rfl ?_); clear hS a; intro a hS)
          refine L_go hS rfl rfl (s_e hS (e_load rfl (by repeat constructor) ty_sc3 (by rfl)) rfl ?_); clear hS a; intro a hS
          first | (refine L_go hS rfl rfl (s_e hS (e_binN rfl rfl rfl (by omega)) rfl ?_); clear hS a; intro a hS) | (refine L_go hS rfl rfl (s_e hS (e_bin rfl rfl rfl) rfl ?_); clear hS a; intro a hS)
          first | (refine L_go hS rfl rfl (s_e hS (e_fa0 rfl ty_fo119_11) rfl ?_); clear hS a; intro a hS) | (refine L_go hS rfl rfl (s_e hS (e_faK rfl ty_fo119_11) rfl ?_); clear hS a; intro a hS)
          refine L_go hS rfl rfl (s_e hS (e_load rfl (by repeat constructor) ty_sc3 (by rfl)) rfl ?_); clear hS a; intro a hS
          first | (refine L_go hS rfl rfl (s_e hS (e_binN rfl rfl rfl (by omega)) rfl ?_); clear hS a; intro a hS) | (refine L_go hS rfl rfl (s_e hS (e_bin rfl rfl rfl) rfl ?_); clear hS a; intro a hS)
          refine L_go hS rfl rfl (s_e hS (e_bin rfl rfl rfl) rfl ?_); clear hS a; intro a hS
          first | (refine L_op (s_e hS (e_pick_t rfl rfl) rfl ?_); clear hS a; intro a hS) | (refine L_op (s_e hS (e_pick_f rfl rfl) rfl ?_); clear hS a; intro a hS)
          exact hcM43 _ _ (hS.ends 12 43 32 rfl (congrArg Value.bool (by unfold leftI; simp [hg32])) rfl rfl (by first | exact congrArg Value.bool (decide_eq_false hg32).symm | exact congrArg Value.bool hg32.symm | simp [hg32]) rfl)
      · clear hS a; (try clear w); intro a w hS
        simp only [List.drop_succ_cons, List.drop_zero]
        refine L_nil ?_
        refine n_then ?_
        first | refine c_ifD hS rfl (fun hc43 => ?_) (fun hc43 => ?_) | refine c_if hS rfl (fun hc43 => ?_) (fun hc43 => ?_)
        ·
          refine c_seq ?_
          refine c_region ?_
          refine L_op (s_e hS (e_assign rfl) rfl ?_); clear hS a; intro a hS
          refine L_nil ?_
          refine n_then ?_
          refine wp_ret ?_
          refine r_then ?_
          refine c_ret1 hS Try.results103 (.tmp rfl) ?_
          exact ⟨by unfold settV; rw [if_neg hc29, if_pos hc43], hS.chg⟩
        ·
          refine wp_skip ?_
          refine n_then ?_
          refine c_seq ?_
          refine c_region ?_
          refine L_op (s_e hS (e_assign rfl) rfl ?_); clear hS a; intro a hS
          refine L_nil ?_
          refine n_then ?_
          refine wp_ret ?_
          refine c_ret1 hS Try.results103 (.tmp rfl) ?_
          exact ⟨by unfold settV; rw [if_neg hc29, if_neg hc43], hS.chg⟩
set_option maxRecDepth 100000 in
theorem xVoids_none (bw : Nat) (sv : Value) (its : List IA) (number : Int) (hn : its.length ≤ 1000000) (w0 : World) (h : rbφ bw sv its w0) (h0 : number < 1 ∨ (its.length : Int) < number) :
    PureC Try.prog 105 [.pointer (some ⟨bw, 0, none⟩), .int .i64 number] w0 (.int .i64 2) := by
  obtain ⟨p, c, rfl, hsh⟩ := rb_shape h
  refine c_enter [(0, .pointer (some ⟨bw, 0, none⟩)), (1, .int .i64 number)] [rbA bw (.slice p its.length c) its false] noB Try.func105 rfl Try.ntmps105 ⟨rfl, rfl, trivial⟩ rfl (okC (rb_ok false h) okN) dis1 (mineC (by rfl) mineN) ?_
  intro a hS
  refine c_seq ?_
  refine c_region ?_
  refine L_op (s_e hS (e_assign rfl) rfl ?_); clear hS a; intro a hS
  refine L_nil ?_
  refine n_then ?_
  refine c_seq ?_
  refine c_seq ?_
  refine c_region ?_
  refine L_op (s_e hS (e_move rfl) rfl ?_); clear hS a; intro a hS
  refine L_op (s_e hS (e_bin rfl rfl rfl) rfl ?_); clear hS a; intro a hS
  refine L_op (s_e hS (e_move rfl) rfl ?_); clear hS a; intro a hS
  refine L_merge 8 16 (.bool (true)) hS ?_ ?_
  · intro hcM16
    (first | refine g_splitD (t := 8) hS rfl ?_ ?_ | refine g_split (t := 8) hS rfl ?_ ?_) <;> (clear hS; intro hg8 hS)
    ·
      refine L_skip_f hS rfl rfl rfl ?_; clear hS a; intro a hS
      refine L_skip_f hS rfl rfl rfl ?_; clear hS a; intro a hS
      refine L_skip_f hS rfl rfl rfl ?_; clear hS a; intro a hS
      refine L_skip_f hS rfl rfl rfl ?_; clear hS a; intro a hS
      refine L_skip_f hS rfl rfl rfl ?_; clear hS a; intro a hS
      refine L_skip_f hS rfl rfl rfl ?_; clear hS a; intro a hS
      refine L_skip_f hS rfl rfl rfl ?_; clear hS a; intro a hS
      first | (refine L_op (s_e hS (e_pick_t rfl rfl) rfl ?_); clear hS a; intro a hS) | (refine L_op (s_e hS (e_pick_f rfl rfl) rfl ?_); clear hS a; intro a hS)
      exact hcM16 _ _ (hS.ends 9 16 8 rfl (congrArg Value.bool (by first | rfl | (simp [hg8]; done) | (simp [hg8]; omega) | grind)) rfl rfl (by first | exact congrArg Value.bool (decide_eq_true hg8).symm | exact congrArg Value.bool hg8.symm | simp [hg8]) rfl)
    ·
      refine L_go hS rfl rfl (s_e hS (e_move rfl) rfl ?_); clear hS a; intro a hS
      refine L_go hS rfl rfl (s_e hS (e_move rfl) rfl ?_); clear hS a; intro a hS
      refine L_go hS rfl rfl (s_e hS (e_nilCheck rfl) rfl ?_); clear hS a; intro a hS
      first | (refine L_go hS rfl rfl (s_e hS (e_fa0 rfl ty_fo56_0) rfl ?_); clear hS a; intro a hS) | (refine L_go hS rfl rfl (s_e hS (e_faK rfl ty_fo56_0) rfl ?_); clear hS a; intro a hS)
      refine L_go hS rfl rfl (s_e hS (e_loadC rfl ty_sc54 (rrd_bk (by repeat constructor))) rfl ?_); clear hS a; intro a hS
      refine L_go hS rfl rfl (s_e hS (e_len rfl rfl ty_sl54) rfl ?_); clear hS a; intro a hS
      refine L_go hS rfl rfl (s_e hS (e_bin rfl rfl rfl) rfl ?_); clear hS a; intro a hS
      first | (refine L_op (s_e hS (e_pick_t rfl rfl) rfl ?_); clear hS a; intro a hS) | (refine L_op (s_e hS (e_pick_f rfl rfl) rfl ?_); clear hS a; intro a hS)
      exact hcM16 _ _ (hS.ends 9 16 8 rfl (congrArg Value.bool (by exact decide_eq_true (by omega))) rfl rfl (by first | exact congrArg Value.bool (decide_eq_false hg8).symm | exact congrArg Value.bool hg8.symm | simp [hg8]) rfl)
  · clear hS a; (try clear w); intro a w hS
    simp only [List.drop_succ_cons, List.drop_zero]
    refine L_nil ?_
    refine n_then ?_
    replace hS := hS.is (t := 16) (c := true) rfl (rfl)
    refine c_if_t hS rfl ?_
    refine c_seq ?_
    refine c_region ?_
    refine L_op (s_e hS (e_assign rfl) rfl ?_); clear hS a; intro a hS
    refine L_nil ?_
    refine n_then ?_
    refine wp_ret ?_
    refine r_then ?_
    refine c_ret1 hS Try.results105 (.tmp rfl) ?_
    exact ⟨rfl, hS.chg⟩
set_option maxRecDepth 100000 in
theorem xVoids_some (bw : Nat) (sv : Value) (its : List IA) (k : Nat) (x : IA) (hx : its[k]? = some x) (hg : goodI x.v) (hn : its.length ≤ 1000000) (w0 : World) (h : rbφ bw sv its w0) :
    PureC Try.prog 105 [.pointer (some ⟨bw, 0, none⟩), .int .i64 ((k : Int) + 1)] w0 (.int .i64 (voidV x.v).2) := by
  obtain ⟨p, c, rfl, hsh⟩ := rb_shape h
  have hkl : k < its.length := (List.getElem?_eq_some_iff.1 hx).1
  obtain ⟨g, rfl⟩ : ∃ g, p = some ⟨g, 0, none⟩ := hsh.resolve_left (by omega)
  obtain ⟨a1, a2, a3, a4, a5, a6⟩ := hg
  refine c_enter [(0, .pointer (some ⟨bw, 0, none⟩)), (1, .int .i64 ((k : Int) + 1))] [rbA bw (.slice (some ⟨g, 0, none⟩) its.length c) its false] noB Try.func105 rfl Try.ntmps105 ⟨rfl, rfl, trivial⟩ rfl (okC (rb_ok false h) okN) dis1 (mineC (by rfl) mineN) ?_
  intro a hS
  refine c_seq ?_
  refine c_region ?_
  refine L_op (s_e hS (e_assign rfl) rfl ?_); clear hS a; intro a hS
  refine L_nil ?_
  refine n_then ?_
  refine c_seq ?_
  refine c_seq ?_
  refine c_region ?_
  refine L_op (s_e hS (e_move rfl) rfl ?_); clear hS a; intro a hS
  refine L_op (s_e hS (e_bin rfl rfl rfl) rfl ?_); clear hS a; intro a hS
  refine L_op (s_e hS (e_move rfl) rfl ?_); clear hS a; intro a hS
  refine L_merge 8 16 (.bool (false)) hS ?_ ?_
  · intro hcM16
    (first | refine g_splitD (t := 8) hS rfl ?_ ?_ | refine g_split (t := 8) hS rfl ?_ ?_) <;> (clear hS; intro hg8 hS)
    ·
      refine L_skip_f hS rfl rfl rfl ?_; clear hS a; intro a hS
      refine L_skip_f hS rfl rfl rfl ?_; clear hS a; intro a hS
      refine L_skip_f hS rfl rfl rfl ?_; clear hS a; intro a hS
      refine L_skip_f hS rfl rfl rfl ?_; clear hS a; intro a hS
      refine L_skip_f hS rfl rfl rfl ?_; clear hS a; intro a hS
      refine L_skip_f hS rfl rfl rfl ?_; clear hS a; intro a hS
      refine L_skip_f hS rfl rfl rfl ?_; clear hS a; intro a hS
      first | (refine L_op (s_e hS (e_pick_t rfl rfl) rfl ?_); clear hS a; intro a hS) | (refine L_op (s_e hS (e_pick_f rfl rfl) rfl ?_); clear hS a; intro a hS)
      exact hcM16 _ _ (hS.ends 9 16 8 rfl (congrArg Value.bool (by omega)) rfl rfl (by first | exact congrArg Value.bool (decide_eq_true hg8).symm | exact congrArg Value.bool hg8.symm | simp [hg8]) rfl)
    ·
      refine L_go hS rfl rfl (s_e hS (e_move rfl) rfl ?_); clear hS a; intro a hS
      refine L_go hS rfl rfl (s_e hS (e_move rfl) rfl ?_); clear hS a; intro a hS
      refine L_go hS rfl rfl (s_e hS (e_nilCheck rfl) rfl ?_); clear hS a; intro a hS
      first | (refine L_go hS rfl rfl (s_e hS (e_fa0 rfl ty_fo56_0) rfl ?_); clear hS a; intro a hS) | (refine L_go hS rfl rfl (s_e hS (e_faK rfl ty_fo56_0) rfl ?_); clear hS a; intro a hS)
      refine L_go hS rfl rfl (s_e hS (e_loadC rfl ty_sc54 (rrd_bk (by repeat constructor))) rfl ?_); clear hS a; intro a hS
      refine L_go hS rfl rfl (s_e hS (e_len rfl rfl ty_sl54) rfl ?_); clear hS a; intro a hS
      refine L_go hS rfl rfl (s_e hS (e_bin rfl rfl rfl) rfl ?_); clear hS a; intro a hS
      first | (refine L_op (s_e hS (e_pick_t rfl rfl) rfl ?_); clear hS a; intro a hS) | (refine L_op (s_e hS (e_pick_f rfl rfl) rfl ?_); clear hS a; intro a hS)
      exact hcM16 _ _ (hS.ends 9 16 8 rfl (congrArg Value.bool (by exact decide_eq_false (by omega))) rfl rfl (by first | exact congrArg Value.bool (decide_eq_false hg8).symm | exact congrArg Value.bool hg8.symm | simp [hg8]) rfl)
  · clear hS a; (try clear w); intro a w hS
    simp only [List.drop_succ_cons, List.drop_zero]
    refine L_nil ?_
    refine n_then ?_
    replace hS := hS.is (t := 16) (c := false) rfl (rfl)
    refine c_if_f hS rfl ?_
    refine wp_skip ?_
    refine n_then ?_
    refine c_seq ?_
    refine c_region ?_
    refine L_op (s_e hS (e_move rfl) rfl ?_); clear hS a; intro a hS
    refine L_op (s_e hS (e_nilCheck rfl) rfl ?_); clear hS a; intro a hS
    first | (refine L_op (s_e hS (e_fa0 rfl ty_fo56_0) rfl ?_); clear hS a; intro a hS) | (refine L_op (s_e hS (e_faK rfl ty_fo56_0) rfl ?_); clear hS a; intro a hS)
    refine L_op (s_e hS (e_loadC rfl ty_sc54 (rrd_bk (by repeat constructor))) rfl ?_); clear hS a; intro a hS
    refine L_op (s_e hS (e_move rfl) rfl ?_); clear hS a; intro a hS
    first | (refine L_op (s_e hS (e_binN rfl rfl rfl (by omega)) rfl ?_); clear hS a; intro a hS) | (refine L_op (s_e hS (e_bin rfl rfl rfl) rfl ?_); clear hS a; intro a hS)
    rw [show (k : Int) + 1 - 1 = (k : Int) by omega] at hS
    refine L_op (s_e hS (e_ixN rfl rfl ty_sl54 ty_sz119 (by omega)) rfl ?_); clear hS a; intro a hS
    refine L_op (s_e hS (e_loadAC (l := encA x) rfl ty_st119 ty_sz119 (rrd_row (by repeat constructor) hx)) rfl ?_); clear hS a; intro a hS
    refine L_op (s_alloc hS ty_z119 rfl ?_); clear hS a; (try clear w); intro a w b5 hS
    refine L_op (s_storeA hS rfl rfl ty_sz119 (by repeat constructor) (by rfl) (by rfl) (by rfl) ?_); clear hS; (try clear w); intro w hS
    refine L_nil ?_
    refine n_then ?_
    refine c_seq ?_
    refine c_seq ?_
    refine c_region ?_
    first | (refine L_op (s_e hS (e_fa0 rfl ty_fo119_12) rfl ?_); clear hS a; intro a hS) | (refine L_op (s_e hS (e_faK rfl ty_fo119_12) rfl ?_); clear hS a; intro a hS)
    refine L_op (s_e hS (e_load rfl (by repeat constructor) ty_sc3 (by rfl)) rfl ?_); clear hS a; intro a hS
    refine L_op (s_e hS (e_bin rfl rfl rfl) rfl ?_); clear hS a; intro a hS
    refine L_op (s_e hS (e_move rfl) rfl ?_); clear hS a; intro a hS
    refine L_merge 4 32 (.bool (decide (x.v.state ≠ 1 ∨ x.v.paid ≠ 0))) hS ?_ ?_
    · intro hcM32
      (first | refine g_splitD (t := 28) hS rfl ?_ ?_ | refine g_split (t := 28) hS rfl ?_ ?_) <;> (clear hS; intro hg28 hS)
      ·
        refine L_skip_f hS rfl rfl rfl ?_; clear hS a; intro a hS
        refine L_skip_f hS rfl rfl rfl ?_; clear hS a; intro a hS
        refine L_skip_f hS rfl rfl rfl ?_; clear hS a; intro a hS
        first | (refine L_op (s_e hS (e_pick_t rfl rfl) rfl ?_); clear hS a; intro a hS) | (refine L_op (s_e hS (e_pick_f rfl rfl) rfl ?_); clear hS a; intro a hS)
        exact hcM32 _ _ (hS.ends 5 32 28 rfl (congrArg Value.bool (by exact (decide_eq_true (.inl hg28)).symm)) rfl rfl (by first | exact congrArg Value.bool (decide_eq_true hg28).symm | exact congrArg Value.bool hg28.symm | simp [hg28]) rfl)
      ·
        first | (refine L_go hS rfl rfl (s_e hS (e_fa0 rfl ty_fo119_10) rfl ?_); clear hS a; intro a hS) | (refine L_go hS rfl rfl (s_e hS (e_faK rfl ty_fo119_10) rfl ?_); clear hS a; intro a hS)
        refine L_go hS rfl rfl (s_e hS (e_load rfl (by repeat constructor) ty_sc3 (by rfl)) rfl ?_); clear hS a; intro a hS
        refine L_go hS rfl rfl (s_e hS (e_bin rfl rfl rfl) rfl ?_); clear hS a; intro a hS
        first | (refine L_op (s_e hS (e_pick_t rfl rfl) rfl ?_); clear hS a; intro a hS) | (refine L_op (s_e hS (e_pick_f rfl rfl) rfl ?_); clear hS a; intro a hS)
        exact hcM32 _ _ (hS.ends 5 32 28 rfl (congrArg Value.bool (by simp [hg28])) rfl rfl (by first | exact congrArg Value.bool (decide_eq_false hg28).symm | exact congrArg Value.bool hg28.symm | simp [hg28]) rfl)
    · clear hS a; (try clear w); intro a w hS
      simp only [List.drop_succ_cons, List.drop_zero]
      refine L_op (s_e hS (e_move rfl) rfl ?_); clear hS a; intro a hS
      refine L_merge 4 37 (.bool (decide ((x.v.state ≠ 1 ∨ x.v.paid ≠ 0) ∨ x.v.credited ≠ 0))) hS ?_ ?_
      · intro hcM37
        (first | refine g_splitD (t := 33) hS rfl ?_ ?_ | refine g_split (t := 33) hS rfl ?_ ?_) <;> (clear hS; intro hg33 hS)
        ·
          refine L_skip_f hS rfl rfl rfl ?_; clear hS a; intro a hS
          refine L_skip_f hS rfl rfl rfl ?_; clear hS a; intro a hS
          refine L_skip_f hS rfl rfl rfl ?_; clear hS a; intro a hS
          first | (refine L_op (s_e hS (e_pick_t rfl rfl) rfl ?_); clear hS a; intro a hS) | (refine L_op (s_e hS (e_pick_f rfl rfl) rfl ?_); clear hS a; intro a hS)
          exact hcM37 _ _ (hS.ends 5 37 33 rfl (congrArg Value.bool (by exact (decide_eq_true (.inl hg33)).symm)) rfl rfl (by first | exact congrArg Value.bool (decide_eq_true hg33).symm | exact congrArg Value.bool hg33.symm | simp [hg33]) rfl)
        ·
          first | (refine L_go hS rfl rfl (s_e hS (e_fa0 rfl ty_fo119_11) rfl ?_); clear hS a; intro a hS) | (refine L_go hS rfl rfl (s_e hS (e_faK rfl ty_fo119_11) rfl ?_); clear hS a; intro a hS)
          refine L_go hS rfl rfl (s_e hS (e_load rfl (by repeat constructor) ty_sc3 (by rfl)) rfl ?_); clear hS a; intro a hS
          refine L_go hS rfl rfl (s_e hS (e_bin rfl rfl rfl) rfl ?_); clear hS a; intro a hS
          first | (refine L_op (s_e hS (e_pick_t rfl rfl) rfl ?_); clear hS a; intro a hS) | (refine L_op (s_e hS (e_pick_f rfl rfl) rfl ?_); clear hS a; intro a hS)
          exact hcM37 _ _ (hS.ends 5 37 33 rfl (congrArg Value.bool (by simp [hg33])) rfl rfl (by first | exact congrArg Value.bool (decide_eq_false hg33).symm | exact congrArg Value.bool hg33.symm | simp [hg33]) rfl)
      · clear hS a; (try clear w); intro a w hS
        simp only [List.drop_succ_cons, List.drop_zero]
        refine L_nil ?_
        refine n_then ?_
        first | refine c_ifD hS rfl (fun hc37 => ?_) (fun hc37 => ?_) | refine c_if hS rfl (fun hc37 => ?_) (fun hc37 => ?_)
        ·
          refine c_seq ?_
          refine c_region ?_
          refine L_op (s_e hS (e_assign rfl) rfl ?_); clear hS a; intro a hS
          refine L_nil ?_
          refine n_then ?_
          refine wp_ret ?_
          refine r_then ?_
          refine c_ret1 hS Try.results105 (.tmp rfl) ?_
          exact ⟨by unfold voidV; rw [if_pos (by omega)], hS.chg⟩
        ·
          refine wp_skip ?_
          refine n_then ?_
          refine c_seq ?_
          refine c_region ?_
          refine L_op (s_e hS (e_assign rfl) rfl ?_); clear hS a; intro a hS
          refine L_nil ?_
          refine n_then ?_
          refine wp_ret ?_
          refine c_ret1 hS Try.results105 (.tmp rfl) ?_
          exact ⟨by unfold voidV; rw [if_neg (by omega)], hS.chg⟩
end Go.Proofs.Ytfiaobhkhedpiaa
