/- The reference's scales and instants, walked. -/
import Derived.Test.YtheofhegdjjfgaaFx6
namespace Go.Proofs.Ytheofhegdjjfgaa
open Go.RowKit

def encS (x : ByteArray × Int) : List Value := [.string x.1]
def encN (x : ByteArray × Int) : List Value := [.int .i64 x.2]
set_option maxRecDepth 100000 in
theorem xCodes_P (w0 : World) : NewC Try.prog 80 [] w0 (fun b : Nat => .slice (some ⟨b, 0, none⟩) 6 6) (fun b => .blk b (curs.flatMap encS) 9) := by
  refine c_enter [] [] noB Try.func80 rfl Try.ntmps80 trivial rfl (by simp) (by simp) (by simp) ?_
  intro a hS
  refine c_seq ?_
  refine c_region ?_
  refine L_op (s_e hS (e_assign rfl) rfl ?_); clear hS a; intro a hS
  refine L_nil ?_
  refine n_then ?_
  refine c_seq ?_
  refine c_region ?_
  refine L_op (s_bslice hS ty_sl142 ty_sz9 ty_z9 rfl rfl rfl rfl (.one rfl rfl rfl (.one rfl rfl rfl (.one rfl rfl rfl (.one rfl rfl rfl (.one rfl rfl rfl (.one rfl rfl rfl .nil)))))) rfl ?_); clear hS a; (try clear w); intro a w b1 hS
  refine L_op (s_e hS (e_assign rfl) rfl ?_); clear hS a; intro a hS
  refine L_nil ?_
  refine n_then ?_
  refine wp_ret ?_
  refine c_ret1 hS Try.results80 (.tmp rfl) ?_
  exact ⟨b1, rfl, hS.chg, hS.new (.head _) rfl⟩
/-- the reference's scale. -/
def refS (s : ByteArray) : Int := if curIdx s < 0 then -1 else (curs.getD (curIdx s).toNat (⟨#[]⟩, 0)).2
theorem idx_some {s : ByteArray} {k : Nat} {x : ByteArray × Int} (hx : curs[k]? = some x) (hs : x.1 = s) (hno : ∀ j, j < k → ∀ y, curs[j]? = some y → y.1 ≠ s) : curIdx s = k :=
  firstIdx_some hx (decide_eq_true hs) (fun j hj y hy => decide_eq_false (hno j hj y hy))
theorem idx_none {s : ByteArray} (hno : ∀ j, j < 6 → ∀ y, curs[j]? = some y → y.1 ≠ s) : curIdx s = -1 :=
  firstIdx_none (fun j hj y hy => decide_eq_false (hno j hj y hy))
theorem refS_neg (s : ByteArray) : refS s < 0 ↔ (scaleR s).2 ≠ 0 := by
  unfold refS scaleR
  split
  · simp
  · rename_i h
    simp only [ne_eq, not_true_eq_false, iff_false, Int.not_lt]
    rw [List.getD_eq_getElem?_getD]
    rcases firstIdx_cases (fun x : ByteArray × Int => decide (x.1 = s)) curs with ⟨i, x, hi, hx, _⟩ | h2
    · rw [show curIdx s = (i : Int) from hi, Int.toNat_natCast, hx]
      have := List.mem_of_getElem? hx
      simp [curs] at this
      rcases this with rfl | rfl | rfl | rfl | rfl | rfl <;> decide
    · exfalso; have := h2.1; exact h (by show curIdx s < 0; unfold curIdx; omega)
set_option maxRecDepth 100000 in
theorem xScale_P (s : ByteArray) (w0 : World) : PureC Try.prog 38 [.string s] w0 (.int .i64 (refS s)) := by
  refine c_enter [(0, .string s)] [] noB Try.func38 rfl Try.ntmps38 ⟨rfl, trivial⟩ rfl (by simp) (by simp) (by simp) ?_
  intro a hS
  refine c_seq ?_
  refine c_region ?_
  refine L_op (s_e hS (e_assign rfl) rfl ?_); clear hS a; intro a hS
  refine L_nil ?_
  refine n_then ?_
  refine c_seq ?_
  refine c_region ?_
  refine L_op (s_bslice hS ty_sl42 ty_sz3 ty_z3 rfl rfl rfl rfl (.one rfl rfl rfl (.one rfl rfl rfl (.one rfl rfl rfl (.one rfl rfl rfl (.one rfl rfl rfl (.one rfl rfl rfl .nil)))))) rfl ?_); clear hS a; (try clear w); intro a w b6 hS
  refine L_op (s_e hS (e_assign rfl) rfl ?_); clear hS a; intro a hS
  refine L_nil ?_
  refine n_then ?_
  refine c_seq ?_
  refine c_region ?_
  refine L_op (s_callN hS .nil cf80 rfl (xCodes_P _) ?_); clear hS a; (try clear w); intro x7 a w hS
  refine L_op (s_e hS (e_assign rfl) rfl ?_); clear hS a; intro a hS
  refine L_nil ?_
  refine n_then ?_
  refine c_seq ?_
  refine c_seq ?_
  refine c_region ?_
  refine L_op (s_e hS (e_assign rfl) rfl ?_); clear hS a; intro a hS
  refine L_nil ?_
  refine n_then ?_
  refine wp_block ?_
  skip
  refine c_loop (γ := Nat) (fun k a w => St 24 noB w0 a w [(5, .int .i64 (k : Int)), (4, .slice (some ⟨x7, 0, none⟩) 6 6), (3, .slice (some ⟨b6, 0, none⟩) 6 6), (0, .string s)] [.blk x7 (curs.flatMap encS) 9, .blk b6 (curs.flatMap encN) 3] ∧ k ≤ 6 ∧ ∀ j, j < k → ∀ y, curs[j]? = some y → y.1 ≠ s) (fun k => 6 - k) 0 ⟨(hS.slots (by repeat (first | exact trivial | refine ⟨rfl, ?_⟩))).pick (by repeat (first | exact Pick.nil | (refine Pick.cons (by repeat (first | exact Rem.head | apply Rem.tail)) ?_))), Nat.zero_le _, fun j hj => by omega⟩ ?_
  clear hS a; (try clear w); intro k a w hI
  obtain ⟨hS, hk, hno⟩ := hI
  refine c_seq ?_
  refine c_seq ?_
  refine c_region ?_
  refine L_op (s_e hS (e_move rfl) rfl ?_); clear hS a; intro a hS
  refine L_op (s_e hS (e_move rfl) rfl ?_); clear hS a; intro a hS
  refine L_op (s_e hS (e_len rfl rfl ty_sl142) rfl ?_); clear hS a; intro a hS
  refine L_op (s_e hS (e_bin rfl rfl rfl) rfl ?_); clear hS a; intro a hS
  refine L_nil ?_
  refine n_then ?_
  first | refine c_ifD hS rfl (fun hc11 => ?_) (fun hc11 => ?_) | refine c_if hS rfl (fun hc11 => ?_) (fun hc11 => ?_)
  ·
    have hk6 : k < 6 := by omega
    obtain ⟨x, hx⟩ : ∃ x, curs[k]? = some x := ⟨curs[k], List.getElem?_eq_getElem hk6⟩
    refine wp_skip ?_
    refine n_then ?_
    refine c_seq ?_
    refine wp_block ?_
    refine c_seq ?_
    refine c_region ?_
    refine L_op (s_e hS (e_move rfl) rfl ?_); clear hS a; intro a hS
    refine L_op (s_e hS (e_move rfl) rfl ?_); clear hS a; intro a hS
    refine L_op (s_e hS (e_ixN rfl rfl ty_sl142 ty_sz9 (by omega)) rfl ?_); clear hS a; intro a hS
    refine L_op (s_e hS (e_loadC rfl ty_sc9 (fun w hh => blkrow_get (enc := encS) (by repeat constructor) (fun _ => rfl) hx w hh 0 (.string x.1) rfl)) rfl ?_); clear hS a; intro a hS
    refine L_op (s_e hS (e_move rfl) rfl ?_); clear hS a; intro a hS
    refine L_op (s_e hS (e_binS rfl rfl rfl) rfl ?_); clear hS a; intro a hS
    refine L_nil ?_
    refine n_then ?_
    first | refine c_ifD hS rfl (fun hc19 => ?_) (fun hc19 => ?_) | refine c_if hS rfl (fun hc19 => ?_) (fun hc19 => ?_)
    ·
      refine c_seq ?_
      refine c_region ?_
      refine L_op (s_e hS (e_move rfl) rfl ?_); clear hS a; intro a hS
      refine L_op (s_e hS (e_move rfl) rfl ?_); clear hS a; intro a hS
      refine L_op (s_e hS (e_ixN rfl rfl ty_sl42 ty_sz3 (by omega)) rfl ?_); clear hS a; intro a hS
      refine L_op (s_e hS (e_loadC rfl ty_sc3 (fun w hh => blkrow_get (enc := encN) (by repeat constructor) (fun _ => rfl) hx w hh 0 (.int .i64 x.2) rfl)) rfl ?_); clear hS a; intro a hS
      refine L_op (s_e hS (e_assign rfl) rfl ?_); clear hS a; intro a hS
      refine L_nil ?_
      refine n_then ?_
      refine wp_ret ?_
      refine r_block (r_then (r_then (r_block (r_then ?_))))
      refine c_ret1 hS Try.results38 (.tmp rfl) ?_
      have hi := idx_some hx hc19 hno
      have hg : curs.getD k (⟨#[]⟩, 0) = x := by rw [List.getD_eq_getElem?_getD, hx]; rfl
      exact ⟨by unfold refS; rw [hi, if_neg (by omega), Int.toNat_natCast, hg], hS.chg⟩
    ·
      refine wp_skip ?_
      refine n_block ?_
      refine n_then ?_
      refine c_region ?_
      refine L_op (s_e hS (e_move rfl) rfl ?_); clear hS a; intro a hS
      first | (refine L_op (s_e hS (e_binN rfl rfl rfl (by omega)) rfl ?_); clear hS a; intro a hS) | (refine L_op (s_e hS (e_bin rfl rfl rfl) rfl ?_); clear hS a; intro a hS)
      refine L_op (s_e hS (e_assign rfl) rfl ?_); clear hS a; intro a hS
      refine L_nil ?_
      exact ⟨k + 1, by omega, hS.slots (by repeat (first | exact trivial | refine ⟨rfl, ?_⟩)), by omega, fun j hj y hy => by
      by_cases e : j = k
      · subst e; rw [hx] at hy; cases hy; exact hc19
      · exact hno j (by omega) y hy⟩
  ·
    refine wp_exit ?_
    refine x_then (x_then (x_hit ?_))
    refine n_then ?_
    refine c_seq ?_
    refine c_region ?_
    refine L_op (s_e hS (e_assign rfl) rfl ?_); clear hS a; intro a hS
    refine L_nil ?_
    refine n_then ?_
    refine wp_ret ?_
    refine c_ret1 hS Try.results38 (.tmp rfl) ?_
    exact ⟨by unfold refS; rw [idx_none (fun j hj => hno j (by omega)), if_pos (by decide)], hS.chg⟩
set_option maxRecDepth 100000 in
theorem xInstant_P (n : Int) (w0 : World) : PureC Try.prog 81 [.int .i64 n] w0 (.bool (decide (inst n))) := by
  refine c_enter [(0, .int .i64 n)] [] noB Try.func81 rfl Try.ntmps81 ⟨rfl, trivial⟩ rfl (by simp) (by simp) (by simp) ?_
  intro a hS
  refine c_seq ?_
  refine c_region ?_
  refine L_op (s_e hS (e_assign rfl) rfl ?_); clear hS a; intro a hS
  refine L_nil ?_
  refine n_then ?_
  refine c_seq ?_
  refine c_region ?_
  refine L_op (s_e hS (e_move rfl) rfl ?_); clear hS a; intro a hS
  refine L_op (s_e hS (e_bin rfl rfl rfl) rfl ?_); clear hS a; intro a hS
  refine L_op (s_e hS (e_move rfl) rfl ?_); clear hS a; intro a hS
  refine L_merge 3 8 (.bool (decide (inst n))) hS ?_ ?_
  · intro hcM8
    (first | refine g_splitD (t := 5) hS rfl ?_ ?_ | refine g_split (t := 5) hS rfl ?_ ?_) <;> (clear hS; intro hg5 hS)
    ·
      refine L_go hS rfl rfl (s_e hS (e_move rfl) rfl ?_); clear hS a; intro a hS
      refine L_go hS rfl rfl (s_e hS (e_bin rfl rfl rfl) rfl ?_); clear hS a; intro a hS
      first | (refine L_op (s_e hS (e_pick_t rfl rfl) rfl ?_); clear hS a; intro a hS) | (refine L_op (s_e hS (e_pick_f rfl rfl) rfl ?_); clear hS a; intro a hS)
      exact hcM8 _ _ (hS.ends 4 8 5 rfl (congrArg Value.bool (by exact decide_eq_decide.2 (by unfold inst; omega))) rfl rfl (by first | exact congrArg Value.bool (decide_eq_true hg5).symm | exact congrArg Value.bool hg5.symm | simp [hg5]) rfl)
    ·
      refine L_skip_t hS rfl rfl rfl ?_; clear hS a; intro a hS
      refine L_skip_t hS rfl rfl rfl ?_; clear hS a; intro a hS
      first | (refine L_op (s_e hS (e_pick_t rfl rfl) rfl ?_); clear hS a; intro a hS) | (refine L_op (s_e hS (e_pick_f rfl rfl) rfl ?_); clear hS a; intro a hS)
      exact hcM8 _ _ (hS.ends 4 8 5 rfl (congrArg Value.bool (by exact (decide_eq_false (by unfold inst; omega)).symm)) rfl rfl (by first | exact congrArg Value.bool (decide_eq_false hg5).symm | exact congrArg Value.bool hg5.symm | simp [hg5]) rfl)
  · clear hS a; (try clear w); intro a w hS
    simp only [List.drop_succ_cons, List.drop_zero]
    refine L_op (s_e hS (e_assign rfl) rfl ?_); clear hS a; intro a hS
    refine L_nil ?_
    refine n_then ?_
    refine wp_ret ?_
    refine c_ret1 hS Try.results81 (.tmp rfl) ?_
    exact ⟨rfl, hS.chg⟩
end Go.Proofs.Ytheofhegdjjfgaa
