/- What changes a book of invoices: asked, Get, Issue. -/
import Derived.Test.YtfiaobhkhedpiaaInv4
namespace Go.Proofs.Ytfiaobhkhedpiaa
open Go.RowKit

/-! ### asked -/
def inst (n : Int) : Prop := 0 ≤ n ∧ n ≤ 1099511627776
instance (n : Int) : Decidable (inst n) := by unfold inst; infer_instance
def askE (s cur : ByteArray) (at_ f t : Int) (lines n : Int) : Int :=
  if ¬ ValidN s.data.toList then 1 else if (scaleR cur).2 ≠ 0 then (scaleR cur).2
  else if ¬ inst at_ ∨ ¬ inst f ∨ t ≤ f ∨ 1099511627776 < t then 6 else if lines < 1 ∨ 50 < lines ∨ 500 ≤ n then 9 else 0

set_option maxRecDepth 100000 in
theorem asked_P (bk : Nat) (sv : Value) (its : List IA) (s cur : ByteArray) (at_ f t lines : Int) (hs : s.size ≤ 4611686018427387904) (w0 : World) (h : bookφ bk sv its w0) :
    PureC Try.prog 55 [.pointer (some ⟨bk, 0, none⟩), .string s, .string cur, .int .i64 at_, .int .i64 f, .int .i64 t, .int .i64 lines] w0 (.int .i64 (askE s cur at_ f t lines its.length)) := by
  obtain ⟨p, c, rfl⟩ := own_slice h.2.1
  have hb := book_ok false h
  refine c_enter [(0, .pointer (some ⟨bk, 0, none⟩)), (1, .string s), (2, .string cur), (3, .int .i64 at_), (4, .int .i64 f), (5, .int .i64 t), (6, .int .i64 lines)] [bookA bk (.slice p its.length c) its false] noB Try.func55 rfl Try.ntmps55 ⟨rfl, rfl, rfl, rfl, rfl, rfl, rfl, trivial⟩ rfl (by intro X hX; obtain rfl := List.mem_singleton.1 hX; exact hb) (by simp) (by intro X hX hm; obtain rfl := List.mem_singleton.1 hX; cases hm) ?_
  intro a hS
  refine c_seq ?_
  refine c_region ?_
  refine L_op (s_e hS (e_assign rfl) rfl ?_); clear hS a; intro a hS
  refine L_nil ?_
  refine n_then ?_
  refine c_seq ?_
  refine c_region ?_
  refine L_op (s_e hS (e_move rfl) rfl ?_); clear hS a; intro a hS
  refine L_op (s_callP hS (.cons rfl .nil) cf95 rfl (Scale_P cur _) ?_); clear hS a; (try clear w); intro a w hS
  refine L_op (s_e hS (e_move rfl) rfl ?_); clear hS a; intro a hS
  refine L_op (s_e hS (e_extract rfl rfl) rfl ?_); clear hS a; intro a hS
  refine L_op (s_e hS (e_extract rfl rfl) rfl ?_); clear hS a; intro a hS
  refine L_op (s_e hS (e_assign rfl) rfl ?_); clear hS a; intro a hS
  refine L_op (s_e hS (e_assign rfl) rfl ?_); clear hS a; intro a hS
  refine L_nil ?_
  refine n_then ?_
  refine c_seq ?_
  refine wp_block ?_
  refine c_seq ?_
  refine c_region ?_
  refine L_op (s_e hS (e_move rfl) rfl ?_); clear hS a; intro a hS
  refine L_op (s_callP hS (.cons rfl .nil) cf96 rfl (ValidName_w s hs _) ?_); clear hS a; (try clear w); intro a w hS
  refine L_op (s_e hS (e_not rfl) rfl ?_); clear hS a; intro a hS
  refine L_op (s_e hS (e_assign rfl) rfl ?_); clear hS a; intro a hS
  refine L_nil ?_
  refine n_then ?_
  first | refine c_ifD hS rfl (fun hc22 => ?_) (fun hc22 => ?_) | refine c_if hS rfl (fun hc22 => ?_) (fun hc22 => ?_)
  ·
    refine c_seq ?_
    refine c_region ?_
    refine L_op (s_e hS (e_assign rfl) rfl ?_); clear hS a; intro a hS
    refine L_nil ?_
    refine n_then ?_
    refine wp_ret ?_
    refine r_block (r_then ?_)
    refine c_ret1 hS Try.results55 (.tmp rfl) ?_
    refine ⟨?_, hS.chg⟩
    congr 2
    clear hS h hb
    simp only [askE, inst]
    simp at *
    grind
  ·
    refine c_seq ?_
    refine c_region ?_
    refine L_op (s_e hS (e_move rfl) rfl ?_); clear hS a; intro a hS
    refine L_op (s_e hS (e_bin rfl rfl rfl) rfl ?_); clear hS a; intro a hS
    refine L_op (s_e hS (e_assign rfl) rfl ?_); clear hS a; intro a hS
    refine L_nil ?_
    refine n_then ?_
    first | refine c_ifD hS rfl (fun hc26 => ?_) (fun hc26 => ?_) | refine c_if hS rfl (fun hc26 => ?_) (fun hc26 => ?_)
    ·
      refine c_seq ?_
      refine c_region ?_
      refine L_op (s_e hS (e_move rfl) rfl ?_); clear hS a; intro a hS
      refine L_op (s_e hS (e_assign rfl) rfl ?_); clear hS a; intro a hS
      refine L_nil ?_
      refine n_then ?_
      refine wp_ret ?_
      refine r_block (r_then ?_)
      refine c_ret1 hS Try.results55 (.tmp rfl) ?_
      refine ⟨?_, hS.chg⟩
      congr 2
      clear hS h hb
      simp only [askE, inst]
      simp at *
      grind
    ·
      refine c_seq ?_
      refine c_region ?_
      refine L_op (s_e hS (e_move rfl) rfl ?_); clear hS a; intro a hS
      refine L_op (s_callP hS (.cons rfl .nil) cf97 rfl (instant_w at_ _) ?_); clear hS a; (try clear w); intro a w hS
      refine L_op (s_e hS (e_not rfl) rfl ?_); clear hS a; intro a hS
      refine L_op (s_e hS (e_move rfl) rfl ?_); clear hS a; intro a hS
      (first | refine g_splitD (t := 34) hS rfl ?_ ?_ | refine g_split (t := 34) hS rfl ?_ ?_) <;> (clear hS; intro hg34 hS)
      ·
        refine L_skip_f hS rfl rfl rfl ?_; clear hS a; intro a hS
        refine L_skip_f hS rfl rfl rfl ?_; clear hS a; intro a hS
        refine L_skip_f hS rfl rfl rfl ?_; clear hS a; intro a hS
        first | (refine L_op (s_e hS (e_pick_t rfl rfl) rfl ?_); clear hS a; intro a hS) | (refine L_op (s_e hS (e_pick_f rfl rfl) rfl ?_); clear hS a; intro a hS)
        refine L_op (s_e hS (e_move rfl) rfl ?_); clear hS a; intro a hS
        refine L_skip_f hS rfl rfl rfl ?_; clear hS a; intro a hS
        refine L_skip_f hS rfl rfl rfl ?_; clear hS a; intro a hS
        refine L_skip_f hS rfl rfl rfl ?_; clear hS a; intro a hS
        first | (refine L_op (s_e hS (e_pick_t rfl rfl) rfl ?_); clear hS a; intro a hS) | (refine L_op (s_e hS (e_pick_f rfl rfl) rfl ?_); clear hS a; intro a hS)
        refine L_op (s_e hS (e_move rfl) rfl ?_); clear hS a; intro a hS
        refine L_skip_f hS rfl rfl rfl ?_; clear hS a; intro a hS
        refine L_skip_f hS rfl rfl rfl ?_; clear hS a; intro a hS
        first | (refine L_op (s_e hS (e_pick_t rfl rfl) rfl ?_); clear hS a; intro a hS) | (refine L_op (s_e hS (e_pick_f rfl rfl) rfl ?_); clear hS a; intro a hS)
        refine L_op (s_e hS (e_assign rfl) rfl ?_); clear hS a; intro a hS
        refine L_nil ?_
        refine n_then ?_
        refine c_if_t hS rfl ?_
        refine c_seq ?_
        refine c_region ?_
        refine L_op (s_e hS (e_assign rfl) rfl ?_); clear hS a; intro a hS
        refine L_nil ?_
        refine n_then ?_
        refine wp_ret ?_
        refine r_block (r_then ?_)
        refine c_ret1 hS Try.results55 (.tmp rfl) ?_
        refine ⟨?_, hS.chg⟩
        congr 2
        clear hS h hb
        simp only [askE, inst]
        simp at *
        grind
      ·
        refine L_go hS rfl rfl (s_e hS (e_move rfl) rfl ?_); clear hS a; intro a hS
        refine L_go hS rfl rfl (s_callP hS (.cons rfl .nil) cf97 rfl (instant_w f _) ?_); clear hS a; (try clear w); intro a w hS
        refine L_go hS rfl rfl (s_e hS (e_not rfl) rfl ?_); clear hS a; intro a hS
        first | (refine L_op (s_e hS (e_pick_t rfl rfl) rfl ?_); clear hS a; intro a hS) | (refine L_op (s_e hS (e_pick_f rfl rfl) rfl ?_); clear hS a; intro a hS)
        refine L_op (s_e hS (e_move rfl) rfl ?_); clear hS a; intro a hS
        (first | refine g_splitD (t := 39) hS rfl ?_ ?_ | refine g_split (t := 39) hS rfl ?_ ?_) <;> (clear hS; intro hg39 hS)
        ·
          refine L_skip_f hS rfl rfl rfl ?_; clear hS a; intro a hS
          refine L_skip_f hS rfl rfl rfl ?_; clear hS a; intro a hS
          refine L_skip_f hS rfl rfl rfl ?_; clear hS a; intro a hS
          first | (refine L_op (s_e hS (e_pick_t rfl rfl) rfl ?_); clear hS a; intro a hS) | (refine L_op (s_e hS (e_pick_f rfl rfl) rfl ?_); clear hS a; intro a hS)
          refine L_op (s_e hS (e_move rfl) rfl ?_); clear hS a; intro a hS
          refine L_skip_f hS rfl rfl rfl ?_; clear hS a; intro a hS
          refine L_skip_f hS rfl rfl rfl ?_; clear hS a; intro a hS
          first | (refine L_op (s_e hS (e_pick_t rfl rfl) rfl ?_); clear hS a; intro a hS) | (refine L_op (s_e hS (e_pick_f rfl rfl) rfl ?_); clear hS a; intro a hS)
          refine L_op (s_e hS (e_assign rfl) rfl ?_); clear hS a; intro a hS
          refine L_nil ?_
          refine n_then ?_
          refine c_if_t hS rfl ?_
          refine c_seq ?_
          refine c_region ?_
          refine L_op (s_e hS (e_assign rfl) rfl ?_); clear hS a; intro a hS
          refine L_nil ?_
          refine n_then ?_
          refine wp_ret ?_
          refine r_block (r_then ?_)
          refine c_ret1 hS Try.results55 (.tmp rfl) ?_
          refine ⟨?_, hS.chg⟩
          congr 2
          clear hS h hb
          simp only [askE, inst]
          simp at *
          grind
        ·
          refine L_go hS rfl rfl (s_e hS (e_move rfl) rfl ?_); clear hS a; intro a hS
          refine L_go hS rfl rfl (s_e hS (e_move rfl) rfl ?_); clear hS a; intro a hS
          refine L_go hS rfl rfl (s_e hS (e_bin rfl rfl rfl) rfl ?_); clear hS a; intro a hS
          first | (refine L_op (s_e hS (e_pick_t rfl rfl) rfl ?_); clear hS a; intro a hS) | (refine L_op (s_e hS (e_pick_f rfl rfl) rfl ?_); clear hS a; intro a hS)
          refine L_op (s_e hS (e_move rfl) rfl ?_); clear hS a; intro a hS
          (first | refine g_splitD (t := 44) hS rfl ?_ ?_ | refine g_split (t := 44) hS rfl ?_ ?_) <;> (clear hS; intro hg44 hS)
          ·
            refine L_skip_f hS rfl rfl rfl ?_; clear hS a; intro a hS
            refine L_skip_f hS rfl rfl rfl ?_; clear hS a; intro a hS
            first | (refine L_op (s_e hS (e_pick_t rfl rfl) rfl ?_); clear hS a; intro a hS) | (refine L_op (s_e hS (e_pick_f rfl rfl) rfl ?_); clear hS a; intro a hS)
            refine L_op (s_e hS (e_assign rfl) rfl ?_); clear hS a; intro a hS
            refine L_nil ?_
            refine n_then ?_
            refine c_if_t hS rfl ?_
            refine c_seq ?_
            refine c_region ?_
            refine L_op (s_e hS (e_assign rfl) rfl ?_); clear hS a; intro a hS
            refine L_nil ?_
            refine n_then ?_
            refine wp_ret ?_
            refine r_block (r_then ?_)
            refine c_ret1 hS Try.results55 (.tmp rfl) ?_
            refine ⟨?_, hS.chg⟩
            congr 2
            clear hS h hb
            simp only [askE, inst]
            simp at *
            grind
          ·
            refine L_go hS rfl rfl (s_e hS (e_move rfl) rfl ?_); clear hS a; intro a hS
            refine L_go hS rfl rfl (s_e hS (e_bin rfl rfl rfl) rfl ?_); clear hS a; intro a hS
            first | (refine L_op (s_e hS (e_pick_t rfl rfl) rfl ?_); clear hS a; intro a hS) | (refine L_op (s_e hS (e_pick_f rfl rfl) rfl ?_); clear hS a; intro a hS)
            refine L_op (s_e hS (e_assign rfl) rfl ?_); clear hS a; intro a hS
            refine L_nil ?_
            refine n_then ?_
            first | refine c_ifD hS rfl (fun hc30 => ?_) (fun hc30 => ?_) | refine c_if hS rfl (fun hc30 => ?_) (fun hc30 => ?_)
            ·
              refine c_seq ?_
              refine c_region ?_
              refine L_op (s_e hS (e_assign rfl) rfl ?_); clear hS a; intro a hS
              refine L_nil ?_
              refine n_then ?_
              refine wp_ret ?_
              refine r_block (r_then ?_)
              refine c_ret1 hS Try.results55 (.tmp rfl) ?_
              refine ⟨?_, hS.chg⟩
              congr 2
              clear hS h hb
              simp only [askE, inst]
              simp at *
              grind
            ·
              refine c_seq ?_
              refine c_region ?_
              refine L_op (s_e hS (e_move rfl) rfl ?_); clear hS a; intro a hS
              refine L_op (s_e hS (e_bin rfl rfl rfl) rfl ?_); clear hS a; intro a hS
              refine L_op (s_e hS (e_move rfl) rfl ?_); clear hS a; intro a hS
              (first | refine g_splitD (t := 51) hS rfl ?_ ?_ | refine g_split (t := 51) hS rfl ?_ ?_) <;> (clear hS; intro hg51 hS)
              ·
                refine L_skip_f hS rfl rfl rfl ?_; clear hS a; intro a hS
                refine L_skip_f hS rfl rfl rfl ?_; clear hS a; intro a hS
                first | (refine L_op (s_e hS (e_pick_t rfl rfl) rfl ?_); clear hS a; intro a hS) | (refine L_op (s_e hS (e_pick_f rfl rfl) rfl ?_); clear hS a; intro a hS)
                refine L_op (s_e hS (e_move rfl) rfl ?_); clear hS a; intro a hS
                refine L_skip_f hS rfl rfl rfl ?_; clear hS a; intro a hS
                refine L_skip_f hS rfl rfl rfl ?_; clear hS a; intro a hS
                refine L_skip_f hS rfl rfl rfl ?_; clear hS a; intro a hS
                refine L_skip_f hS rfl rfl rfl ?_; clear hS a; intro a hS
                refine L_skip_f hS rfl rfl rfl ?_; clear hS a; intro a hS
                refine L_skip_f hS rfl rfl rfl ?_; clear hS a; intro a hS
                first | (refine L_op (s_e hS (e_pick_t rfl rfl) rfl ?_); clear hS a; intro a hS) | (refine L_op (s_e hS (e_pick_f rfl rfl) rfl ?_); clear hS a; intro a hS)
                refine L_op (s_e hS (e_assign rfl) rfl ?_); clear hS a; intro a hS
                refine L_nil ?_
                refine n_then ?_
                refine c_if_t hS rfl ?_
                refine c_seq ?_
                refine c_region ?_
                refine L_op (s_e hS (e_assign rfl) rfl ?_); clear hS a; intro a hS
                refine L_nil ?_
                refine n_then ?_
                refine wp_ret ?_
                refine r_block (r_then ?_)
                refine c_ret1 hS Try.results55 (.tmp rfl) ?_
                refine ⟨?_, hS.chg⟩
                congr 2
                clear hS h hb
                simp only [askE, inst]
                simp at *
                grind
              ·
                refine L_go hS rfl rfl (s_e hS (e_move rfl) rfl ?_); clear hS a; intro a hS
                refine L_go hS rfl rfl (s_e hS (e_bin rfl rfl rfl) rfl ?_); clear hS a; intro a hS
                first | (refine L_op (s_e hS (e_pick_t rfl rfl) rfl ?_); clear hS a; intro a hS) | (refine L_op (s_e hS (e_pick_f rfl rfl) rfl ?_); clear hS a; intro a hS)
                refine L_op (s_e hS (e_move rfl) rfl ?_); clear hS a; intro a hS
                (first | refine g_splitD (t := 55) hS rfl ?_ ?_ | refine g_split (t := 55) hS rfl ?_ ?_) <;> (clear hS; intro hg55 hS)
                ·
                  refine L_skip_f hS rfl rfl rfl ?_; clear hS a; intro a hS
                  refine L_skip_f hS rfl rfl rfl ?_; clear hS a; intro a hS
                  refine L_skip_f hS rfl rfl rfl ?_; clear hS a; intro a hS
                  refine L_skip_f hS rfl rfl rfl ?_; clear hS a; intro a hS
                  refine L_skip_f hS rfl rfl rfl ?_; clear hS a; intro a hS
                  refine L_skip_f hS rfl rfl rfl ?_; clear hS a; intro a hS
                  first | (refine L_op (s_e hS (e_pick_t rfl rfl) rfl ?_); clear hS a; intro a hS) | (refine L_op (s_e hS (e_pick_f rfl rfl) rfl ?_); clear hS a; intro a hS)
                  refine L_op (s_e hS (e_assign rfl) rfl ?_); clear hS a; intro a hS
                  refine L_nil ?_
                  refine n_then ?_
                  refine c_if_t hS rfl ?_
                  refine c_seq ?_
                  refine c_region ?_
                  refine L_op (s_e hS (e_assign rfl) rfl ?_); clear hS a; intro a hS
                  refine L_nil ?_
                  refine n_then ?_
                  refine wp_ret ?_
                  refine r_block (r_then ?_)
                  refine c_ret1 hS Try.results55 (.tmp rfl) ?_
                  refine ⟨?_, hS.chg⟩
                  congr 2
                  clear hS h hb
                  simp only [askE, inst]
                  simp at *
                  grind
                ·
                  refine L_go hS rfl rfl (s_e hS (e_move rfl) rfl ?_); clear hS a; intro a hS
                  refine L_go hS rfl rfl (s_e hS (e_nilCheck rfl) rfl ?_); clear hS a; intro a hS
                  first | (refine L_go hS rfl rfl (s_e hS (e_fa0 rfl ty_fo92_0) rfl ?_); clear hS a; intro a hS) | (refine L_go hS rfl rfl (s_e hS (e_faK rfl ty_fo92_0) rfl ?_); clear hS a; intro a hS)
                  refine L_go hS rfl rfl (s_e hS (e_loadC rfl ty_sc41 (rd_bk (by repeat (first | exact .head _ | refine .tail _ ?_)))) rfl ?_); clear hS a; intro a hS
                  refine L_go hS rfl rfl (s_e hS (e_len rfl rfl ty_sl41) rfl ?_); clear hS a; intro a hS
                  refine L_go hS rfl rfl (s_e hS (e_bin rfl rfl rfl) rfl ?_); clear hS a; intro a hS
                  first | (refine L_op (s_e hS (e_pick_t rfl rfl) rfl ?_); clear hS a; intro a hS) | (refine L_op (s_e hS (e_pick_f rfl rfl) rfl ?_); clear hS a; intro a hS)
                  refine L_op (s_e hS (e_assign rfl) rfl ?_); clear hS a; intro a hS
                  refine L_nil ?_
                  refine n_then ?_
                  first | refine c_ifD hS rfl (fun hc48 => ?_) (fun hc48 => ?_) | refine c_if hS rfl (fun hc48 => ?_) (fun hc48 => ?_)
                  ·
                    refine c_seq ?_
                    refine c_region ?_
                    refine L_op (s_e hS (e_assign rfl) rfl ?_); clear hS a; intro a hS
                    refine L_nil ?_
                    refine n_then ?_
                    refine wp_ret ?_
                    refine r_block (r_then ?_)
                    refine c_ret1 hS Try.results55 (.tmp rfl) ?_
                    refine ⟨?_, hS.chg⟩
                    congr 2
                    clear hS h hb
                    simp only [askE, inst]
                    simp at *
                    grind
                  ·
                    refine wp_skip ?_
                    refine n_block ?_
                    refine n_then ?_
                    refine c_seq ?_
                    refine c_region ?_
                    refine L_op (s_e hS (e_assign rfl) rfl ?_); clear hS a; intro a hS
                    refine L_nil ?_
                    refine n_then ?_
                    refine wp_ret ?_
                    refine c_ret1 hS Try.results55 (.tmp rfl) ?_
                    refine ⟨?_, hS.chg⟩
                    congr 2
                    clear hS h hb
                    simp only [askE, inst]
                    simp at *
                    grind

/-! ### Get -/
def inv0 : Inv := ⟨0, 0, 0, 0, ⟨#[]⟩, ⟨#[]⟩, [], 0, 0, 0, 0, 0, 0⟩
set_option maxRecDepth 100000 in
theorem Get_none (bk : Nat) (sv : Value) (its : List IA) (number : Int) (hn : its.length ≤ 1000000) (w0 : World) (h : bookφ bk sv its w0) (hno : number < 1 ∨ (its.length : Int) < number) :
    PureC Try.prog 17 [.pointer (some ⟨bk, 0, none⟩), .int .i64 number] w0 (.tuple [.agg (encI inv0 (.slice none 0 0)).toArray, .bool false].toArray) := by
  have hof := fun w h => of_P bk sv its number hn w h
  rw [ofR, if_pos hno] at hof
  refine c_enter [(0, .pointer (some ⟨bk, 0, none⟩)), (1, .int .i64 number)] [bookA bk sv its false] noB Try.func17 rfl Try.ntmps17 ⟨rfl, rfl, trivial⟩ rfl (by intro X hX; obtain rfl := List.mem_singleton.1 hX; exact book_ok false h) (by simp) (by intro X hX hm; obtain rfl := List.mem_singleton.1 hX; cases hm) ?_
  intro a hS
  refine c_seq ?_
  refine c_region ?_
  refine L_op (s_alloc hS ty_z34 rfl ?_); clear hS a; (try clear w); intro a w b4 hS
  refine L_op (s_e hS (e_assign rfl) rfl ?_); clear hS a; intro a hS
  refine L_nil ?_
  refine n_then ?_
  refine c_seq ?_
  refine c_region ?_
  refine L_op (s_e hS (e_move rfl) rfl ?_); clear hS a; intro a hS
  refine L_op (s_e hS (e_move rfl) rfl ?_); clear hS a; intro a hS
  refine L_op (s_callP hS (.cons rfl (.cons rfl .nil)) cf59 rfl (hof _ (hS.get (X := bookA bk sv its false) (by repeat (first | exact .head _ | refine .tail _ ?_)))) ?_); clear hS a; (try clear w); intro a w hS
  refine L_op (s_e hS (e_assign rfl) rfl ?_); clear hS a; intro a hS
  refine L_nil ?_
  refine n_then ?_
  refine c_seq ?_
  refine c_seq ?_
  refine c_region ?_
  refine L_op (s_e hS (e_move rfl) rfl ?_); clear hS a; intro a hS
  refine L_op (s_e hS (e_nil rfl ty_u98) rfl ?_); clear hS a; intro a hS
  refine L_nil ?_
  refine n_then ?_
  replace hS := hS.is (t := 11) (c := true) rfl (rfl)
  refine c_if_t hS rfl ?_
  refine c_seq ?_
  refine c_region ?_
  refine L_op (s_e hS (e_build ty_z34 ty_pl34 .nil) rfl ?_); clear hS a; intro a hS
  refine L_op (s_storeA hS rfl rfl ty_sz34 (by repeat constructor) (by rfl) (by rfl) (by rfl) ?_); clear hS; (try clear w); intro w hS
  refine L_op (s_e hS (e_assign rfl) rfl ?_); clear hS a; intro a hS
  refine L_nil ?_
  refine n_then ?_
  refine wp_ret ?_
  refine r_then ?_
  refine c_retN hS Try.results17 (.cons (.cellA rfl (by repeat constructor) ty_st34 ty_sz34 (by rfl)) (.cons (.tmp rfl) .nil)) rfl ?_
  exact ⟨rfl, hS.chg⟩
set_option maxRecDepth 100000 in
theorem Get_some (bk : Nat) (sv : Value) (its : List IA) (k : Nat) (x : IA) (hx : its[k]? = some x) (hn : its.length ≤ 1000000) (hls : x.v.lines.length ≤ 1000000) (w0 : World) (h : bookφ bk sv its w0) :
    NewC Try.prog 17 [.pointer (some ⟨bk, 0, none⟩), .int .i64 ((k : Int) + 1)] w0 (fun y : Nat × Nat => .tuple [.agg (encI x.v (lnV x.v y.1 y.2)).toArray, .bool true].toArray) (fun y => lnA x.v y.1 y.2) := by
  have hlt := (List.getElem?_eq_some_iff.1 hx).1
  have hxm := List.mem_of_getElem? hx
  have hof := fun w h => of_P bk sv its ((k : Int) + 1) hn w h
  rw [ofR, if_neg (by omega), show ((k : Int) + 1 - 1).toNat = k by omega] at hof
  obtain ⟨g, c, rfl⟩ := own_some h.2.1 (fun e => by
    rcases h.2.1.2 with ⟨_, e2⟩ | ⟨g, cap, cur, e3, _⟩
    · omega
    · rw [e] at e3; cases e3)
  simp only [rowPtr] at hof
  refine c_enter [(0, .pointer (some ⟨bk, 0, none⟩)), (1, .int .i64 ((k : Int) + 1))] [bookA bk (.slice (some ⟨g, 0, none⟩) its.length c) its false] noB Try.func17 rfl Try.ntmps17 ⟨rfl, rfl, trivial⟩ rfl (by intro X hX; obtain rfl := List.mem_singleton.1 hX; exact book_ok false h) (by simp) (by intro X hX hm; obtain rfl := List.mem_singleton.1 hX; cases hm) ?_
  intro a hS
  refine c_seq ?_
  refine c_region ?_
  refine L_op (s_alloc hS ty_z34 rfl ?_); clear hS a; (try clear w); intro a w b4 hS
  refine L_op (s_e hS (e_assign rfl) rfl ?_); clear hS a; intro a hS
  refine L_nil ?_
  refine n_then ?_
  refine c_seq ?_
  refine c_region ?_
  refine L_op (s_e hS (e_move rfl) rfl ?_); clear hS a; intro a hS
  refine L_op (s_e hS (e_move rfl) rfl ?_); clear hS a; intro a hS
  refine L_op (s_callP hS (.cons rfl (.cons rfl .nil)) cf59 rfl (hof _ (hS.get (X := bookA bk (.slice (some ⟨g, 0, none⟩) its.length c) its false) (by repeat (first | exact .head _ | refine .tail _ ?_)))) ?_); clear hS a; (try clear w); intro a w hS
  refine L_op (s_e hS (e_assign rfl) rfl ?_); clear hS a; intro a hS
  refine L_nil ?_
  refine n_then ?_
  refine c_seq ?_
  refine c_seq ?_
  refine c_region ?_
  refine L_op (s_e hS (e_move rfl) rfl ?_); clear hS a; intro a hS
  refine L_op (s_e hS (e_nil rfl ty_u98) rfl ?_); clear hS a; intro a hS
  refine L_nil ?_
  refine n_then ?_
  replace hS := hS.is (t := 11) (c := false) rfl (rfl)
  refine c_if_f hS rfl ?_
  refine wp_skip ?_
  refine n_then ?_
  refine c_seq ?_
  refine c_region ?_
  refine L_op (s_e hS (e_move rfl) rfl ?_); clear hS a; intro a hS
  refine L_op (s_e hS (e_nilCheck rfl) rfl ?_); clear hS a; intro a hS
  refine L_op (s_e hS (e_loadAC (l := encA x) rfl ty_st34 ty_sz34 (rd_row (by repeat (first | exact .head _ | refine .tail _ ?_)) hx)) rfl ?_); clear hS a; intro a hS
  have hlo : lnOk x w := (hS.get (X := bookA bk (.slice (some ⟨g, 0, none⟩) its.length c) its false) (by repeat (first | exact .head _ | refine .tail _ ?_))).2.2 x hxm
  refine L_op (s_callN hS (.cons rfl .nil) cf58 rfl (own_one x.v x.b 0 x.c hls _ (row_of_own (b := x.b) (c := x.c) (enc := encL) (fun _ => rfl) hlo) hlo.lt) ?_); clear hS a; (try clear w); intro x16 a w hS
  refine L_op (s_storeA hS rfl rfl ty_sz34 (by repeat constructor) (by rfl) (by rfl) (by rfl) ?_); clear hS; (try clear w); intro w hS
  refine L_op (s_e hS (e_assign rfl) rfl ?_); clear hS a; intro a hS
  refine L_nil ?_
  refine n_then ?_
  refine wp_ret ?_
  refine c_retN hS Try.results17 (.cons (.cellA rfl (by repeat constructor) ty_st34 ty_sz34 (by rfl)) (.cons (.tmp rfl) .nil)) rfl ?_
  exact ⟨x16, rfl, hS.chg, hS.new (.head _) rfl⟩

/-! ### Issue -/
theorem book_dis {bk : Nat} {sv : Value} {its : List IA} {w : World} (h : bookφ bk sv its w) : sv.ownBlock ≠ some bk ∧ (∀ x ∈ its, x.b ≠ bk) ∧ ∀ x ∈ its, sv.ownBlock ≠ some x.b := by
  obtain ⟨h1, h2, h3⟩ := h
  have hx : ∀ x ∈ its, ∃ cs, w.heap[x.b]? = some (.cells cs 26 (0, 0)) := fun x hx => by
    rcases (h3 x hx).2 with ⟨e, _⟩ | ⟨g, cap, cur, e, _, e2, _⟩
    · cases e
    · simp only [lnV, Value.slice.injEq, Option.some.injEq, Addr.mk.injEq] at e
      rw [← e.1.1] at e2; exact ⟨_, e2⟩
  have hs : ∀ g, sv.ownBlock = some g → ∃ cs, w.heap[g]? = some (.cells cs 34 (0, 0)) := fun g hg => by
    rcases h2.2 with ⟨rfl, _⟩ | ⟨g', cap, cur, rfl, _, e2, _⟩
    · cases hg
    · simp [Value.ownBlock] at hg; subst hg; exact ⟨_, e2⟩
  refine ⟨fun e => ?_, fun x hm e => ?_, fun x hm e => ?_⟩
  · obtain ⟨cs, h4⟩ := hs _ e
    rw [h1] at h4; cases h4
  · obtain ⟨cs, h4⟩ := hx x hm
    rw [e, h1] at h4; cases h4
  · obtain ⟨cs, h4⟩ := hx x hm
    obtain ⟨cs', h5⟩ := hs _ e
    rw [h4] at h5; cases h5

/-- a book's three parts. -/
def bookL (bk : Nat) (sv : Value) (its : List IA) : List Asn := [.blk bk [sv] 92, rowA13 sv its, linesAll its]
theorem bookL_ok {bk : Nat} {sv : Value} {its : List IA} {w : World} (h : bookφ bk sv its w) : ∀ X ∈ bookL bk sv its, X.ok w := by
  intro X hX
  simp only [bookL, List.mem_cons, List.not_mem_nil, or_false] at hX
  rcases hX with rfl | rfl | rfl
  · exact ok_blk h.1
  · exact ok_own h.2.1
  · exact lines_ok h.2.2
theorem bookL_dis {bk : Nat} {sv : Value} {its : List IA} {w : World} (h : bookφ bk sv its w) : (bookL bk sv its).Pairwise (fun X Y => ∀ b, X.F b → ¬ Y.F b) := by
  obtain ⟨h1, h2, h3⟩ := book_dis h
  simp only [bookL, List.pairwise_cons, List.mem_cons, List.not_mem_nil, or_false]
  refine ⟨fun Y hY b hb hb' => ?_, fun Y hY b hb hb' => ?_, fun Y hY => hY.elim, .nil⟩
  · have e : b = bk := hb
    subst e
    rcases hY with rfl | rfl
    · exact h1 hb'
    · obtain ⟨x, hx, e⟩ := hb'; exact h2 x hx e.symm
  · subst hY
    obtain ⟨x, hx, rfl⟩ := hb'
    exact h3 x hx hb
theorem bookL_F {bk : Nat} {sv : Value} {its : List IA} : ∀ X ∈ bookL bk sv its, ∀ b, X.F b → bookF bk sv its b := by
  intro X hX b hb
  simp only [bookL, List.mem_cons, List.not_mem_nil, or_false] at hX
  rcases hX with rfl | rfl | rfl
  · exact .inl hb
  · exact .inr (.inl hb)
  · exact .inr (.inr hb)

def newInv (n : Nat) (account cur : ByteArray) (at_ f t : Int) (l : List RLine) : Inv :=
  ⟨(n : Int) + 1, at_, f, t, account, cur, l, sumN l, sumT l, sumN l + sumT l, 0, 0, if sumN l + sumT l = 0 then 2 else 1⟩
def firstErr (l : List RLine) : Int := match l.find? (fun x => decide (lineErr x ≠ 0)) with | some x => lineErr x | none => 0
/-- the error of an issue. -/
def issueE (its : List IA) (account cur : ByteArray) (at_ f t : Int) (l : List RLine) : Int :=
  if askE account cur at_ f t l.length its.length ≠ 0 then askE account cur at_ f t l.length its.length
  else if firstErr l ≠ 0 then firstErr l
  else if (sumR l).2.2 ≠ 0 then (sumR l).2.2
  else if someL (billedB account f t) its ≠ [] then 3 else 0

theorem firstErr_at {l : List RLine} {k : Nat} {x : RLine} (hx : l[k]? = some x) (he : lineErr x ≠ 0) (hb : ∀ j, j < k → ∀ y, l[j]? = some y → lineErr y = 0) : firstErr l = lineErr x := by
  have hlt := (List.getElem?_eq_some_iff.1 hx).1
  have : l.find? (fun x => decide (lineErr x ≠ 0)) = some x := by
    rw [List.find?_eq_some_iff_getElem]
    refine ⟨by simpa using he, k, hlt, (List.getElem?_eq_some_iff.1 hx).2, fun j hj => ?_⟩
    have := hb j hj l[j] (by simp)
    simp [this]
  unfold firstErr; rw [this]
theorem firstErr_none {l : List RLine} (hb : ∀ j, j < l.length → ∀ y, l[j]? = some y → lineErr y = 0) : firstErr l = 0 := by
  have : l.find? (fun x => decide (lineErr x ≠ 0)) = none := by
    rw [List.find?_eq_none]
    intro x hx
    obtain ⟨j, hj, rfl⟩ := List.mem_iff_getElem.1 hx
    rw [decide_eq_true_eq]
    exact fun hne => hne (hb j hj _ (by simp))
  unfold firstErr; rw [this]
theorem sumR_err (l : List RLine) : ((sumR l).2.2 ≠ 0 → sumR l = (0, 0, 16)) ∧ ((sumR l).2.2 = 0 → (inU (sumN l) ∧ inU (sumT l) ∧ inU (sumN l + sumT l)) ∧ sumR l = (sumN l, sumT l, 0)) := by
  unfold sumR
  split
  · exact ⟨fun h => absurd rfl h, fun _ => ⟨by assumption, rfl⟩⟩
  · exact ⟨fun _ => rfl, fun h => by simp at h⟩

set_option maxRecDepth 100000 in
theorem Issue_err (bk : Nat) (sv : Value) (its : List IA) (account cur : ByteArray) (at_ f t : Int) (p : Option (Nat × Nat)) (c : Nat) (l : List RLine) (hs : account.size ≤ 4611686018427387904) (hn : its.length ≤ 1000000) (hls : ∀ x ∈ its, x.v.lines.length ≤ 1000000)
    (hlen : l.length ≤ 1000000) (hfit : ∀ x ∈ l, x.fits) (w0 : World) (h : bookφ bk sv its w0) (hrow : RowP p 4 (l.map encL) w0) (hpb : ∀ q, p = some q → q.1 < w0.heap.size ∧ ¬ bookF bk sv its q.1) (hE : issueE its account cur at_ f t l ≠ 0) :
    PureC Try.prog 15 [.pointer (some ⟨bk, 0, none⟩), .string account, .string cur, .int .i64 at_, .int .i64 f, .int .i64 t, sliceV p l.length c] w0 (.tuple [.int .i64 0, .int .i64 (issueE its account cur at_ f t l)].toArray) := by
  have hb := book_ok false h
  have hr := ok_rowP hrow (fun q hq => (hpb q hq).1)
  refine c_enter [(0, .pointer (some ⟨bk, 0, none⟩)), (1, .string account), (2, .string cur), (3, .int .i64 at_), (4, .int .i64 f), (5, .int .i64 t), (6, sliceV p l.length c)] [bookA bk sv its false, rowP p 4 (l.map encL)] noB Try.func15 rfl Try.ntmps15 ⟨rfl, rfl, rfl, rfl, rfl, rfl, rfl, trivial⟩ rfl (by intro X hX; simp only [List.mem_cons, List.not_mem_nil, or_false] at hX; rcases hX with rfl | rfl; exact hb; exact hr) (by refine List.pairwise_cons.2 ⟨fun Y hY b hb hb' => ?_, List.pairwise_singleton _ _⟩; obtain rfl := List.mem_singleton.1 hY; obtain ⟨off, e⟩ := hb'; exact (hpb _ e).2 hb) (by intro X hX hm; simp only [List.mem_cons, List.not_mem_nil, or_false] at hX; rcases hX with rfl | rfl <;> cases hm) ?_
  intro a hS
  refine c_seq ?_
  refine c_region ?_
  refine L_op (s_e hS (e_assign rfl) rfl ?_); clear hS a; intro a hS
  refine L_op (s_e hS (e_assign rfl) rfl ?_); clear hS a; intro a hS
  refine L_nil ?_
  refine n_then ?_
  refine c_seq ?_
  refine c_seq ?_
  refine c_region ?_
  refine L_op (s_e hS (e_move rfl) rfl ?_); clear hS a; intro a hS
  refine L_op (s_e hS (e_move rfl) rfl ?_); clear hS a; intro a hS
  refine L_op (s_e hS (e_move rfl) rfl ?_); clear hS a; intro a hS
  refine L_op (s_e hS (e_move rfl) rfl ?_); clear hS a; intro a hS
  refine L_op (s_e hS (e_move rfl) rfl ?_); clear hS a; intro a hS
  refine L_op (s_e hS (e_move rfl) rfl ?_); clear hS a; intro a hS
  refine L_op (s_e hS (e_move rfl) rfl ?_); clear hS a; intro a hS
  refine L_op (s_e hS (e_len rfl rfl ty_sl22) rfl ?_); clear hS a; intro a hS
  refine L_op (s_callP hS (.cons rfl (.cons rfl (.cons rfl (.cons rfl (.cons rfl (.cons rfl (.cons rfl .nil))))))) cf55 rfl (asked_P bk sv its account cur at_ f t l.length hs _ (hS.get (X := bookA bk sv its false) (by repeat (first | exact .head _ | refine .tail _ ?_)))) ?_); clear hS a; (try clear w); intro a w hS
  refine L_op (s_e hS (e_assign rfl) rfl ?_); clear hS a; intro a hS
  refine L_nil ?_
  refine n_then ?_
  refine c_seq ?_
  refine c_region ?_
  refine L_op (s_e hS (e_move rfl) rfl ?_); clear hS a; intro a hS
  refine L_op (s_e hS (e_bin rfl rfl rfl) rfl ?_); clear hS a; intro a hS
  refine L_nil ?_
  refine n_then ?_
  first | refine c_ifD hS rfl (fun hc34 => ?_) (fun hc34 => ?_) | refine c_if hS rfl (fun hc34 => ?_) (fun hc34 => ?_)
  ·
    refine c_seq ?_
    refine c_region ?_
    refine L_op (s_e hS (e_move rfl) rfl ?_); clear hS a; intro a hS
    refine L_op (s_e hS (e_assign rfl) rfl ?_); clear hS a; intro a hS
    refine L_op (s_e hS (e_assign rfl) rfl ?_); clear hS a; intro a hS
    refine L_nil ?_
    refine n_then ?_
    refine wp_ret ?_
    refine r_then ?_
    refine c_retN hS Try.results15 (.cons (.tmp rfl) (.cons (.tmp rfl) .nil)) rfl ?_
    have he : issueE its account cur at_ f t l = askE account cur at_ f t l.length its.length := by unfold issueE; rw [if_pos hc34]
    rw [he]; exact ⟨rfl, hS.chg⟩
  ·
    refine wp_skip ?_
    refine n_then ?_
    refine c_seq ?_
    refine c_seq ?_
    refine c_region ?_
    refine L_op (s_e hS (e_move rfl) rfl ?_); clear hS a; intro a hS
    refine L_op (s_e hS (e_len rfl rfl ty_sl22) rfl ?_); clear hS a; intro a hS
    refine L_op (s_e hS (e_move rfl) rfl ?_); clear hS a; intro a hS
    refine L_nil ?_
    refine n_then ?_
    refine wp_block ?_
    skip
    refine c_loop (γ := Nat) (fun k a w => St 95 noB w0 a w [(38, .int .i64 (k : Int)), (37, .int .i64 (l.length : Int)), (36, sliceV p l.length c), (0, .pointer (some ⟨bk, 0, none⟩)), (1, .string account), (2, .string cur), (3, .int .i64 at_), (4, .int .i64 f), (5, .int .i64 t), (6, sliceV p l.length c)] [bookA bk sv its false, rowP p 4 (l.map encL)] ∧ k ≤ l.length ∧ ∀ j, j < k → ∀ y, l[j]? = some y → lineErr y = 0) (fun k => l.length - k) 0 ⟨hS.slots ⟨rfl, rfl, rfl, rfl, rfl, rfl, rfl, rfl, rfl, rfl, trivial⟩, Nat.zero_le _, fun j hj => by omega⟩ ?_
    clear hS a; (try clear w); intro k a w hI
    obtain ⟨hS, hk, hno⟩ := hI
    refine c_seq ?_
    refine c_region ?_
    refine L_op (s_e hS (e_bin rfl rfl rfl) rfl ?_); clear hS a; intro a hS
    refine L_nil ?_
    refine n_then ?_
    refine c_seq ?_
    first | refine c_ifD hS rfl (fun hc39 => ?_) (fun hc39 => ?_) | refine c_if hS rfl (fun hc39 => ?_) (fun hc39 => ?_)
    ·
      obtain ⟨x, hx⟩ : ∃ x, l[k]? = some x := ⟨l[k], by simp⟩
      have hx' : (l.map encL)[k]? = some (encL x) := by simp [hx]
      obtain ⟨br, off, rfl⟩ := rowP_some hrow hx'
      have hxf := fits_get hfit hx
      refine wp_skip ?_
      refine n_then ?_
      refine c_seq ?_
      refine wp_block ?_
      refine c_seq ?_
      refine c_region ?_
      refine L_op (s_e hS (e_ixN rfl rfl ty_sl22 ty_sz26 (by omega)) rfl ?_); clear hS a; intro a hS
      refine L_op (s_e hS (e_loadAC (l := encL x) rfl ty_st26 ty_sz26 (rowP_get (by repeat (first | exact .head _ | refine .tail _ ?_)) hx')) rfl ?_); clear hS a; intro a hS
      refine L_op (s_alloc hS ty_z26 rfl ?_); clear hS a; (try clear w); intro a w b18 hS
      refine L_op (s_storeA hS rfl rfl ty_sz26 (by repeat constructor) (by rfl) (by rfl) (by rfl) ?_); clear hS; (try clear w); intro w hS
      refine L_nil ?_
      refine n_then ?_
      refine c_seq ?_
      refine c_region ?_
      refine L_op (s_e hS (e_loadA rfl (by repeat constructor) ty_st26 ty_sz26 (by rfl)) rfl ?_); clear hS a; intro a hS
      refine L_op (s_callP hS (.cons rfl .nil) cf56 rfl (line_w x hxf _) ?_); clear hS a; (try clear w); intro a w hS
      refine L_op (s_e hS (e_assign rfl) rfl ?_); clear hS a; intro a hS
      refine L_nil ?_
      refine n_then ?_
      refine c_seq ?_
      refine c_region ?_
      refine L_op (s_e hS (e_move rfl) rfl ?_); clear hS a; intro a hS
      refine L_op (s_e hS (e_bin rfl rfl rfl) rfl ?_); clear hS a; intro a hS
      refine L_nil ?_
      refine n_then ?_
      first | refine c_ifD hS rfl (fun hc45 => ?_) (fun hc45 => ?_) | refine c_if hS rfl (fun hc45 => ?_) (fun hc45 => ?_)
      ·
        refine c_seq ?_
        refine c_region ?_
        refine L_op (s_e hS (e_move rfl) rfl ?_); clear hS a; intro a hS
        refine L_op (s_e hS (e_assign rfl) rfl ?_); clear hS a; intro a hS
        refine L_op (s_e hS (e_assign rfl) rfl ?_); clear hS a; intro a hS
        refine L_nil ?_
        refine n_then ?_
        refine wp_ret ?_
        refine r_block (r_then (r_then (r_block (r_then ?_))))
        refine c_retN hS Try.results15 (.cons (.tmp rfl) (.cons (.tmp rfl) .nil)) rfl ?_
        have he : issueE its account cur at_ f t l = lineErr x := by
          unfold issueE; rw [if_neg (show ¬ askE account cur at_ f t l.length its.length ≠ 0 by simpa using hc34), firstErr_at hx hc45 hno, if_pos hc45]
        rw [he]; exact ⟨rfl, hS.chg⟩
      ·
        refine wp_skip ?_
        refine n_block ?_
        refine n_then ?_
        refine c_region ?_
        first | (refine L_op (s_e hS (e_binN rfl rfl rfl (by omega)) rfl ?_); clear hS a; intro a hS) | (refine L_op (s_e hS (e_bin rfl rfl rfl) rfl ?_); clear hS a; intro a hS)
        refine L_op (s_e hS (e_move rfl) rfl ?_); clear hS a; intro a hS
        refine L_nil ?_
        exact ⟨k + 1, by omega, (hS.drop (.cons _ (.refl _))).slots (by exact ⟨rfl, rfl, rfl, rfl, rfl, rfl, rfl, rfl, rfl, rfl, trivial⟩), by omega, fun j hj y hy => by
          by_cases e : j = k
          · subst e; rw [hx] at hy; cases hy; simpa using hc45
          · exact hno j (by omega) y hy⟩
    ·
      obtain rfl : k = l.length := by omega
      have hfe := firstErr_none hno
      have ha : ¬ askE account cur at_ f t l.length its.length ≠ 0 := by simpa using hc34
      have he1 : issueE its account cur at_ f t l = if (sumR l).2.2 ≠ 0 then (sumR l).2.2 else if someL (billedB account f t) its ≠ [] then 3 else 0 := by
        unfold issueE; rw [if_neg ha, hfe, if_neg (show ¬ (0 : Int) ≠ 0 by simp)]
      refine wp_exit ?_
      refine x_then (x_then (x_hit ?_))
      refine n_then ?_
      refine c_seq ?_
      refine c_region ?_
      refine L_op (s_e hS (e_move rfl) rfl ?_); clear hS a; intro a hS
      refine L_op (s_callP hS (.cons rfl .nil) cf57 rfl (rSum_P p c l hlen hfit _ (hS.get (X := rowP p 4 (l.map encL)) (by repeat (first | exact .head _ | refine .tail _ ?_))) (fun q hq => (hS.ok (rowP p 4 (l.map encL)) (by repeat (first | exact .head _ | refine .tail _ ?_))).lt q.1 ⟨q.2, hq⟩)) ?_); clear hS a; (try clear w); intro a w hS
      refine L_op (s_e hS (e_move rfl) rfl ?_); clear hS a; intro a hS
      refine L_op (s_e hS (e_extract rfl rfl) rfl ?_); clear hS a; intro a hS
      refine L_op (s_e hS (e_extract rfl rfl) rfl ?_); clear hS a; intro a hS
      refine L_op (s_e hS (e_extract rfl rfl) rfl ?_); clear hS a; intro a hS
      refine L_op (s_e hS (e_assign rfl) rfl ?_); clear hS a; intro a hS
      refine L_op (s_e hS (e_assign rfl) rfl ?_); clear hS a; intro a hS
      refine L_op (s_e hS (e_assign rfl) rfl ?_); clear hS a; intro a hS
      refine L_nil ?_
      refine n_then ?_
      refine c_seq ?_
      refine wp_block ?_
      refine c_seq ?_
      refine c_region ?_
      refine L_op (s_e hS (e_move rfl) rfl ?_); clear hS a; intro a hS
      refine L_op (s_e hS (e_bin rfl rfl rfl) rfl ?_); clear hS a; intro a hS
      refine L_op (s_e hS (e_assign rfl) rfl ?_); clear hS a; intro a hS
      refine L_nil ?_
      refine n_then ?_
      first | refine c_ifD hS rfl (fun hc54 => ?_) (fun hc54 => ?_) | refine c_if hS rfl (fun hc54 => ?_) (fun hc54 => ?_)
      ·
        refine c_seq ?_
        refine c_region ?_
        refine L_op (s_e hS (e_move rfl) rfl ?_); clear hS a; intro a hS
        refine L_op (s_e hS (e_assign rfl) rfl ?_); clear hS a; intro a hS
        refine L_op (s_e hS (e_assign rfl) rfl ?_); clear hS a; intro a hS
        refine L_nil ?_
        refine n_then ?_
        refine wp_ret ?_
        refine r_block (r_then ?_)
        refine c_retN hS Try.results15 (.cons (.tmp rfl) (.cons (.tmp rfl) .nil)) rfl ?_
        rw [he1, if_pos hc54]; exact ⟨rfl, hS.chg⟩
      ·
        refine c_seq ?_
        refine c_region ?_
        refine L_op (s_e hS (e_move rfl) rfl ?_); clear hS a; intro a hS
        refine L_op (s_e hS (e_move rfl) rfl ?_); clear hS a; intro a hS
        refine L_op (s_e hS (e_move rfl) rfl ?_); clear hS a; intro a hS
        refine L_op (s_e hS (e_move rfl) rfl ?_); clear hS a; intro a hS
        refine L_op (s_callP hS (.cons rfl (.cons rfl (.cons rfl (.cons rfl .nil)))) cf26 rfl (Billed_P bk sv its account f t hn hls _ (hS.get (X := bookA bk sv its false) (by repeat (first | exact .head _ | refine .tail _ ?_)))) ?_); clear hS a; (try clear w); intro a w hS
        refine L_op (s_e hS (e_assign rfl) rfl ?_); clear hS a; intro a hS
        refine L_nil ?_
        refine n_then ?_
        first | refine c_ifD hS rfl (fun hc58 => ?_) (fun hc58 => ?_) | refine c_if hS rfl (fun hc58 => ?_) (fun hc58 => ?_)
        ·
          refine c_seq ?_
          refine c_region ?_
          refine L_op (s_e hS (e_assign rfl) rfl ?_); clear hS a; intro a hS
          refine L_op (s_e hS (e_assign rfl) rfl ?_); clear hS a; intro a hS
          refine L_nil ?_
          refine n_then ?_
          refine wp_ret ?_
          refine r_block (r_then ?_)
          refine c_retN hS Try.results15 (.cons (.tmp rfl) (.cons (.tmp rfl) .nil)) rfl ?_
          rw [he1, if_neg (show ¬ (sumR l).2.2 ≠ 0 by simpa using hc54), if_pos (by simpa using hc58)]; exact ⟨rfl, hS.chg⟩
        ·
          exfalso; apply hE
          rw [he1, if_neg (show ¬ (sumR l).2.2 ≠ 0 by simpa using hc54), if_neg (by simpa using hc58)]

theorem issueE_zero {its : List IA} {account cur : ByteArray} {at_ f t : Int} {l : List RLine} (h : issueE its account cur at_ f t l = 0) :
    askE account cur at_ f t l.length its.length = 0 ∧ firstErr l = 0 ∧ (sumR l).2.2 = 0 ∧ someL (billedB account f t) its = [] := by
  unfold issueE at h
  by_cases h1 : askE account cur at_ f t l.length its.length = 0
  · by_cases h2 : firstErr l = 0
    · by_cases h3 : (sumR l).2.2 = 0
      · by_cases h4 : someL (billedB account f t) its = []
        · exact ⟨h1, h2, h3, h4⟩
        · simp [h1, h2, h3, h4] at h
      · simp [h1, h2, h3] at h
    · simp [h1, h2] at h
  · simp [h1] at h
theorem firstErr_zero {l : List RLine} (h : firstErr l = 0) : ∀ (j : Nat) (y : RLine), l[j]? = some y → lineErr y = 0 := by
  intro j y hy
  unfold firstErr at h
  cases hf : l.find? (fun x => decide (lineErr x ≠ 0)) with
  | none =>
    have := (List.find?_eq_none.1 hf) y (List.mem_of_getElem? hy)
    simpa using this
  | some z =>
    rw [hf] at h
    have := List.find?_some hf
    simp at this
    exact absurd h this
theorem askE_lines {s cur : ByteArray} {at_ f t lines n : Int} (h : askE s cur at_ f t lines n = 0) : n < 500 ∧ 1 ≤ lines ∧ lines ≤ 50 := by
  unfold askE at h
  split at h
  · simp at h
  · split at h
    · rename_i h1; exact absurd h h1
    · split at h
      · simp at h
      · split at h
        · simp at h
        · omega

/-- a book with one invoice more. -/
theorem book_snoc {bk : Nat} {sv' : Value} {its : List IA} {x : IA} {w : World} (h1 : bkOk bk sv' w) (h2 : (ownA 34 13 sv' (its.length + 1) (its.flatMap encA ++ (encA x ++ []))).ok w) (h3 : (linesAll its).ok w) (h4 : (lnA x.v x.b x.c).ok w) : bookφ bk sv' (its ++ [x]) w := by
  refine ⟨h1, ?_, (lines_snoc h3 h4).now⟩
  have : w.ownsRow 0 34 13 sv' (its.length + 1) (its.flatMap encA ++ (encA x ++ [])) := h2.now
  unfold rowOk
  simpa using this

set_option maxRecDepth 100000 in
theorem Issue_ok (bk : Nat) (sv : Value) (its : List IA) (account cur : ByteArray) (at_ f t : Int) (p : Option (Nat × Nat)) (c : Nat) (hc : p = none → c = 0) (l : List RLine) (hs : account.size ≤ 4611686018427387904) (hls : ∀ x ∈ its, x.v.lines.length ≤ 1000000)
    (hfit : ∀ x ∈ l, x.fits) (w0 : World) (h : bookφ bk sv its w0) (hrow : RowP p 4 (l.map encL) w0) (hpb : ∀ q, p = some q → q.1 < w0.heap.size ∧ ¬ bookF bk sv its q.1) (hE : issueE its account cur at_ f t l = 0) :
    MutC Try.prog 15 [.pointer (some ⟨bk, 0, none⟩), .string account, .string cur, .int .i64 at_, .int .i64 f, .int .i64 t, sliceV p l.length c] w0 (bookA bk sv its true) (fun _ : { y : Value × IA // y.2.v = newInv its.length account cur at_ f t l } => .tuple [.int .i64 (its.length + 1 : Int), .int .i64 0].toArray) (fun y => bookA bk y.1.1 (its ++ [y.1.2]) true) := by
  obtain ⟨e1, e2, e3, e4⟩ := issueE_zero hE
  obtain ⟨n1, n2, n3⟩ := askE_lines e1
  obtain ⟨⟨u1, u2, u3⟩, e5⟩ := (sumR_err l).2 e3
  have hn : its.length ≤ 1000000 := by omega
  have hlen : l.length ≤ 1000000 := by omega
  have hr := ok_rowP hrow (fun q hq => (hpb q hq).1)
  refine c_enter [(0, .pointer (some ⟨bk, 0, none⟩)), (1, .string account), (2, .string cur), (3, .int .i64 at_), (4, .int .i64 f), (5, .int .i64 t), (6, sliceV p l.length c)] (rowP p 4 (l.map encL) :: bookL bk sv its) (bookF bk sv its) Try.func15 rfl Try.ntmps15 ⟨rfl, rfl, rfl, rfl, rfl, rfl, rfl, trivial⟩ rfl (by intro X hX; rcases List.mem_cons.1 hX with rfl | hX; exact hr; exact bookL_ok h X hX) (by refine List.pairwise_cons.2 ⟨fun Y hY b hb hb' => ?_, bookL_dis h⟩; obtain ⟨off, e⟩ := hb; exact (hpb _ e).2 (bookL_F Y hY _ hb')) (by intro X hX hm b hb; rcases List.mem_cons.1 hX with rfl | hX; cases hm; exact .inr (bookL_F X hX b hb)) ?_
  intro a hS
  refine c_seq ?_
  refine c_region ?_
  refine L_op (s_e hS (e_assign rfl) rfl ?_); clear hS a; intro a hS
  refine L_op (s_e hS (e_assign rfl) rfl ?_); clear hS a; intro a hS
  refine L_nil ?_
  refine n_then ?_
  refine c_seq ?_
  refine c_seq ?_
  refine c_region ?_
  refine L_op (s_e hS (e_move rfl) rfl ?_); clear hS a; intro a hS
  refine L_op (s_e hS (e_move rfl) rfl ?_); clear hS a; intro a hS
  refine L_op (s_e hS (e_move rfl) rfl ?_); clear hS a; intro a hS
  refine L_op (s_e hS (e_move rfl) rfl ?_); clear hS a; intro a hS
  refine L_op (s_e hS (e_move rfl) rfl ?_); clear hS a; intro a hS
  refine L_op (s_e hS (e_move rfl) rfl ?_); clear hS a; intro a hS
  refine L_op (s_e hS (e_move rfl) rfl ?_); clear hS a; intro a hS
  refine L_op (s_e hS (e_len rfl rfl ty_sl22) rfl ?_); clear hS a; intro a hS
  refine L_op (s_callP hS (.cons rfl (.cons rfl (.cons rfl (.cons rfl (.cons rfl (.cons rfl (.cons rfl .nil))))))) cf55 rfl (asked_P bk sv its account cur at_ f t l.length hs _ ⟨hS.get (X := .blk bk [sv] 92) (by repeat (first | exact .head _ | refine .tail _ ?_)), hS.get (X := rowA13 sv its) (by repeat (first | exact .head _ | refine .tail _ ?_)), hS.get (X := linesAll its) (by repeat (first | exact .head _ | refine .tail _ ?_))⟩) ?_); clear hS a; (try clear w); intro a w hS
  refine L_op (s_e hS (e_assign rfl) rfl ?_); clear hS a; intro a hS
  refine L_nil ?_
  refine n_then ?_
  refine c_seq ?_
  refine c_region ?_
  refine L_op (s_e hS (e_move rfl) rfl ?_); clear hS a; intro a hS
  refine L_op (s_e hS (e_bin rfl rfl rfl) rfl ?_); clear hS a; intro a hS
  refine L_nil ?_
  refine n_then ?_
  replace hS := hS.is (t := 34) (c := false) rfl ((decide_eq_false (fun hh => hh e1)))
  refine c_if_f hS rfl ?_
  refine wp_skip ?_
  refine n_then ?_
  refine c_seq ?_
  refine c_seq ?_
  refine c_region ?_
  refine L_op (s_e hS (e_move rfl) rfl ?_); clear hS a; intro a hS
  refine L_op (s_e hS (e_len rfl rfl ty_sl22) rfl ?_); clear hS a; intro a hS
  refine L_op (s_e hS (e_move rfl) rfl ?_); clear hS a; intro a hS
  refine L_nil ?_
  refine n_then ?_
  refine wp_block ?_
  skip
  refine c_loop (γ := Nat) (fun k a w => St 95 (bookF bk sv its) w0 a w [(38, .int .i64 (k : Int)), (37, .int .i64 (l.length : Int)), (36, sliceV p l.length c), (0, .pointer (some ⟨bk, 0, none⟩)), (1, .string account), (2, .string cur), (3, .int .i64 at_), (4, .int .i64 f), (5, .int .i64 t), (6, sliceV p l.length c)] [rowP p 4 (l.map encL), .blk bk [sv] 92, rowA13 sv its, linesAll its] ∧ k ≤ l.length) (fun k => l.length - k) 0 ⟨hS.slots ⟨rfl, rfl, rfl, rfl, rfl, rfl, rfl, rfl, rfl, rfl, trivial⟩, Nat.zero_le _⟩ ?_
  clear hS a; (try clear w); intro k a w hI
  obtain ⟨hS, hk⟩ := hI
  refine c_seq ?_
  refine c_region ?_
  refine L_op (s_e hS (e_bin rfl rfl rfl) rfl ?_); clear hS a; intro a hS
  refine L_nil ?_
  refine n_then ?_
  refine c_seq ?_
  first | refine c_ifD hS rfl (fun hc39 => ?_) (fun hc39 => ?_) | refine c_if hS rfl (fun hc39 => ?_) (fun hc39 => ?_)
  ·
    obtain ⟨x, hx⟩ : ∃ x, l[k]? = some x := ⟨l[k], by simp⟩
    have hx' : (l.map encL)[k]? = some (encL x) := by simp [hx]
    obtain ⟨br, off, rfl⟩ := rowP_some hrow hx'
    have hxf := fits_get hfit hx
    have hx0 := firstErr_zero e2 k x hx
    refine wp_skip ?_
    refine n_then ?_
    refine c_seq ?_
    refine wp_block ?_
    refine c_seq ?_
    refine c_region ?_
    refine L_op (s_e hS (e_ixN rfl rfl ty_sl22 ty_sz26 (by omega)) rfl ?_); clear hS a; intro a hS
    refine L_op (s_e hS (e_loadAC (l := encL x) rfl ty_st26 ty_sz26 (rowP_get (by repeat (first | exact .head _ | refine .tail _ ?_)) hx')) rfl ?_); clear hS a; intro a hS
    refine L_op (s_alloc hS ty_z26 rfl ?_); clear hS a; (try clear w); intro a w b18 hS
    refine L_op (s_storeA hS rfl rfl ty_sz26 (by repeat constructor) (by rfl) (by rfl) (by rfl) ?_); clear hS; (try clear w); intro w hS
    refine L_nil ?_
    refine n_then ?_
    refine c_seq ?_
    refine c_region ?_
    refine L_op (s_e hS (e_loadA rfl (by repeat constructor) ty_st26 ty_sz26 (by rfl)) rfl ?_); clear hS a; intro a hS
    refine L_op (s_callP hS (.cons rfl .nil) cf56 rfl (line_w x hxf _) ?_); clear hS a; (try clear w); intro a w hS
    refine L_op (s_e hS (e_assign rfl) rfl ?_); clear hS a; intro a hS
    refine L_nil ?_
    refine n_then ?_
    refine c_seq ?_
    refine c_region ?_
    refine L_op (s_e hS (e_move rfl) rfl ?_); clear hS a; intro a hS
    refine L_op (s_e hS (e_bin rfl rfl rfl) rfl ?_); clear hS a; intro a hS
    refine L_nil ?_
    refine n_then ?_
    replace hS := hS.is (t := 45) (c := false) rfl ((decide_eq_false (fun hh => hh hx0)))
    refine c_if_f hS rfl ?_
    refine wp_skip ?_
    refine n_block ?_
    refine n_then ?_
    refine c_region ?_
    first | (refine L_op (s_e hS (e_binN rfl rfl rfl (by omega)) rfl ?_); clear hS a; intro a hS) | (refine L_op (s_e hS (e_bin rfl rfl rfl) rfl ?_); clear hS a; intro a hS)
    refine L_op (s_e hS (e_move rfl) rfl ?_); clear hS a; intro a hS
    refine L_nil ?_
    exact ⟨k + 1, by omega, (hS.drop (.cons _ (.refl _))).slots (by exact ⟨rfl, rfl, rfl, rfl, rfl, rfl, rfl, rfl, rfl, rfl, trivial⟩), by omega⟩
  ·
    obtain rfl : k = l.length := by omega
    refine wp_exit ?_
    refine x_then (x_then (x_hit ?_))
    refine n_then ?_
    refine c_seq ?_
    refine c_region ?_
    refine L_op (s_e hS (e_move rfl) rfl ?_); clear hS a; intro a hS
    refine L_op (s_callP hS (.cons rfl .nil) cf57 rfl (rSum_P p c l hlen hfit _ (hS.get (X := rowP p 4 (l.map encL)) (by repeat (first | exact .head _ | refine .tail _ ?_))) (fun q hq => (hS.ok (rowP p 4 (l.map encL)) (by repeat (first | exact .head _ | refine .tail _ ?_))).lt q.1 ⟨q.2, hq⟩)) ?_); clear hS a; (try clear w); intro a w hS
    simp only [e5] at hS
    refine L_op (s_e hS (e_move rfl) rfl ?_); clear hS a; intro a hS
    refine L_op (s_e hS (e_extract rfl rfl) rfl ?_); clear hS a; intro a hS
    refine L_op (s_e hS (e_extract rfl rfl) rfl ?_); clear hS a; intro a hS
    refine L_op (s_e hS (e_extract rfl rfl) rfl ?_); clear hS a; intro a hS
    refine L_op (s_e hS (e_assign rfl) rfl ?_); clear hS a; intro a hS
    refine L_op (s_e hS (e_assign rfl) rfl ?_); clear hS a; intro a hS
    refine L_op (s_e hS (e_assign rfl) rfl ?_); clear hS a; intro a hS
    refine L_nil ?_
    refine n_then ?_
    refine c_seq ?_
    refine wp_block ?_
    refine c_seq ?_
    refine c_region ?_
    refine L_op (s_e hS (e_move rfl) rfl ?_); clear hS a; intro a hS
    refine L_op (s_e hS (e_bin rfl rfl rfl) rfl ?_); clear hS a; intro a hS
    refine L_op (s_e hS (e_assign rfl) rfl ?_); clear hS a; intro a hS
    refine L_nil ?_
    refine n_then ?_
    replace hS := hS.is (t := 54) (c := false) rfl ((by simp))
    refine c_if_f hS rfl ?_
    refine c_seq ?_
    refine c_region ?_
    refine L_op (s_e hS (e_move rfl) rfl ?_); clear hS a; intro a hS
    refine L_op (s_e hS (e_move rfl) rfl ?_); clear hS a; intro a hS
    refine L_op (s_e hS (e_move rfl) rfl ?_); clear hS a; intro a hS
    refine L_op (s_e hS (e_move rfl) rfl ?_); clear hS a; intro a hS
    refine L_op (s_callP hS (.cons rfl (.cons rfl (.cons rfl (.cons rfl .nil)))) cf26 rfl (Billed_P bk sv its account f t hn hls _ ⟨hS.get (X := .blk bk [sv] 92) (by repeat (first | exact .head _ | refine .tail _ ?_)), hS.get (X := rowA13 sv its) (by repeat (first | exact .head _ | refine .tail _ ?_)), hS.get (X := linesAll its) (by repeat (first | exact .head _ | refine .tail _ ?_))⟩) ?_); clear hS a; (try clear w); intro a w hS
    refine L_op (s_e hS (e_assign rfl) rfl ?_); clear hS a; intro a hS
    refine L_nil ?_
    refine n_then ?_
    replace hS := hS.is (t := 58) (c := false) rfl ((by simp [e4]))
    refine c_if_f hS rfl ?_
    refine wp_skip ?_
    refine n_block ?_
    refine n_then ?_
    refine c_seq ?_
    refine c_region ?_
    unfold inU at u1 u2 u3
    refine L_op (s_e hS (e_move rfl) rfl ?_); clear hS a; intro a hS
    refine L_op (s_callP hS (.cons rfl .nil) cf54 rfl (Next_P bk sv its hn _ ⟨hS.get (X := .blk bk [sv] 92) (by repeat (first | exact .head _ | refine .tail _ ?_)), hS.get (X := rowA13 sv its) (by repeat (first | exact .head _ | refine .tail _ ?_)), hS.get (X := linesAll its) (by repeat (first | exact .head _ | refine .tail _ ?_))⟩) ?_); clear hS a; (try clear w); intro a w hS
    refine L_op (s_e hS (e_move rfl) rfl ?_); clear hS a; intro a hS
    refine L_op (s_e hS (e_move rfl) rfl ?_); clear hS a; intro a hS
    refine L_op (s_e hS (e_move rfl) rfl ?_); clear hS a; intro a hS
    refine L_op (s_e hS (e_move rfl) rfl ?_); clear hS a; intro a hS
    refine L_op (s_e hS (e_move rfl) rfl ?_); clear hS a; intro a hS
    refine L_op (s_e hS (e_move rfl) rfl ?_); clear hS a; intro a hS
    refine L_op (s_e hS (e_move rfl) rfl ?_); clear hS a; intro a hS
    refine L_op (s_e hS (e_move rfl) rfl ?_); clear hS a; intro a hS
    refine L_op (s_e hS (e_move rfl) rfl ?_); clear hS a; intro a hS
    refine L_op (s_e hS (e_move rfl) rfl ?_); clear hS a; intro a hS
    first | (refine L_op (s_e hS (e_binN rfl rfl rfl (by omega)) rfl ?_); clear hS a; intro a hS) | (refine L_op (s_e hS (e_bin rfl rfl rfl) rfl ?_); clear hS a; intro a hS)
    refine L_op (s_e hS (e_build ty_z34 ty_pl34 (.one rfl rfl rfl (by repeat constructor) (.one rfl rfl rfl (by repeat constructor) (.one rfl rfl rfl (by repeat constructor) (.one rfl rfl rfl (by repeat constructor) (.one rfl rfl rfl (by repeat constructor) (.one rfl rfl rfl (by repeat constructor) (.one rfl rfl rfl (by repeat constructor) (.one rfl rfl rfl (by repeat constructor) (.one rfl rfl rfl (by repeat constructor) (.one rfl rfl rfl (by repeat constructor) (.one rfl rfl rfl (by repeat constructor) .nil)))))))))))) rfl ?_); clear hS a; intro a hS
    refine L_op (s_alloc hS ty_z34 rfl ?_); clear hS a; (try clear w); intro a w b23 hS
    refine L_op (s_storeA hS rfl rfl ty_sz34 (by repeat constructor) (by rfl) (by rfl) (by rfl) ?_); clear hS; (try clear w); intro w hS
    refine L_nil ?_
    refine n_then ?_
    refine c_seq ?_
    refine c_seq ?_
    refine c_region ?_
    first | (refine L_op (s_e hS (e_fa0 rfl ty_fo34_9) rfl ?_); clear hS a; intro a hS) | (refine L_op (s_e hS (e_faK rfl ty_fo34_9) rfl ?_); clear hS a; intro a hS)
    refine L_op (s_e hS (e_load rfl (by repeat constructor) ty_sc3 (by rfl)) rfl ?_); clear hS a; intro a hS
    refine L_op (s_e hS (e_bin rfl rfl rfl) rfl ?_); clear hS a; intro a hS
    refine L_nil ?_
    refine n_then ?_
    first | refine c_ifD hS rfl (fun hc80 => ?_) (fun hc80 => ?_) | refine c_if hS rfl (fun hc80 => ?_) (fun hc80 => ?_)
    ·
      refine c_region ?_
      first | (refine L_op (s_e hS (e_fa0 rfl ty_fo34_12) rfl ?_); clear hS a; intro a hS) | (refine L_op (s_e hS (e_faK rfl ty_fo34_12) rfl ?_); clear hS a; intro a hS)
      refine L_op (s_store hS rfl rfl rfl ty_sz3 (by repeat constructor) (by repeat constructor) ?_); clear hS; (try clear w); intro w hS
      refine L_nil ?_
      refine n_then ?_
      refine c_seq ?_
      refine c_drawS [11] (by kernel_rfl) hS (sub_cons (X := .blk b23 _ _) (by repeat constructor) (sub_cons (X := .blk bk _ _) (by repeat constructor) sub_nil)) ?_; clear hS; (try clear w); intro w hS
      simp only [List.length_cons, List.length_nil, Nat.zero_add, Nat.reduceAdd, List.replicate]
      refine Z_take0 (i := 0) hS rfl want_none (e_move rfl) (listed' := [true, false, false, false, false, false, false, false, false, false, false, false]) rfl (by kernel_rfl) (by kernel_rfl) (by kernel_rfl) (fun _ _ _ h => h) rfl ?_; clear hS a; intro a hS
      refine Z_take0 (i := 1) hS rfl want_none (e_move rfl) (listed' := [true, true, false, false, false, false, false, false, false, false, false, false]) rfl (by kernel_rfl) (by kernel_rfl) (by kernel_rfl) (fun _ _ _ h => h) rfl ?_; clear hS a; intro a hS
      refine Z_take0 (i := 2) hS rfl want_none (e_nilCheck rfl) (listed' := [true, true, true, false, false, false, false, false, false, false, false, false]) rfl (by kernel_rfl) (by kernel_rfl) (by kernel_rfl) (fun _ _ _ h => h) rfl ?_; clear hS a; intro a hS
      first | (refine Z_take0 (i := 3) hS rfl want_none (e_fa0 rfl ty_fo92_0) (listed' := [true, true, true, true, false, false, false, false, false, false, false, false]) rfl (by kernel_rfl) (by kernel_rfl) (by kernel_rfl) (fun _ _ _ h => h) rfl ?_; clear hS a; intro a hS) | (refine Z_take0 (i := 3) hS rfl want_none (e_faK rfl ty_fo92_0) (listed' := [true, true, true, true, false, false, false, false, false, false, false, false]) rfl (by kernel_rfl) (by kernel_rfl) (by kernel_rfl) (fun _ _ _ h => h) rfl ?_; clear hS a; intro a hS)
      refine Z_take (i := 4) hS rfl want_none (e_load rfl (by repeat constructor) ty_sc41 (by rfl)) (listed' := [true, true, true, true, true, false, false, false, false, false, false, false]) rfl (by kernel_rfl) (by kernel_rfl) (by kernel_rfl) (by kernel_rfl) (by kernel_rfl) (sub_cons (by repeat constructor) (sub_cons (by repeat constructor) sub_nil)) (fun _ _ _ h => h) rfl ?_; clear hS a; intro a hS
      refine Z_take (i := 5) hS rfl want_none (e_loadA rfl (by repeat constructor) ty_st34 ty_sz34 (by rfl)) (listed' := [true, true, true, true, true, true, false, false, false, false, false, false]) rfl (by kernel_rfl) (by kernel_rfl) (by kernel_rfl) (by kernel_rfl) (by kernel_rfl) (sub_cons (by repeat constructor) (sub_cons (by repeat constructor) sub_nil)) (fun _ _ _ h => h) rfl ?_; clear hS a; intro a hS
      refine Z_one (i := 6) rfl (want_none a hS.sl) (listed' := [true, true, true, true, true, true, true, false, false, false, false, false]) rfl (by kernel_rfl) (s_callN hS (.cons rfl .nil) cf58 rfl (own_P ⟨(its.length : Int) + 1, at_, f, t, account, cur, l, sumN l, sumT l, sumN l + sumT l, 0, 0, _⟩ p c hc hlen _ (hS.get (X := rowP p 4 (l.map encL)) (by repeat (first | exact .head _ | refine .tail _ ?_))) (fun q hq => (hS.ok (rowP p 4 (l.map encL)) (by repeat (first | exact .head _ | refine .tail _ ?_))).lt q.1 ⟨q.2, hq⟩)) ?_); clear hS a; (try clear w); intro x88 a w hS
      refine Z_and hS (sub_cons (by repeat constructor) (sub_cons (by repeat constructor) sub_nil)) ?_
      refine Z_one (i := 7) rfl (want_none a hS.sl) (listed' := [true, true, true, true, true, true, true, true, false, false, false, false]) rfl (by kernel_rfl) (s_bslice hS ty_sl41 ty_sz34 ty_z34 rfl rfl rfl rfl (.agg rfl rfl .nil) rfl ?_); clear hS a; (try clear w); intro a w b89 hS
      refine Z_and hS (sub_cons (by repeat constructor) (sub_cons (by repeat constructor) sub_nil)) ?_
      refine Z_one (i := 8) rfl (want_none a hS.sl) (listed' := [true, true, true, true, true, true, true, true, true, false, false, false]) rfl (by kernel_rfl) (s_append1 hS rfl rfl ty_sl41 ty_sz34 ty_by34 ty_z34 rfl rfl rfl (by repeat constructor) (by repeat constructor) (by rfl) (by rfl) (fun _ => (by repeat constructor)) (by omega) ?_); clear hS a; (try clear w); intro v90 a w hv90 hS
      obtain ⟨p90, c90, rfl⟩ := own_slice (hS.get (X := ownA 34 13 v90 _ _) (by repeat (first | exact .head _ | refine .tail _ ?_)))
      clear hv90
      refine Z_and hS (sub_cons (by repeat constructor) (sub_cons (by repeat constructor) sub_nil)) ?_
      refine Z_take0 (i := 9) hS rfl want_none (e_nilCheck rfl) (listed' := [true, true, true, true, true, true, true, true, true, true, false, false]) rfl (by kernel_rfl) (by kernel_rfl) (by kernel_rfl) (fun _ _ _ h => h) rfl ?_; clear hS a; intro a hS
      first | (refine Z_take0 (i := 10) hS rfl want_none (e_fa0 rfl ty_fo92_0) (listed' := [true, true, true, true, true, true, true, true, true, true, true, false]) rfl (by kernel_rfl) (by kernel_rfl) (by kernel_rfl) (fun _ _ _ h => h) rfl ?_; clear hS a; intro a hS) | (refine Z_take0 (i := 10) hS rfl want_none (e_faK rfl ty_fo92_0) (listed' := [true, true, true, true, true, true, true, true, true, true, true, false]) rfl (by kernel_rfl) (by kernel_rfl) (by kernel_rfl) (fun _ _ _ h => h) rfl ?_; clear hS a; intro a hS)
      refine Z_one (i := 11) rfl (want_none a hS.sl) (listed' := [true, true, true, true, true, true, true, true, true, true, true, true]) rfl (by kernel_rfl) (s_store hS rfl rfl rfl ty_sz41 (by repeat constructor) (by repeat constructor) ?_); clear hS; (try clear w); intro w hS
      refine Z_last (by simp) ?_
      refine Z_done (by kernel_rfl) ?_
      refine n_then ?_
      refine c_seq ?_
      refine c_region ?_
      first | (refine L_op (s_e hS (e_fa0 rfl ty_fo34_0) rfl ?_); clear hS a; intro a hS) | (refine L_op (s_e hS (e_faK rfl ty_fo34_0) rfl ?_); clear hS a; intro a hS)
      refine L_op (s_e hS (e_load rfl (by repeat constructor) ty_sc3 (by rfl)) rfl ?_); clear hS a; intro a hS
      refine L_op (s_e hS (e_assign rfl) rfl ?_); clear hS a; intro a hS
      refine L_op (s_e hS (e_assign rfl) rfl ?_); clear hS a; intro a hS
      refine L_nil ?_
      refine n_then ?_
      refine wp_ret ?_
      refine c_retN hS Try.results15 (.cons (.tmp rfl) (.cons (.tmp rfl) .nil)) rfl ?_
      refine ⟨⟨(.slice p90 (its.length + 1) c90, ⟨newInv its.length account cur at_ f t l, x88.1, x88.2⟩), rfl⟩, rfl, hS.chg, ?_, ?_⟩
      · (first
          | rw [show newInv its.length account cur at_ f t l = ⟨(its.length : Int) + 1, at_, f, t, account, cur, l, sumN l, sumT l, sumN l + sumT l, 0, 0, 2⟩ by unfold newInv; rw [if_pos hc80]]
          | rw [show newInv its.length account cur at_ f t l = ⟨(its.length : Int) + 1, at_, f, t, account, cur, l, sumN l, sumT l, sumN l + sumT l, 0, 0, 1⟩ by unfold newInv; rw [if_neg hc80]])
        exact book_ok true (book_snoc (x := ⟨_, x88.1, x88.2⟩) (hS.get (X := .blk bk [.slice p90 (its.length + 1) c90] _) (by repeat (first | exact .head _ | refine .tail _ ?_))) (hS.ok (ownA 34 13 _ (its.length + 1) _) (by repeat (first | exact .head _ | refine .tail _ ?_))) (hS.ok (linesAll its) (by repeat (first | exact .head _ | refine .tail _ ?_))) (hS.ok (lnA _ x88.1 x88.2) (by repeat (first | exact .head _ | refine .tail _ ?_))))
      · intro b hb
        rcases hb with rfl | hb | ⟨x, hx, rfl⟩
        · exact .inl (.inl rfl)
        · exact (hS.mine (ownA 34 13 (.slice p90 (its.length + 1) c90) (its.length + 1) _) (by repeat (first | exact .head _ | refine .tail _ ?_)) rfl b hb).symm
        · rcases List.mem_append.1 hx with hx | hx
          · exact (hS.mine (linesAll its) (by repeat (first | exact .head _ | refine .tail _ ?_)) rfl _ ⟨x, hx, rfl⟩).symm
          · obtain rfl := List.mem_singleton.1 hx
            exact (hS.mine (lnA _ x88.1 x88.2) (by repeat (first | exact .head _ | refine .tail _ ?_)) rfl x88.1 rfl).symm
    ·
      refine wp_skip ?_
      refine n_then ?_
      refine c_seq ?_
      refine c_drawS [11] (by kernel_rfl) hS (sub_cons (X := .blk b23 _ _) (by repeat constructor) (sub_cons (X := .blk bk _ _) (by repeat constructor) sub_nil)) ?_; clear hS; (try clear w); intro w hS
      simp only [List.length_cons, List.length_nil, Nat.zero_add, Nat.reduceAdd, List.replicate]
      refine Z_take0 (i := 0) hS rfl want_none (e_move rfl) (listed' := [true, false, false, false, false, false, false, false, false, false, false, false]) rfl (by kernel_rfl) (by kernel_rfl) (by kernel_rfl) (fun _ _ _ h => h) rfl ?_; clear hS a; intro a hS
      refine Z_take0 (i := 1) hS rfl want_none (e_move rfl) (listed' := [true, true, false, false, false, false, false, false, false, false, false, false]) rfl (by kernel_rfl) (by kernel_rfl) (by kernel_rfl) (fun _ _ _ h => h) rfl ?_; clear hS a; intro a hS
      refine Z_take0 (i := 2) hS rfl want_none (e_nilCheck rfl) (listed' := [true, true, true, false, false, false, false, false, false, false, false, false]) rfl (by kernel_rfl) (by kernel_rfl) (by kernel_rfl) (fun _ _ _ h => h) rfl ?_; clear hS a; intro a hS
      first | (refine Z_take0 (i := 3) hS rfl want_none (e_fa0 rfl ty_fo92_0) (listed' := [true, true, true, true, false, false, false, false, false, false, false, false]) rfl (by kernel_rfl) (by kernel_rfl) (by kernel_rfl) (fun _ _ _ h => h) rfl ?_; clear hS a; intro a hS) | (refine Z_take0 (i := 3) hS rfl want_none (e_faK rfl ty_fo92_0) (listed' := [true, true, true, true, false, false, false, false, false, false, false, false]) rfl (by kernel_rfl) (by kernel_rfl) (by kernel_rfl) (fun _ _ _ h => h) rfl ?_; clear hS a; intro a hS)
      refine Z_take (i := 4) hS rfl want_none (e_load rfl (by repeat constructor) ty_sc41 (by rfl)) (listed' := [true, true, true, true, true, false, false, false, false, false, false, false]) rfl (by kernel_rfl) (by kernel_rfl) (by kernel_rfl) (by kernel_rfl) (by kernel_rfl) (sub_cons (by repeat constructor) (sub_cons (by repeat constructor) sub_nil)) (fun _ _ _ h => h) rfl ?_; clear hS a; intro a hS
      refine Z_take (i := 5) hS rfl want_none (e_loadA rfl (by repeat constructor) ty_st34 ty_sz34 (by rfl)) (listed' := [true, true, true, true, true, true, false, false, false, false, false, false]) rfl (by kernel_rfl) (by kernel_rfl) (by kernel_rfl) (by kernel_rfl) (by kernel_rfl) (sub_cons (by repeat constructor) (sub_cons (by repeat constructor) sub_nil)) (fun _ _ _ h => h) rfl ?_; clear hS a; intro a hS
      refine Z_one (i := 6) rfl (want_none a hS.sl) (listed' := [true, true, true, true, true, true, true, false, false, false, false, false]) rfl (by kernel_rfl) (s_callN hS (.cons rfl .nil) cf58 rfl (own_P ⟨(its.length : Int) + 1, at_, f, t, account, cur, l, sumN l, sumT l, sumN l + sumT l, 0, 0, _⟩ p c hc hlen _ (hS.get (X := rowP p 4 (l.map encL)) (by repeat (first | exact .head _ | refine .tail _ ?_))) (fun q hq => (hS.ok (rowP p 4 (l.map encL)) (by repeat (first | exact .head _ | refine .tail _ ?_))).lt q.1 ⟨q.2, hq⟩)) ?_); clear hS a; (try clear w); intro x88 a w hS
      refine Z_and hS (sub_cons (by repeat constructor) (sub_cons (by repeat constructor) sub_nil)) ?_
      refine Z_one (i := 7) rfl (want_none a hS.sl) (listed' := [true, true, true, true, true, true, true, true, false, false, false, false]) rfl (by kernel_rfl) (s_bslice hS ty_sl41 ty_sz34 ty_z34 rfl rfl rfl rfl (.agg rfl rfl .nil) rfl ?_); clear hS a; (try clear w); intro a w b89 hS
      refine Z_and hS (sub_cons (by repeat constructor) (sub_cons (by repeat constructor) sub_nil)) ?_
      refine Z_one (i := 8) rfl (want_none a hS.sl) (listed' := [true, true, true, true, true, true, true, true, true, false, false, false]) rfl (by kernel_rfl) (s_append1 hS rfl rfl ty_sl41 ty_sz34 ty_by34 ty_z34 rfl rfl rfl (by repeat constructor) (by repeat constructor) (by rfl) (by rfl) (fun _ => (by repeat constructor)) (by omega) ?_); clear hS a; (try clear w); intro v90 a w hv90 hS
      obtain ⟨p90, c90, rfl⟩ := own_slice (hS.get (X := ownA 34 13 v90 _ _) (by repeat (first | exact .head _ | refine .tail _ ?_)))
      clear hv90
      refine Z_and hS (sub_cons (by repeat constructor) (sub_cons (by repeat constructor) sub_nil)) ?_
      refine Z_take0 (i := 9) hS rfl want_none (e_nilCheck rfl) (listed' := [true, true, true, true, true, true, true, true, true, true, false, false]) rfl (by kernel_rfl) (by kernel_rfl) (by kernel_rfl) (fun _ _ _ h => h) rfl ?_; clear hS a; intro a hS
      first | (refine Z_take0 (i := 10) hS rfl want_none (e_fa0 rfl ty_fo92_0) (listed' := [true, true, true, true, true, true, true, true, true, true, true, false]) rfl (by kernel_rfl) (by kernel_rfl) (by kernel_rfl) (fun _ _ _ h => h) rfl ?_; clear hS a; intro a hS) | (refine Z_take0 (i := 10) hS rfl want_none (e_faK rfl ty_fo92_0) (listed' := [true, true, true, true, true, true, true, true, true, true, true, false]) rfl (by kernel_rfl) (by kernel_rfl) (by kernel_rfl) (fun _ _ _ h => h) rfl ?_; clear hS a; intro a hS)
      refine Z_one (i := 11) rfl (want_none a hS.sl) (listed' := [true, true, true, true, true, true, true, true, true, true, true, true]) rfl (by kernel_rfl) (s_store hS rfl rfl rfl ty_sz41 (by repeat constructor) (by repeat constructor) ?_); clear hS; (try clear w); intro w hS
      refine Z_last (by simp) ?_
      refine Z_done (by kernel_rfl) ?_
      refine n_then ?_
      refine c_seq ?_
      refine c_region ?_
      first | (refine L_op (s_e hS (e_fa0 rfl ty_fo34_0) rfl ?_); clear hS a; intro a hS) | (refine L_op (s_e hS (e_faK rfl ty_fo34_0) rfl ?_); clear hS a; intro a hS)
      refine L_op (s_e hS (e_load rfl (by repeat constructor) ty_sc3 (by rfl)) rfl ?_); clear hS a; intro a hS
      refine L_op (s_e hS (e_assign rfl) rfl ?_); clear hS a; intro a hS
      refine L_op (s_e hS (e_assign rfl) rfl ?_); clear hS a; intro a hS
      refine L_nil ?_
      refine n_then ?_
      refine wp_ret ?_
      refine c_retN hS Try.results15 (.cons (.tmp rfl) (.cons (.tmp rfl) .nil)) rfl ?_
      refine ⟨⟨(.slice p90 (its.length + 1) c90, ⟨newInv its.length account cur at_ f t l, x88.1, x88.2⟩), rfl⟩, rfl, hS.chg, ?_, ?_⟩
      · (first
          | rw [show newInv its.length account cur at_ f t l = ⟨(its.length : Int) + 1, at_, f, t, account, cur, l, sumN l, sumT l, sumN l + sumT l, 0, 0, 2⟩ by unfold newInv; rw [if_pos hc80]]
          | rw [show newInv its.length account cur at_ f t l = ⟨(its.length : Int) + 1, at_, f, t, account, cur, l, sumN l, sumT l, sumN l + sumT l, 0, 0, 1⟩ by unfold newInv; rw [if_neg hc80]])
        exact book_ok true (book_snoc (x := ⟨_, x88.1, x88.2⟩) (hS.get (X := .blk bk [.slice p90 (its.length + 1) c90] _) (by repeat (first | exact .head _ | refine .tail _ ?_))) (hS.ok (ownA 34 13 _ (its.length + 1) _) (by repeat (first | exact .head _ | refine .tail _ ?_))) (hS.ok (linesAll its) (by repeat (first | exact .head _ | refine .tail _ ?_))) (hS.ok (lnA _ x88.1 x88.2) (by repeat (first | exact .head _ | refine .tail _ ?_))))
      · intro b hb
        rcases hb with rfl | hb | ⟨x, hx, rfl⟩
        · exact .inl (.inl rfl)
        · exact (hS.mine (ownA 34 13 (.slice p90 (its.length + 1) c90) (its.length + 1) _) (by repeat (first | exact .head _ | refine .tail _ ?_)) rfl b hb).symm
        · rcases List.mem_append.1 hx with hx | hx
          · exact (hS.mine (linesAll its) (by repeat (first | exact .head _ | refine .tail _ ?_)) rfl _ ⟨x, hx, rfl⟩).symm
          · obtain rfl := List.mem_singleton.1 hx
            exact (hS.mine (lnA _ x88.1 x88.2) (by repeat (first | exact .head _ | refine .tail _ ?_)) rfl x88.1 rfl).symm
end Go.Proofs.Ytfiaobhkhedpiaa
