/- LedgerTimes: for every argument the law returns true, and each argument reads afterwards as it read before. No conditions. (text 7 of 7) -/
import Derived.Test.YtheofhegdjjfgaaLTimC6
import Derived.Deep.Slices
import Derived.Deep.Fields
import Derived.ChangeSame
import Derived.SizedLaws
import Derived.OpenShut
import Derived.Lib.SmallJoins
import Derived.Laws.LoneSync
import Derived.ProofKit
import Derived.ShutString
import Derived.ChangeOld
import Derived.Below
namespace Go.Proofs.Ytheofhegdjjfgaa
open Go.RowKit

abbrev RR := ByteArray × Int × Int
def encR (x : RR) : List Value := [.string x.1, .int .i64 x.2.1, .int .i64 x.2.2]
structure refφ (bw : Nat) (own : ByteArray) (rows : List RR) (v : Value) (w : World) : Prop where
  bk : w.heap[bw]? = some (.cells [.string own, v].toArray 86 (0, 0))
  rows : w.ownsRow 0 94 3 v rows.length (rows.flatMap encR)
def refF (bw : Nat) (v : Value) (k : Nat) : Prop := k = bw ∨ v.ownBlock = some k
def refA (bw : Nat) (own : ByteArray) (rows : List RR) (v : Value) (m : Bool) : Asn := .any (refF bw v) (refφ bw own rows v) m
theorem ref_ok {bw : Nat} {own : ByteArray} {rows : List RR} {v : Value} {w : World} (m : Bool) (h : refφ bw own rows v w) : (refA bw own rows v m).ok w := by
  refine ⟨fun b hb => ?_, fun w' hw => ⟨?_, owns_keep h.rows (fun b hb => hw b (.inr hb))⟩⟩
  · rcases hb with rfl | hb
    · exact (Array.getElem?_eq_some_iff.1 h.bk).1
    · exact (World.ownsRow.lt h.rows b hb).2
  · rw [hw bw (.inl rfl)]; exact h.bk
/-- where a rate of a currency goes. -/
def kOK (c : ByteArray) (rows : List RR) (i k : Nat) : Prop := k ≤ i ∧ (k = 0 ∨ ∃ y, rows[k - 1]? = some y ∧ leS y.1 c = true) ∧ ∀ j, k ≤ j → j < i → ∀ y, rows[j]? = some y → leS y.1 c = false
def late (rows : List RR) (c : ByteArray) (at_ : Int) : Prop := ∃ x ∈ rows, x.1 = c ∧ at_ ≤ x.2.1
instance (rows : List RR) (c : ByteArray) (at_ : Int) : Decidable (late rows c at_) := by unfold late; infer_instance
def refE (own : ByteArray) (rows : List RR) (c : ByteArray) (at_ nano : Int) : Int :=
  if refS c < 0 ∨ c = own then 18 else if ¬ inst at_ ∨ nano < 1 ∨ 1125899906842624 < nano then 6 else if late rows c at_ then 34 else if 500 ≤ rows.length then 9 else 0
def refStep (own : ByteArray) (rows : List RR) (c : ByteArray) (at_ nano : Int) (rows' : List RR) : Prop :=
  (refE own rows c at_ nano ≠ 0 ∧ rows' = rows) ∨ (refE own rows c at_ nano = 0 ∧ ∃ k, kOK c rows rows.length k ∧ rows' = rows.take k ++ (c, at_, nano) :: rows.drop k)

theorem kOK_yes {c : ByteArray} {rows : List RR} {i : Nat} {x : RR} (hx : rows[i]? = some x) (hl : leS x.1 c = true) : kOK c rows (i + 1) (i + 1) :=
  ⟨Nat.le_refl _, .inr ⟨x, by rw [Nat.add_sub_cancel]; exact hx, hl⟩, fun j h1 h2 => by omega⟩
theorem kOK_no {c : ByteArray} {rows : List RR} {i k : Nat} {x : RR} (h : kOK c rows i k) (hx : rows[i]? = some x) (hl : leS x.1 c = false) : kOK c rows (i + 1) k :=
  ⟨by have := h.1; omega, h.2.1, fun j h1 h2 y hy => by
    by_cases e : j = i
    · subst e; rw [hx] at hy; cases hy; exact hl
    · exact h.2.2 j h1 (by omega) y hy⟩

set_option maxRecDepth 100000 in
theorem rSet_P (bw : Nat) (own c : ByteArray) (rows : List RR) (v : Value) (at_ nano : Int) (hlen : rows.length ≤ 500) (w0 : World) (h : refφ bw own rows v w0) :
    MutC Try.prog 39 [.pointer (some ⟨bw, 0, none⟩), .string c, .int .i64 at_, .int .i64 nano] w0 (refA bw own rows v true) (fun _ : { y : List RR × Value // refStep own rows c at_ nano y.1 } => .int .i64 (refE own rows c at_ nano)) (fun y => refA bw own y.1.1 y.1.2 true) := by
  obtain ⟨q, cq, rfl⟩ := own_slice h.rows
  have hdis : (Value.slice q rows.length cq).ownBlock ≠ some bw := fun hb => by
    obtain ⟨cs, h1⟩ := row_obj h.rows hb
    rw [h.bk] at h1; injection h1 with h1; injection h1 with h1 h2 h3; exact absurd h2 (by decide)
  have hcq : rows.length ≤ cq := by
    rcases h.rows.2 with ⟨e1, e2⟩ | ⟨g, cap, cur, e1, _, _, e2, _⟩
    · injection e1 with _ _ e3; omega
    · injection e1 with _ _ e3; omega
  have hsh : rows.length = 0 ∨ ∃ g, q = some ⟨g, 0, none⟩ := by
    rcases h.rows.2 with ⟨e1, e2⟩ | ⟨g, cap, cur, e1, _⟩
    · exact .inl e2
    · injection e1 with e3; exact .inr ⟨g, e3⟩
  have hone : ∀ l : List RR, ∀ u ∈ l.flatMap encR, isOne u = true := fun l u hu => by
    obtain ⟨x, _, hx⟩ := List.mem_flatMap.1 hu
    simp [encR] at hx
    rcases hx with rfl | rfl | rfl <;> rfl
  have same : refE own rows c at_ nano ≠ 0 → refStep own rows c at_ nano rows := fun hne => .inl ⟨hne, rfl⟩
  have hback : ∀ {a : Act} {w : World} {L : List (Nat × Value)} {Δ : List Asn}, St 109 (refF bw (.slice q rows.length cq)) w0 a w L (.blk bw [.string own, .slice q rows.length cq] 86 :: ownA 94 3 (.slice q rows.length cq) rows.length (rows.flatMap encR) :: Δ) → (refA bw own rows (.slice q rows.length cq) true).ok w := fun {a w L Δ} hS =>
    ref_ok true ⟨hS.get (X := .blk bw [.string own, .slice q rows.length cq] 86) (by repeat constructor), hS.get (X := ownA 94 3 (.slice q rows.length cq) rows.length (rows.flatMap encR)) (by repeat constructor)⟩
  refine c_enter [(0, .pointer (some ⟨bw, 0, none⟩)), (1, .string c), (2, .int .i64 at_), (3, .int .i64 nano)] [.blk bw [.string own, .slice q rows.length cq] 86, ownA 94 3 (.slice q rows.length cq) rows.length (rows.flatMap encR)] (refF bw (.slice q rows.length cq)) Try.func39 rfl Try.ntmps39 ⟨rfl, rfl, rfl, rfl, trivial⟩ rfl (okC (ok_blk h.bk) (okC (ok_own h.rows) okN)) (disC (sepC (fun b hb hb' => hdis (by rw [← show b = bw from hb]; exact hb')) sepN) dis1) (mineO (fun b hb => .inl hb) (mineO (fun b hb => .inr hb) mineN)) ?_
  intro a hS
  refine c_seq ?_
  refine c_region ?_
  refine L_op (s_e hS (e_assign rfl) rfl ?_); clear hS a; intro a hS
  refine L_nil ?_
  refine n_then ?_
  refine c_seq ?_
  refine c_seq ?_
  refine c_region ?_
  refine L_op (s_e hS (e_move rfl) rfl ?_); clear hS a; intro a hS
  refine L_op (s_callP hS (.cons rfl .nil) cf38 rfl (xScale_P c _) ?_); clear hS a; (try clear w); intro a w hS
  refine L_op (s_e hS (e_bin rfl rfl rfl) rfl ?_); clear hS a; intro a hS
  refine L_op (s_e hS (e_move rfl) rfl ?_); clear hS a; intro a hS
  refine L_merge 7 22 (.bool (decide (refS c < 0 ∨ c = own))) hS ?_ ?_
  · intro hcM22
    (first | refine g_splitD (t := 15) hS rfl ?_ ?_ | refine g_split (t := 15) hS rfl ?_ ?_) <;> (clear hS; intro hg15 hS)
    ·
      refine L_skip_f hS rfl rfl rfl ?_; clear hS a; intro a hS
      refine L_skip_f hS rfl rfl rfl ?_; clear hS a; intro a hS
      refine L_skip_f hS rfl rfl rfl ?_; clear hS a; intro a hS
      refine L_skip_f hS rfl rfl rfl ?_; clear hS a; intro a hS
      refine L_skip_f hS rfl rfl rfl ?_; clear hS a; intro a hS
      refine L_skip_f hS rfl rfl rfl ?_; clear hS a; intro a hS
      first | (refine L_op (s_e hS (e_pick_t rfl rfl) rfl ?_); clear hS a; intro a hS) | (refine L_op (s_e hS (e_pick_f rfl rfl) rfl ?_); clear hS a; intro a hS)
      exact hcM22 _ _ (hS.ends 8 22 15 rfl (congrArg Value.bool (by first | rfl | (simp [hg15]; done) | (simp [hg15]; omega) | grind)) rfl rfl (by first | exact congrArg Value.bool (decide_eq_true hg15).symm | exact congrArg Value.bool hg15.symm | simp [hg15]) rfl)
    ·
      refine L_go hS rfl rfl (s_e hS (e_move rfl) rfl ?_); clear hS a; intro a hS
      refine L_go hS rfl rfl (s_e hS (e_move rfl) rfl ?_); clear hS a; intro a hS
      refine L_go hS rfl rfl (s_e hS (e_nilCheck rfl) rfl ?_); clear hS a; intro a hS
      first | (refine L_go hS rfl rfl (s_e hS (e_fa0 rfl ty_fo86_0) rfl ?_); clear hS a; intro a hS) | (refine L_go hS rfl rfl (s_e hS (e_faK rfl ty_fo86_0) rfl ?_); clear hS a; intro a hS)
      refine L_go hS rfl rfl (s_e hS (e_load rfl (by repeat constructor) ty_sc9 (by rfl)) rfl ?_); clear hS a; intro a hS
      refine L_go hS rfl rfl (s_e hS (e_binS rfl rfl rfl) rfl ?_); clear hS a; intro a hS
      first | (refine L_op (s_e hS (e_pick_t rfl rfl) rfl ?_); clear hS a; intro a hS) | (refine L_op (s_e hS (e_pick_f rfl rfl) rfl ?_); clear hS a; intro a hS)
      exact hcM22 _ _ (hS.ends 8 22 15 rfl (congrArg Value.bool (by first | rfl | (simp [hg15]; done) | (simp [hg15]; omega) | grind)) rfl rfl (by first | exact congrArg Value.bool (decide_eq_false hg15).symm | exact congrArg Value.bool hg15.symm | simp [hg15]) rfl)
  · clear hS a; (try clear w); intro a w hS
    simp only [List.drop_succ_cons, List.drop_zero]
    refine L_nil ?_
    refine n_then ?_
    first | refine c_ifD hS rfl (fun hc22 => ?_) (fun hc22 => ?_) | refine c_if hS rfl (fun hc22 => ?_) (fun hc22 => ?_)
    ·
      refine c_seq ?_
      refine c_region ?_
      refine L_op (s_e hS (e_assign rfl) rfl ?_); clear hS a; intro a hS
      refine L_nil ?_
      refine n_then ?_
      refine wp_ret ?_
      refine r_then ?_
      refine c_ret1 hS Try.results39 (.tmp rfl) ?_
      have hE : refE own rows c at_ nano = 18 := if_pos hc22
      exact ⟨⟨(rows, _), same (by rw [hE]; decide)⟩, by (try dsimp only); rw [hE], hS.chg, hback hS, fun b hb => .inl hb⟩
    ·
      refine wp_skip ?_
      refine n_then ?_
      refine c_seq ?_
      refine c_seq ?_
      refine c_region ?_
      refine L_op (s_e hS (e_move rfl) rfl ?_); clear hS a; intro a hS
      refine L_op (s_callP hS (.cons rfl .nil) cf81 rfl (xInstant_P at_ _) ?_); clear hS a; (try clear w); intro a w hS
      refine L_op (s_e hS (e_not rfl) rfl ?_); clear hS a; intro a hS
      refine L_op (s_e hS (e_move rfl) rfl ?_); clear hS a; intro a hS
      refine L_merge 3 29 (.bool (decide (¬ inst at_ ∨ nano < 1))) hS ?_ ?_
      · intro hcM29
        (first | refine g_splitD (t := 26) hS rfl ?_ ?_ | refine g_split (t := 26) hS rfl ?_ ?_) <;> (clear hS; intro hg26 hS)
        ·
          refine L_skip_f hS rfl rfl rfl ?_; clear hS a; intro a hS
          refine L_skip_f hS rfl rfl rfl ?_; clear hS a; intro a hS
          first | (refine L_op (s_e hS (e_pick_t rfl rfl) rfl ?_); clear hS a; intro a hS) | (refine L_op (s_e hS (e_pick_f rfl rfl) rfl ?_); clear hS a; intro a hS)
          exact hcM29 _ _ (hS.ends 4 29 26 rfl (congrArg Value.bool (by simp at hg26; simp [hg26])) rfl rfl (by first | exact congrArg Value.bool (decide_eq_true hg26).symm | exact congrArg Value.bool hg26.symm | simp [hg26]) rfl)
        ·
          refine L_go hS rfl rfl (s_e hS (e_move rfl) rfl ?_); clear hS a; intro a hS
          refine L_go hS rfl rfl (s_e hS (e_bin rfl rfl rfl) rfl ?_); clear hS a; intro a hS
          first | (refine L_op (s_e hS (e_pick_t rfl rfl) rfl ?_); clear hS a; intro a hS) | (refine L_op (s_e hS (e_pick_f rfl rfl) rfl ?_); clear hS a; intro a hS)
          exact hcM29 _ _ (hS.ends 4 29 26 rfl (congrArg Value.bool (by simp at hg26; rw [decide_eq_decide]; simp [hg26])) rfl rfl (by first | exact congrArg Value.bool (decide_eq_false hg26).symm | exact congrArg Value.bool hg26.symm | simp [hg26]) rfl)
      · clear hS a; (try clear w); intro a w hS
        simp only [List.drop_succ_cons, List.drop_zero]
        refine L_op (s_e hS (e_move rfl) rfl ?_); clear hS a; intro a hS
        refine L_merge 3 33 (.bool (decide (¬ inst at_ ∨ nano < 1 ∨ 1125899906842624 < nano))) hS ?_ ?_
        · intro hcM33
          (first | refine g_splitD (t := 30) hS rfl ?_ ?_ | refine g_split (t := 30) hS rfl ?_ ?_) <;> (clear hS; intro hg30 hS)
          ·
            refine L_skip_f hS rfl rfl rfl ?_; clear hS a; intro a hS
            refine L_skip_f hS rfl rfl rfl ?_; clear hS a; intro a hS
            first | (refine L_op (s_e hS (e_pick_t rfl rfl) rfl ?_); clear hS a; intro a hS) | (refine L_op (s_e hS (e_pick_f rfl rfl) rfl ?_); clear hS a; intro a hS)
            exact hcM33 _ _ (hS.ends 4 33 30 rfl (congrArg Value.bool (by symm; rw [decide_eq_true_eq]; rcases hg30 with h | h; exact .inl h; exact .inr (.inl h))) rfl rfl (by first | exact congrArg Value.bool (decide_eq_true hg30).symm | exact congrArg Value.bool hg30.symm | simp [hg30]) rfl)
          ·
            refine L_go hS rfl rfl (s_e hS (e_move rfl) rfl ?_); clear hS a; intro a hS
            refine L_go hS rfl rfl (s_e hS (e_bin rfl rfl rfl) rfl ?_); clear hS a; intro a hS
            first | (refine L_op (s_e hS (e_pick_t rfl rfl) rfl ?_); clear hS a; intro a hS) | (refine L_op (s_e hS (e_pick_f rfl rfl) rfl ?_); clear hS a; intro a hS)
            exact hcM33 _ _ (hS.ends 4 33 30 rfl (congrArg Value.bool (by rw [decide_eq_decide]; constructor; exact fun h => .inr (.inr h); exact fun h => by (rcases h with h | h | h; exact absurd (.inl h) hg30; exact absurd (.inr h) hg30; exact h))) rfl rfl (by first | exact congrArg Value.bool (decide_eq_false hg30).symm | exact congrArg Value.bool hg30.symm | simp [hg30]) rfl)
        · clear hS a; (try clear w); intro a w hS
          simp only [List.drop_succ_cons, List.drop_zero]
          refine L_nil ?_
          refine n_then ?_
          first | refine c_ifD hS rfl (fun hc33 => ?_) (fun hc33 => ?_) | refine c_if hS rfl (fun hc33 => ?_) (fun hc33 => ?_)
          ·
            refine c_seq ?_
            refine c_region ?_
            refine L_op (s_e hS (e_assign rfl) rfl ?_); clear hS a; intro a hS
            refine L_nil ?_
            refine n_then ?_
            refine wp_ret ?_
            refine r_then ?_
            refine c_ret1 hS Try.results39 (.tmp rfl) ?_
            have hE : refE own rows c at_ nano = 6 := by unfold refE; rw [if_neg hc22, if_pos hc33]
            exact ⟨⟨(rows, _), same (by rw [hE]; decide)⟩, by (try dsimp only); rw [hE], hS.chg, hback hS, fun b hb => .inl hb⟩
          ·
            refine wp_skip ?_
            refine n_then ?_
            refine c_seq ?_
            refine c_region ?_
            refine L_op (s_e hS (e_assign rfl) rfl ?_); clear hS a; intro a hS
            refine L_nil ?_
            refine n_then ?_
            refine c_seq ?_
            refine c_seq ?_
            refine c_region ?_
            refine L_op (s_e hS (e_assign rfl) rfl ?_); clear hS a; intro a hS
            refine L_nil ?_
            refine n_then ?_
            refine wp_block ?_
            skip
            refine c_loop (γ := Nat × Nat) (fun p a w => St 109 (refF bw (.slice q rows.length cq)) w0 a w [(9, .int .i64 (p.2 : Int)), (10, .int .i64 (p.1 : Int)), (0, .pointer (some ⟨bw, 0, none⟩)), (1, .string c), (2, .int .i64 at_), (3, .int .i64 nano)] [.blk bw [.string own, .slice q rows.length cq] 86, ownA 94 3 (.slice q rows.length cq) rows.length (rows.flatMap encR)] ∧ p.1 ≤ rows.length ∧ kOK c rows p.1 p.2 ∧ ∀ j, j < p.1 → ∀ y, rows[j]? = some y → ¬ (y.1 = c ∧ at_ ≤ y.2.1)) (fun p => rows.length - p.1) (0, 0) ⟨hS.slots (by repeat (first | exact trivial | refine ⟨rfl, ?_⟩)), Nat.zero_le _, ⟨Nat.le_refl _, .inl rfl, fun j h1 h2 => absurd h2 (Nat.not_lt_zero _)⟩, fun j hj => absurd hj (Nat.not_lt_zero _)⟩ ?_
            clear hS a; (try clear w); intro p a w hI
            obtain ⟨hS, hi, hk, hno⟩ := hI
            obtain ⟨i, k⟩ := p
            simp only at hS hi hk hno ⊢
            refine c_seq ?_
            refine c_seq ?_
            refine c_region ?_
            refine L_op (s_e hS (e_move rfl) rfl ?_); clear hS a; intro a hS
            refine L_op (s_e hS (e_move rfl) rfl ?_); clear hS a; intro a hS
            refine L_op (s_e hS (e_nilCheck rfl) rfl ?_); clear hS a; intro a hS
            first | (refine L_op (s_e hS (e_fa0 rfl ty_fo86_1) rfl ?_); clear hS a; intro a hS) | (refine L_op (s_e hS (e_faK rfl ty_fo86_1) rfl ?_); clear hS a; intro a hS)
            refine L_op (s_e hS (e_load rfl (by repeat constructor) ty_sc84 (by rfl)) rfl ?_); clear hS a; intro a hS
            refine L_op (s_e hS (e_len rfl rfl ty_sl84) rfl ?_); clear hS a; intro a hS
            refine L_op (s_e hS (e_bin rfl rfl rfl) rfl ?_); clear hS a; intro a hS
            refine L_nil ?_
            refine n_then ?_
            first | refine c_ifD hS rfl (fun hc40 => ?_) (fun hc40 => ?_) | refine c_if hS rfl (fun hc40 => ?_) (fun hc40 => ?_)
            ·
              have hin : i < rows.length := by omega
              obtain ⟨x, hx⟩ : ∃ x, rows[i]? = some x := ⟨rows[i], List.getElem?_eq_getElem hin⟩
              obtain ⟨g, rfl⟩ : ∃ g, q = some ⟨g, 0, none⟩ := hsh.resolve_left (by omega)
              refine wp_skip ?_
              refine n_then ?_
              refine c_seq ?_
              refine wp_block ?_
              refine c_seq ?_
              refine c_seq ?_
              refine c_region ?_
              refine L_op (s_e hS (e_move rfl) rfl ?_); clear hS a; intro a hS
              refine L_op (s_e hS (e_nilCheck rfl) rfl ?_); clear hS a; intro a hS
              first | (refine L_op (s_e hS (e_fa0 rfl ty_fo86_1) rfl ?_); clear hS a; intro a hS) | (refine L_op (s_e hS (e_faK rfl ty_fo86_1) rfl ?_); clear hS a; intro a hS)
              refine L_op (s_e hS (e_load rfl (by repeat constructor) ty_sc84 (by rfl)) rfl ?_); clear hS a; intro a hS
              refine L_op (s_e hS (e_move rfl) rfl ?_); clear hS a; intro a hS
              refine L_op (s_e hS (e_ixN rfl rfl ty_sl84 ty_sz94 (by omega)) rfl ?_); clear hS a; intro a hS
              first | (refine L_op (s_e hS (e_fa0 rfl ty_fo94_0) rfl ?_); clear hS a; intro a hS) | (refine L_op (s_e hS (e_faK rfl ty_fo94_0) rfl ?_); clear hS a; intro a hS)
              refine L_op (s_e hS (e_loadC rfl ty_sc9 (fun w hh => own_get (enc := encR) (fun _ => rfl) (by repeat constructor) hx w hh 0 (.string x.1) rfl)) rfl ?_); clear hS a; intro a hS
              refine L_op (s_e hS (e_move rfl) rfl ?_); clear hS a; intro a hS
              refine L_op (s_e hS (e_binS rfl rfl rfl) rfl ?_); clear hS a; intro a hS
              refine L_op (s_e hS (e_move rfl) rfl ?_); clear hS a; intro a hS
              refine L_merge 11 64 (.bool (decide (x.1 = c ∧ at_ ≤ x.2.1))) hS ?_ ?_
              · intro hcM64
                (first | refine g_splitD (t := 53) hS rfl ?_ ?_ | refine g_split (t := 53) hS rfl ?_ ?_) <;> (clear hS; intro hg53 hS)
                ·
                  refine L_go hS rfl rfl (s_e hS (e_move rfl) rfl ?_); clear hS a; intro a hS
                  refine L_go hS rfl rfl (s_e hS (e_nilCheck rfl) rfl ?_); clear hS a; intro a hS
                  first | (refine L_go hS rfl rfl (s_e hS (e_fa0 rfl ty_fo86_1) rfl ?_); clear hS a; intro a hS) | (refine L_go hS rfl rfl (s_e hS (e_faK rfl ty_fo86_1) rfl ?_); clear hS a; intro a hS)
                  refine L_go hS rfl rfl (s_e hS (e_load rfl (by repeat constructor) ty_sc84 (by rfl)) rfl ?_); clear hS a; intro a hS
                  refine L_go hS rfl rfl (s_e hS (e_move rfl) rfl ?_); clear hS a; intro a hS
                  refine L_go hS rfl rfl (s_e hS (e_ixN rfl rfl ty_sl84 ty_sz94 (by omega)) rfl ?_); clear hS a; intro a hS
                  first | (refine L_go hS rfl rfl (s_e hS (e_fa0 rfl ty_fo94_1) rfl ?_); clear hS a; intro a hS) | (refine L_go hS rfl rfl (s_e hS (e_faK rfl ty_fo94_1) rfl ?_); clear hS a; intro a hS)
                  refine L_go hS rfl rfl (s_e hS (e_loadC rfl ty_sc3 (fun w hh => own_get (enc := encR) (fun _ => rfl) (by repeat constructor) hx w hh 1 (.int .i64 x.2.1) rfl)) rfl ?_); clear hS a; intro a hS
                  refine L_go hS rfl rfl (s_e hS (e_move rfl) rfl ?_); clear hS a; intro a hS
                  refine L_go hS rfl rfl (s_e hS (e_bin rfl rfl rfl) rfl ?_); clear hS a; intro a hS
                  first | (refine L_op (s_e hS (e_pick_t rfl rfl) rfl ?_); clear hS a; intro a hS) | (refine L_op (s_e hS (e_pick_f rfl rfl) rfl ?_); clear hS a; intro a hS)
                  exact hcM64 _ _ (hS.ends 12 64 53 rfl (congrArg Value.bool (by first | rfl | (simp [hg53]; done) | (simp [hg53]; omega) | grind)) rfl rfl (by first | exact congrArg Value.bool (decide_eq_true hg53).symm | exact congrArg Value.bool hg53.symm | simp [hg53]) rfl)
                ·
                  refine L_skip_t hS rfl rfl rfl ?_; clear hS a; intro a hS
                  refine L_skip_t hS rfl rfl rfl ?_; clear hS a; intro a hS
                  refine L_skip_t hS rfl rfl rfl ?_; clear hS a; intro a hS
                  refine L_skip_t hS rfl rfl rfl ?_; clear hS a; intro a hS
                  refine L_skip_t hS rfl rfl rfl ?_; clear hS a; intro a hS
                  refine L_skip_t hS rfl rfl rfl ?_; clear hS a; intro a hS
                  refine L_skip_t hS rfl rfl rfl ?_; clear hS a; intro a hS
                  refine L_skip_t hS rfl rfl rfl ?_; clear hS a; intro a hS
                  refine L_skip_t hS rfl rfl rfl ?_; clear hS a; intro a hS
                  refine L_skip_t hS rfl rfl rfl ?_; clear hS a; intro a hS
                  first | (refine L_op (s_e hS (e_pick_t rfl rfl) rfl ?_); clear hS a; intro a hS) | (refine L_op (s_e hS (e_pick_f rfl rfl) rfl ?_); clear hS a; intro a hS)
                  exact hcM64 _ _ (hS.ends 12 64 53 rfl (congrArg Value.bool (by first | rfl | (simp [hg53]; done) | (simp [hg53]; omega) | grind)) rfl rfl (by first | exact congrArg Value.bool (decide_eq_false hg53).symm | exact congrArg Value.bool hg53.symm | simp [hg53]) rfl)
              · clear hS a; (try clear w); intro a w hS
                simp only [List.drop_succ_cons, List.drop_zero]
                refine L_nil ?_
                refine n_then ?_
                first | refine c_ifD hS rfl (fun hc64 => ?_) (fun hc64 => ?_) | refine c_if hS rfl (fun hc64 => ?_) (fun hc64 => ?_)
                ·
                  refine c_seq ?_
                  refine c_region ?_
                  refine L_op (s_e hS (e_assign rfl) rfl ?_); clear hS a; intro a hS
                  refine L_nil ?_
                  refine n_then ?_
                  refine wp_ret ?_
                  refine r_then (r_block (r_then (r_then (r_block (r_then ?_)))))
                  refine c_ret1 hS Try.results39 (.tmp rfl) ?_
                  have hl : late rows c at_ := ⟨x, List.mem_of_getElem? hx, hc64⟩
                  have hE : refE own rows c at_ nano = 34 := by unfold refE; rw [if_neg hc22, if_neg hc33, if_pos hl]
                  exact ⟨⟨(rows, _), same (by rw [hE]; decide)⟩, by (try dsimp only); rw [hE], hS.chg, hback hS, fun b hb => .inl hb⟩
                ·
                  refine wp_skip ?_
                  refine n_then ?_
                  refine c_seq ?_
                  refine c_region ?_
                  refine L_op (s_e hS (e_move rfl) rfl ?_); clear hS a; intro a hS
                  refine L_op (s_e hS (e_nilCheck rfl) rfl ?_); clear hS a; intro a hS
                  first | (refine L_op (s_e hS (e_fa0 rfl ty_fo86_1) rfl ?_); clear hS a; intro a hS) | (refine L_op (s_e hS (e_faK rfl ty_fo86_1) rfl ?_); clear hS a; intro a hS)
                  refine L_op (s_e hS (e_load rfl (by repeat constructor) ty_sc84 (by rfl)) rfl ?_); clear hS a; intro a hS
                  refine L_op (s_e hS (e_move rfl) rfl ?_); clear hS a; intro a hS
                  refine L_op (s_e hS (e_ixN rfl rfl ty_sl84 ty_sz94 (by omega)) rfl ?_); clear hS a; intro a hS
                  first | (refine L_op (s_e hS (e_fa0 rfl ty_fo94_0) rfl ?_); clear hS a; intro a hS) | (refine L_op (s_e hS (e_faK rfl ty_fo94_0) rfl ?_); clear hS a; intro a hS)
                  refine L_op (s_e hS (e_loadC rfl ty_sc9 (fun w hh => own_get (enc := encR) (fun _ => rfl) (by repeat constructor) hx w hh 0 (.string x.1) rfl)) rfl ?_); clear hS a; intro a hS
                  refine L_op (s_e hS (e_move rfl) rfl ?_); clear hS a; intro a hS
                  refine L_op (s_e hS (e_leS rfl rfl) rfl ?_); clear hS a; intro a hS
                  refine L_nil ?_
                  refine n_then ?_
                  first | refine c_ifD hS rfl (fun hc74 => ?_) (fun hc74 => ?_) | refine c_if hS rfl (fun hc74 => ?_) (fun hc74 => ?_)
                  ·
                    refine c_region ?_
                    refine L_op (s_e hS (e_move rfl) rfl ?_); clear hS a; intro a hS
                    first | (refine L_op (s_e hS (e_binN rfl rfl rfl (by omega)) rfl ?_); clear hS a; intro a hS) | (refine L_op (s_e hS (e_bin rfl rfl rfl) rfl ?_); clear hS a; intro a hS)
                    refine L_op (s_e hS (e_assign rfl) rfl ?_); clear hS a; intro a hS
                    refine L_nil ?_
                    refine n_block ?_
                    refine n_then ?_
                    refine c_region ?_
                    refine L_op (s_e hS (e_move rfl) rfl ?_); clear hS a; intro a hS
                    first | (refine L_op (s_e hS (e_binN rfl rfl rfl (by omega)) rfl ?_); clear hS a; intro a hS) | (refine L_op (s_e hS (e_bin rfl rfl rfl) rfl ?_); clear hS a; intro a hS)
                    refine L_op (s_e hS (e_assign rfl) rfl ?_); clear hS a; intro a hS
                    refine L_nil ?_
                    first
                    | exact ⟨(i + 1, i + 1), by simp only; omega, hS.slots (by repeat (first | exact trivial | refine ⟨rfl, ?_⟩)), by simp only; omega, kOK_yes hx hc74, fun j hj y hy => by
                        by_cases e : j = i
                        · subst e; rw [hx] at hy; cases hy; exact hc64
                        · exact hno j (by simp only at hj; omega) y hy⟩
                    | exact ⟨(i + 1, k), by simp only; omega, hS.slots (by repeat (first | exact trivial | refine ⟨rfl, ?_⟩)), by simp only; omega, kOK_no hk hx (by simpa using hc74), fun j hj y hy => by
                        by_cases e : j = i
                        · subst e; rw [hx] at hy; cases hy; exact hc64
                        · exact hno j (by simp only at hj; omega) y hy⟩
                  ·
                    refine wp_skip ?_
                    refine n_block ?_
                    refine n_then ?_
                    refine c_region ?_
                    refine L_op (s_e hS (e_move rfl) rfl ?_); clear hS a; intro a hS
                    first | (refine L_op (s_e hS (e_binN rfl rfl rfl (by omega)) rfl ?_); clear hS a; intro a hS) | (refine L_op (s_e hS (e_bin rfl rfl rfl) rfl ?_); clear hS a; intro a hS)
                    refine L_op (s_e hS (e_assign rfl) rfl ?_); clear hS a; intro a hS
                    refine L_nil ?_
                    first
                    | exact ⟨(i + 1, i + 1), by simp only; omega, hS.slots (by repeat (first | exact trivial | refine ⟨rfl, ?_⟩)), by simp only; omega, kOK_yes hx hc74, fun j hj y hy => by
                        by_cases e : j = i
                        · subst e; rw [hx] at hy; cases hy; exact hc64
                        · exact hno j (by simp only at hj; omega) y hy⟩
                    | exact ⟨(i + 1, k), by simp only; omega, hS.slots (by repeat (first | exact trivial | refine ⟨rfl, ?_⟩)), by simp only; omega, kOK_no hk hx (by simpa using hc74), fun j hj y hy => by
                        by_cases e : j = i
                        · subst e; rw [hx] at hy; cases hy; exact hc64
                        · exact hno j (by simp only at hj; omega) y hy⟩
            ·
              have hE0 : ¬ late rows c at_ := fun ⟨y, hy, hyc⟩ => by
                obtain ⟨j, hj, rfl⟩ := List.mem_iff_getElem.1 hy
                exact hno j (by omega) _ (List.getElem?_eq_getElem hj) hyc
              obtain rfl : i = rows.length := by omega
              have hkl := hk.1
              refine wp_exit ?_
              refine x_then (x_then (x_hit ?_))
              refine n_then ?_
              refine c_seq ?_
              refine c_seq ?_
              refine c_region ?_
              refine L_op (s_e hS (e_move rfl) rfl ?_); clear hS a; intro a hS
              refine L_op (s_e hS (e_nilCheck rfl) rfl ?_); clear hS a; intro a hS
              first | (refine L_op (s_e hS (e_fa0 rfl ty_fo86_1) rfl ?_); clear hS a; intro a hS) | (refine L_op (s_e hS (e_faK rfl ty_fo86_1) rfl ?_); clear hS a; intro a hS)
              refine L_op (s_e hS (e_load rfl (by repeat constructor) ty_sc84 (by rfl)) rfl ?_); clear hS a; intro a hS
              refine L_op (s_e hS (e_len rfl rfl ty_sl84) rfl ?_); clear hS a; intro a hS
              refine L_op (s_e hS (e_bin rfl rfl rfl) rfl ?_); clear hS a; intro a hS
              refine L_nil ?_
              refine n_then ?_
              first | refine c_ifD hS rfl (fun hc82 => ?_) (fun hc82 => ?_) | refine c_if hS rfl (fun hc82 => ?_) (fun hc82 => ?_)
              ·
                refine c_seq ?_
                refine c_region ?_
                refine L_op (s_e hS (e_assign rfl) rfl ?_); clear hS a; intro a hS
                refine L_nil ?_
                refine n_then ?_
                refine wp_ret ?_
                refine r_then ?_
                refine c_ret1 hS Try.results39 (.tmp rfl) ?_
                have hE : refE own rows c at_ nano = 9 := by unfold refE; rw [if_neg hc22, if_neg hc33, if_neg hE0, if_pos (by omega)]
                exact ⟨⟨(rows, _), same (by rw [hE]; decide)⟩, by (try dsimp only); rw [hE], hS.chg, hback hS, fun b hb => .inl hb⟩
              ·
                refine wp_skip ?_
                refine n_then ?_
                refine c_seq ?_
                refine c_region ?_
                refine L_op (s_bslice hS ty_sl84 ty_sz94 ty_z94 rfl rfl rfl rfl .nil rfl ?_); clear hS a; (try clear w); intro a w b83 hS
                replace hS := hS.swap (X := .blk b83 [] 94) (Y := ownA 94 3 (.slice (some ⟨b83, 0, none⟩) 0 0) 0 []) (by repeat constructor) (own_empty (hS.get (X := .blk b83 [] 94) (by repeat constructor))) (fun b hb => by simpa [ownA, Asn.F, Value.ownBlock, eq_comm] using hb) rfl
                refine L_op (s_e hS (e_move rfl) rfl ?_); clear hS a; intro a hS
                refine L_op (s_e hS (e_nilCheck rfl) rfl ?_); clear hS a; intro a hS
                first | (refine L_op (s_e hS (e_fa0 rfl ty_fo86_1) rfl ?_); clear hS a; intro a hS) | (refine L_op (s_e hS (e_faK rfl ty_fo86_1) rfl ?_); clear hS a; intro a hS)
                refine L_op (s_e hS (e_load rfl (by repeat constructor) ty_sc84 (by rfl)) rfl ?_); clear hS a; intro a hS
                refine L_op (s_e hS (e_move rfl) rfl ?_); clear hS a; intro a hS
                refine L_op (s_e hS (e_slH rfl rfl ty_sl84 ty_sz94 (by omega)) rfl ?_); clear hS a; intro a hS
                refine L_op (s_appendQ hS rfl rfl ty_sl84 ty_sz94 ty_by94 ty_z94 rfl rfl rfl (by repeat constructor) (by rw [flat_len encR 3 (fun _ => rfl), List.length_take, Nat.min_eq_left hkl]) (own_head (hS.get (X := ownA 94 3 (.slice q rows.length cq) rows.length (rows.flatMap encR)) (by repeat constructor)) (fun _ => rfl) hkl) (hone _) (by omega) (fun _ => (by repeat constructor)) ?_); clear hS a; (try clear w); intro v90 a w hv90 hS
                refine L_op (s_e hS (e_assign rfl) rfl ?_); clear hS a; intro a hS
                refine L_nil ?_
                refine n_then ?_
                refine c_seq ?_
                refine c_region ?_
                refine L_op (s_e hS (e_move rfl) rfl ?_); clear hS a; intro a hS
                refine L_op (s_e hS (e_move rfl) rfl ?_); clear hS a; intro a hS
                refine L_op (s_e hS (e_move rfl) rfl ?_); clear hS a; intro a hS
                refine L_op (s_e hS (e_move rfl) rfl ?_); clear hS a; intro a hS
                refine L_op (s_e hS (e_build ty_z94 ty_pl94 (.one rfl rfl rfl (by repeat constructor) (.one rfl rfl rfl (by repeat constructor) (.one rfl rfl rfl (by repeat constructor) .nil)))) rfl ?_); clear hS a; intro a hS
                refine L_op (s_bslice hS ty_sl84 ty_sz94 ty_z94 rfl rfl rfl rfl (.agg rfl rfl .nil) rfl ?_); clear hS a; (try clear w); intro a w b96 hS
                refine L_op (s_append1 hS rfl rfl ty_sl84 ty_sz94 ty_by94 ty_z94 rfl rfl rfl (by repeat constructor) (by repeat constructor) (by rfl) (by rfl) (fun _ => (by repeat constructor)) (by omega) ?_); clear hS a; (try clear w); intro v97 a w hv97 hS
                refine L_op (s_e hS (e_assign rfl) rfl ?_); clear hS a; intro a hS
                refine L_nil ?_
                refine n_then ?_
                refine c_seq ?_
                refine c_region ?_
                refine L_op (s_e hS (e_move rfl) rfl ?_); clear hS a; intro a hS
                refine L_op (s_e hS (e_move rfl) rfl ?_); clear hS a; intro a hS
                refine L_op (s_e hS (e_move rfl) rfl ?_); clear hS a; intro a hS
                refine L_op (s_e hS (e_nilCheck rfl) rfl ?_); clear hS a; intro a hS
                first | (refine L_op (s_e hS (e_fa0 rfl ty_fo86_1) rfl ?_); clear hS a; intro a hS) | (refine L_op (s_e hS (e_faK rfl ty_fo86_1) rfl ?_); clear hS a; intro a hS)
                refine L_op (s_e hS (e_load rfl (by repeat constructor) ty_sc84 (by rfl)) rfl ?_); clear hS a; intro a hS
                refine L_op (s_e hS (e_move rfl) rfl ?_); clear hS a; intro a hS
                refine L_op (s_e hS (e_slT rfl rfl ty_sl84 ty_sz94 (by omega)) rfl ?_); clear hS a; intro a hS
                refine L_op (s_appendQ hS rfl rfl ty_sl84 ty_sz94 ty_by94 ty_z94 rfl rfl rfl (by repeat constructor) (by rw [flat_len encR 3 (fun _ => rfl), List.length_drop]) (own_tail (hS.get (X := ownA 94 3 (.slice q rows.length cq) rows.length (rows.flatMap encR)) (by repeat constructor)) (fun _ => rfl) rfl hkl) (hone _) (by omega) (fun _ => (by repeat constructor)) ?_); clear hS a; (try clear w); intro v106 a w hv106 hS
                obtain ⟨q2, c2, rfl⟩ := own_slice (hS.get (X := ownA 94 3 v106 (0 + k + 1 + (rows.length - k)) _) (by repeat constructor))
                refine L_op (s_e hS (e_nilCheck rfl) rfl ?_); clear hS a; intro a hS
                first | (refine L_op (s_e hS (e_fa0 rfl ty_fo86_1) rfl ?_); clear hS a; intro a hS) | (refine L_op (s_e hS (e_faK rfl ty_fo86_1) rfl ?_); clear hS a; intro a hS)
                refine L_op (s_store hS rfl rfl rfl ty_sz84 (by repeat constructor) (by repeat constructor) ?_); clear hS; (try clear w); intro w hS
                refine L_nil ?_
                refine n_then ?_
                refine c_seq ?_
                refine c_region ?_
                refine L_op (s_e hS (e_assign rfl) rfl ?_); clear hS a; intro a hS
                refine L_nil ?_
                refine n_then ?_
                refine wp_ret ?_
                refine c_ret1 hS Try.results39 (.tmp rfl) ?_
                have hE : refE own rows c at_ nano = 0 := by unfold refE; rw [if_neg hc22, if_neg hc33, if_neg hE0, if_neg (by omega)]
                have hrow := hS.get (X := ownA 94 3 (.slice q2 (0 + k + 1 + (rows.length - k)) c2) (0 + k + 1 + (rows.length - k)) _) (by repeat constructor)
                have hmine := hS.mine (ownA 94 3 (.slice q2 (0 + k + 1 + (rows.length - k)) c2) (0 + k + 1 + (rows.length - k)) _) (by repeat constructor) rfl
                have e1 : (rows.take k ++ (c, at_, nano) :: rows.drop k).length = 0 + k + 1 + (rows.length - k) := by simp; omega
                refine ⟨⟨(rows.take k ++ (c, at_, nano) :: rows.drop k, .slice q2 (0 + k + 1 + (rows.length - k)) c2), .inr ⟨hE, k, hk, rfl⟩⟩, by (try dsimp only); rw [hE], hS.chg, ref_ok true ⟨hS.get (X := .blk bw [.string own, .slice q2 (0 + k + 1 + (rows.length - k)) c2] 86) (by repeat constructor), ?_⟩, ?_⟩
                · have h2 : w.ownsRow 0 94 3 (.slice q2 (0 + k + 1 + (rows.length - k)) c2) (0 + k + 1 + (rows.length - k)) _ := hrow
                  rw [e1]
                  simpa [encR] using h2
                · rintro b (hb | hb)
                  · exact .inl (.inl hb)
                  · rcases hmine b hb with h | h
                    · exact .inr h
                    · exact .inl h
end Go.Proofs.Ytheofhegdjjfgaa

namespace Go.Proofs.Ytheofhegdjjfgaa
open Go.RowKit

def rrFits (x : RR) : Prop := x.1.size ≤ 4611686018427387904 ∧ (-9223372036854775808 ≤ x.2.1 ∧ x.2.1 ≤ 9223372036854775807) ∧ (-9223372036854775808 ≤ x.2.2 ∧ x.2.2 ≤ 9223372036854775807)
def fewS (l : List RR) : Prop := l.length ≤ 60 ∧ ∀ x ∈ l, x.1.size ≤ 300
instance (l : List RR) : Decidable (fewS l) := by unfold fewS; infer_instance
set_option maxRecDepth 100000 in
theorem fxfew_P (p : Option (Nat × Nat)) (c : Nat) (l : List RR) (hlen : l.length ≤ 4611686018427387904) (hfit : ∀ x ∈ l, rrFits x) (w0 : World) (h : RowP p 3 (l.map encR) w0) (hb : ∀ q, p = some q → q.1 < w0.heap.size) :
    PureC Try.prog 13 [sliceV p l.length c] w0 (.bool (decide (fewS l))) := by
  refine c_enter [(0, sliceV p l.length c)] [rowP p 3 (l.map encR)] noB Try.func13 rfl Try.ntmps13 ⟨rfl, trivial⟩ rfl (okC (ok_rowP h hb) okN) dis1 (mineC (by rfl) mineN) ?_
  intro a hS
  refine c_seq ?_
  refine c_region ?_
  refine L_op (s_e hS (e_assign rfl) rfl ?_); clear hS a; intro a hS
  refine L_nil ?_
  refine n_then ?_
  refine c_seq ?_
  refine c_seq ?_
  refine c_region ?_
  refine L_op (s_e hS (e_assign rfl) rfl ?_); clear hS a; intro a hS
  refine L_nil ?_
  refine n_then ?_
  refine wp_block ?_
  skip
  refine c_loop (γ := Nat) (fun k a w => St 24 noB w0 a w [(3, .int .i64 (k : Int)), (0, sliceV p l.length c)] [rowP p 3 (l.map encR)] ∧ k ≤ l.length ∧ ∀ j, j < k → ∀ y, l[j]? = some y → y.1.size ≤ 300) (fun k => l.length - k) 0 ⟨hS.slots (by repeat (first | exact trivial | refine ⟨rfl, ?_⟩)), Nat.zero_le _, fun j hj => by omega⟩ ?_
  clear hS a; (try clear w); intro k a w hI
  obtain ⟨hS, hk, hno⟩ := hI
  refine c_seq ?_
  refine c_seq ?_
  refine c_region ?_
  refine L_op (s_e hS (e_move rfl) rfl ?_); clear hS a; intro a hS
  refine L_op (s_e hS (e_move rfl) rfl ?_); clear hS a; intro a hS
  refine L_op (s_e hS (e_len rfl rfl ty_sl22) rfl ?_); clear hS a; intro a hS
  refine L_op (s_e hS (e_bin rfl rfl rfl) rfl ?_); clear hS a; intro a hS
  refine L_op (s_e hS (e_move rfl) rfl ?_); clear hS a; intro a hS
  refine L_merge 3 11 (.bool (decide (k < l.length ∧ k ≤ 60))) hS ?_ ?_
  · intro hcM11
    (first | refine g_splitD (t := 8) hS rfl ?_ ?_ | refine g_split (t := 8) hS rfl ?_ ?_) <;> (clear hS; intro hg8 hS)
    ·
      refine L_go hS rfl rfl (s_e hS (e_move rfl) rfl ?_); clear hS a; intro a hS
      refine L_go hS rfl rfl (s_e hS (e_bin rfl rfl rfl) rfl ?_); clear hS a; intro a hS
      first | (refine L_op (s_e hS (e_pick_t rfl rfl) rfl ?_); clear hS a; intro a hS) | (refine L_op (s_e hS (e_pick_f rfl rfl) rfl ?_); clear hS a; intro a hS)
      exact hcM11 _ _ (hS.ends 4 11 8 rfl (congrArg Value.bool (by rw [decide_eq_decide]; omega)) rfl rfl (by first | exact congrArg Value.bool (decide_eq_true hg8).symm | exact congrArg Value.bool hg8.symm | simp [hg8]) rfl)
    ·
      refine L_skip_t hS rfl rfl rfl ?_; clear hS a; intro a hS
      refine L_skip_t hS rfl rfl rfl ?_; clear hS a; intro a hS
      first | (refine L_op (s_e hS (e_pick_t rfl rfl) rfl ?_); clear hS a; intro a hS) | (refine L_op (s_e hS (e_pick_f rfl rfl) rfl ?_); clear hS a; intro a hS)
      exact hcM11 _ _ (hS.ends 4 11 8 rfl (congrArg Value.bool (by symm; rw [decide_eq_false_iff_not]; omega)) rfl rfl (by first | exact congrArg Value.bool (decide_eq_false hg8).symm | exact congrArg Value.bool hg8.symm | simp [hg8]) rfl)
  · clear hS a; (try clear w); intro a w hS
    simp only [List.drop_succ_cons, List.drop_zero]
    refine L_nil ?_
    refine n_then ?_
    first | refine c_ifD hS rfl (fun hc11 => ?_) (fun hc11 => ?_) | refine c_if hS rfl (fun hc11 => ?_) (fun hc11 => ?_)
    ·
      obtain ⟨x, hx⟩ : ∃ x, l[k]? = some x := ⟨l[k]'hc11.1, List.getElem?_eq_getElem hc11.1⟩
      have hx' : (l.map encR)[k]? = some (encR x) := by simp [hx]
      obtain ⟨b, off, rfl⟩ := rowP_some h hx'
      have hxf := hfit x (List.mem_of_getElem? hx)
      have hxs := hxf.1
      refine wp_skip ?_
      refine n_then ?_
      refine c_seq ?_
      refine wp_block ?_
      refine c_seq ?_
      refine c_region ?_
      refine L_op (s_e hS (e_move rfl) rfl ?_); clear hS a; intro a hS
      refine L_op (s_e hS (e_move rfl) rfl ?_); clear hS a; intro a hS
      refine L_op (s_e hS (e_ixN rfl rfl ty_sl22 ty_sz24 (by omega)) rfl ?_); clear hS a; intro a hS
      first | (refine L_op (s_e hS (e_fa0 rfl ty_fo24_0) rfl ?_); clear hS a; intro a hS) | (refine L_op (s_e hS (e_faK rfl ty_fo24_0) rfl ?_); clear hS a; intro a hS)
      refine L_op (s_e hS (e_loadC rfl ty_sc9 (fun w hh => rowP_get (by repeat constructor) hx' w hh 0 (.string x.1) rfl)) rfl ?_); clear hS a; intro a hS
      refine L_op (s_e hS (e_lenS rfl rfl ty_u9) rfl ?_); clear hS a; intro a hS
      refine L_op (s_e hS (e_bin rfl rfl rfl) rfl ?_); clear hS a; intro a hS
      refine L_nil ?_
      refine n_then ?_
      first | refine c_ifD hS rfl (fun hc20 => ?_) (fun hc20 => ?_) | refine c_if hS rfl (fun hc20 => ?_) (fun hc20 => ?_)
      ·
        refine c_seq ?_
        refine c_region ?_
        refine L_op (s_e hS (e_assign rfl) rfl ?_); clear hS a; intro a hS
        refine L_nil ?_
        refine n_then ?_
        refine wp_ret ?_
        refine r_block (r_then (r_then (r_block (r_then ?_))))
        refine c_ret1 hS Try.results13 (.tmp rfl) ?_
        have hn : ¬ fewS l := fun hf => by have := hf.2 x (List.mem_of_getElem? hx); omega
        exact ⟨by rw [decide_eq_false hn], hS.chg⟩
      ·
        refine wp_skip ?_
        refine n_block ?_
        refine n_then ?_
        refine c_region ?_
        refine L_op (s_e hS (e_move rfl) rfl ?_); clear hS a; intro a hS
        first | (refine L_op (s_e hS (e_binN rfl rfl rfl (by omega)) rfl ?_); clear hS a; intro a hS) | (refine L_op (s_e hS (e_bin rfl rfl rfl) rfl ?_); clear hS a; intro a hS)
        refine L_op (s_e hS (e_assign rfl) rfl ?_); clear hS a; intro a hS
        refine L_nil ?_
        exact ⟨k + 1, by omega, hS.slots (by repeat (first | exact trivial | refine ⟨rfl, ?_⟩)), by omega, fun j hj y hy => by
        by_cases e : j = k
        · subst e; rw [hx] at hy; cases hy; omega
        · exact hno j (by omega) y hy⟩
    ·
      refine wp_exit ?_
      refine x_then (x_then (x_hit ?_))
      refine n_then ?_
      refine c_seq ?_
      refine c_region ?_
      refine L_op (s_e hS (e_move rfl) rfl ?_); clear hS a; intro a hS
      refine L_op (s_e hS (e_len rfl rfl ty_sl22) rfl ?_); clear hS a; intro a hS
      refine L_op (s_e hS (e_bin rfl rfl rfl) rfl ?_); clear hS a; intro a hS
      refine L_op (s_e hS (e_assign rfl) rfl ?_); clear hS a; intro a hS
      refine L_nil ?_
      refine n_then ?_
      refine wp_ret ?_
      refine c_ret1 hS Try.results13 (.tmp rfl) ?_
      refine ⟨?_, hS.chg⟩
      have : (l.length : Int) ≤ 60 ↔ fewS l := ⟨fun h => ⟨by omega, fun x hx => by
        obtain ⟨j, hj, rfl⟩ := List.mem_iff_getElem.1 hx
        exact hno j (by omega) _ (List.getElem?_eq_getElem hj)⟩, fun h => by have := h.1; omega⟩
      rw [decide_eq_decide.2 this]

def usd : ByteArray := ⟨#[85, 83, 68]⟩
theorem usd_scale : (scaleR usd).2 = 0 := by decide +kernel
def stepS (own : ByteArray) (st : List (ByteArray × List (Int × Int)) × Int) (x : RR) : List (ByteArray × List (Int × Int)) × Int := setR own st.1 st.2 x.1 x.2.1 x.2.2
/-- what the sets make of no rates. -/
def madeF (own : ByteArray) (l : List RR) : List (ByteArray × List (Int × Int)) × Int := l.foldl (stepS own) ([], 0)
inductive RefsOf (own : ByteArray) : List RR → List RR → Prop
  | nil : RefsOf own [] []
  | snoc {l rows rows' : List RR} {x : RR} (h : RefsOf own l rows) (hs : refStep own rows x.1 x.2.1 x.2.2 rows') : RefsOf own (l ++ [x]) rows'
theorem step_len {own c : ByteArray} {rows rows' : List RR} {at_ nano : Int} (h : refStep own rows c at_ nano rows') (hl : rows.length ≤ 500) : rows'.length ≤ 500 := by
  rcases h with ⟨_, rfl⟩ | ⟨hE, k, hk, rfl⟩
  · exact hl
  · have h5 : ¬ 500 ≤ rows.length := fun h5 => by
      unfold refE at hE
      split at hE
      · cases hE
      · split at hE
        · cases hE
        · split at hE
          · cases hE
          · cases hE
    have := hk.1
    simp; omega
structure Both where
  bk : Nat
  mb : Nat
  bw : Nat
  es : List RA
  n : Int
  rows : List RR
  v : Value
def bothA (y : Both) : Asn := .any (fun k => ratesF y.bk y.mb y.es k ∨ refF y.bw y.v k) (fun w => ratesφ y.bk y.mb usd y.es y.n w ∧ refφ y.bw usd y.rows y.v w) true
theorem both_ok {y : Both} {w : World} (h1 : (ratesA y.bk y.mb usd y.es y.n true).ok w) (h2 : (refA y.bw usd y.rows y.v true).ok w) : (bothA y).ok w :=
  ⟨fun b hb => hb.elim (h1.lt b) (h2.lt b), fun w' hw => ⟨h1.hold w' (fun b hb => hw b (.inl hb)), h2.hold w' (fun b hb => hw b (.inr hb))⟩⟩
set_option maxRecDepth 100000 in
theorem fxmade_P (p : Option (Nat × Nat)) (c : Nat) (l : List RR) (hlen : l.length ≤ 4611686018427387904) (hfit : ∀ x ∈ l, rrFits x) (w0 : World) (h : RowP p 3 (l.map encR) w0) (hb : ∀ q, p = some q → q.1 < w0.heap.size) :
    NewC Try.prog 17 [sliceV p l.length c] w0 (fun y : { y : Both // (vsT y.es, y.n) = madeF usd l ∧ RefsOf usd l y.rows } => .tuple [.pointer (some ⟨y.1.bk, 0, none⟩), .pointer (some ⟨y.1.bw, 0, none⟩)].toArray) (fun y => bothA y.1) := by
  refine c_enter [(0, sliceV p l.length c)] [rowP p 3 (l.map encR)] noB Try.func17 rfl Try.ntmps17 ⟨rfl, trivial⟩ rfl (okC (ok_rowP h hb) okN) dis1 (mineC (by rfl) mineN) ?_
  intro a hS
  refine c_seq ?_
  refine c_region ?_
  refine L_op (s_e hS (e_assign rfl) rfl ?_); clear hS a; intro a hS
  refine L_op (s_e hS (e_assign rfl) rfl ?_); clear hS a; intro a hS
  refine L_nil ?_
  refine n_then ?_
  refine c_seq ?_
  refine c_region ?_
  refine L_op (s_callN hS (.cons rfl .nil) cf37 rfl (fxNew_P usd _ usd_scale) ?_); clear hS a; (try clear w); intro x9 a w hS
  refine L_op (s_e hS (e_move rfl) rfl ?_); clear hS a; intro a hS
  refine L_op (s_e hS (e_extract rfl rfl) rfl ?_); clear hS a; intro a hS
  refine L_op (s_e hS (e_extract rfl rfl) rfl ?_); clear hS a; intro a hS
  refine L_op (s_e hS (e_assign rfl) rfl ?_); clear hS a; intro a hS
  refine L_op (s_e hS (e_assign rfl) rfl ?_); clear hS a; intro a hS
  refine L_nil ?_
  refine n_then ?_
  refine c_seq ?_
  refine c_region ?_
  refine L_op (s_e hS (e_build ty_z86 ty_pl86 (.one rfl rfl rfl (by repeat constructor) .nil)) rfl ?_); clear hS a; intro a hS
  refine L_op (s_boxA hS rfl rfl ?_); clear hS a; (try clear w); intro a w b13 hS
  refine L_op (s_e hS (e_assign rfl) rfl ?_); clear hS a; intro a hS
  refine L_nil ?_
  refine n_then ?_
  refine c_seq ?_
  refine c_seq ?_
  refine c_region ?_
  replace hS := hS.swap (X := .blk b13 [.string usd, .slice none 0 0] 86) (Y := refA b13 usd [] (.slice none 0 0) true) (by repeat constructor) (ref_ok true ⟨hS.get (X := .blk b13 [.string usd, .slice none 0 0] 86) (by repeat constructor), World.ownsRow_nil _ _ _ _⟩) (fun b hb => by rcases hb with hb | hb; exact hb; cases hb) rfl
  refine L_op (s_e hS (e_assign rfl) rfl ?_); clear hS a; intro a hS
  refine L_nil ?_
  refine n_then ?_
  refine wp_block ?_
  skip
  refine c_loop (γ := Nat × (List RA × Int) × (List RR × Value)) (fun s a w => St 60 noB w0 a w [(7, .int .i64 (s.1 : Int)), (0, sliceV p l.length c), (4, .pointer (some ⟨x9.1, 0, none⟩)), (6, .pointer (some ⟨b13, 0, none⟩))] [rowP p 3 (l.map encR), ratesA x9.1 x9.2 usd s.2.1.1 s.2.1.2 true, refA b13 usd s.2.2.1 s.2.2.2 true] ∧ s.1 ≤ l.length ∧ (vsT s.2.1.1, s.2.1.2) = madeF usd (l.take s.1) ∧ RefsOf usd (l.take s.1) s.2.2.1 ∧ s.2.2.1.length ≤ 500) (fun s => l.length - s.1) (0, ([], 0), ([], .slice none 0 0)) ⟨(hS.slots (by repeat (first | exact trivial | refine ⟨rfl, ?_⟩))).pick (by repeat (first | exact Pick.nil | (refine Pick.cons (by repeat (first | exact Rem.head | apply Rem.tail)) ?_))), Nat.zero_le _, rfl, RefsOf.nil, Nat.zero_le _⟩ ?_
  clear hS a; (try clear w); intro s a w hI
  obtain ⟨hS, hk, hm, hr, hrl⟩ := hI
  obtain ⟨k, ⟨es, n⟩, rows, v⟩ := s
  simp only at hS hk hm hr hrl ⊢
  refine c_seq ?_
  refine c_seq ?_
  refine c_region ?_
  refine L_op (s_e hS (e_move rfl) rfl ?_); clear hS a; intro a hS
  refine L_op (s_e hS (e_move rfl) rfl ?_); clear hS a; intro a hS
  refine L_op (s_e hS (e_len rfl rfl ty_sl22) rfl ?_); clear hS a; intro a hS
  refine L_op (s_e hS (e_bin rfl rfl rfl) rfl ?_); clear hS a; intro a hS
  refine L_op (s_e hS (e_move rfl) rfl ?_); clear hS a; intro a hS
  refine L_merge 3 21 (.bool (decide (k < l.length))) hS ?_ ?_
  · intro hcM21
    (first | refine g_splitD (t := 18) hS rfl ?_ ?_ | refine g_split (t := 18) hS rfl ?_ ?_) <;> (clear hS; intro hg18 hS)
    ·
      refine L_go hS rfl rfl (s_e hS (e_move rfl) rfl ?_); clear hS a; intro a hS
      refine L_go hS rfl rfl (s_e hS (e_nnil rfl ty_u32) rfl ?_); clear hS a; intro a hS
      first | (refine L_op (s_e hS (e_pick_t rfl rfl) rfl ?_); clear hS a; intro a hS) | (refine L_op (s_e hS (e_pick_f rfl rfl) rfl ?_); clear hS a; intro a hS)
      exact hcM21 _ _ (hS.ends 4 21 18 rfl (congrArg Value.bool (by rw [decide_eq_true (by omega)]; simp)) rfl rfl (by first | exact congrArg Value.bool (decide_eq_true hg18).symm | exact congrArg Value.bool hg18.symm | simp [hg18]) rfl)
    ·
      refine L_skip_t hS rfl rfl rfl ?_; clear hS a; intro a hS
      refine L_skip_t hS rfl rfl rfl ?_; clear hS a; intro a hS
      first | (refine L_op (s_e hS (e_pick_t rfl rfl) rfl ?_); clear hS a; intro a hS) | (refine L_op (s_e hS (e_pick_f rfl rfl) rfl ?_); clear hS a; intro a hS)
      exact hcM21 _ _ (hS.ends 4 21 18 rfl (congrArg Value.bool (by symm; rw [decide_eq_false_iff_not]; omega)) rfl rfl (by first | exact congrArg Value.bool (decide_eq_false hg18).symm | exact congrArg Value.bool hg18.symm | simp [hg18]) rfl)
  · clear hS a; (try clear w); intro a w hS
    simp only [List.drop_succ_cons, List.drop_zero]
    refine L_nil ?_
    refine n_then ?_
    first | refine c_ifD hS rfl (fun hc21 => ?_) (fun hc21 => ?_) | refine c_if hS rfl (fun hc21 => ?_) (fun hc21 => ?_)
    ·
      obtain ⟨x, hx⟩ : ∃ x, l[k]? = some x := ⟨l[k]'hc21, List.getElem?_eq_getElem hc21⟩
      have hx' : (l.map encR)[k]? = some (encR x) := by simp [hx]
      obtain ⟨b, off, rfl⟩ := rowP_some h hx'
      have hxf := hfit x (List.mem_of_getElem? hx)
      refine wp_skip ?_
      refine n_then ?_
      refine c_seq ?_
      refine wp_block ?_
      refine c_seq ?_
      refine c_drawS [] (by kernel_rfl) hS (sub_cons (X := rowP (some (b, off)) 3 (l.map encR)) (by repeat constructor) sub_nil) ?_; clear hS; (try clear w); intro w hS
      simp only [List.length_cons, List.length_nil, Nat.zero_add, Nat.reduceAdd, List.replicate]
      refine Z_take0 (i := 0) hS rfl want_none (e_move rfl) (listed' := [true, false, false, false, false, false, false, false, false, false, false, false, false, false, false, false, false]) rfl (by kernel_rfl) (by kernel_rfl) (by kernel_rfl) (fun _ _ _ h => h) rfl ?_; clear hS a; intro a hS
      refine Z_take0 (i := 1) hS rfl want_none (e_move rfl) (listed' := [true, true, false, false, false, false, false, false, false, false, false, false, false, false, false, false, false]) rfl (by kernel_rfl) (by kernel_rfl) (by kernel_rfl) (fun _ _ _ h => h) rfl ?_; clear hS a; intro a hS
      refine Z_take0 (i := 2) hS rfl want_none (e_move rfl) (listed' := [true, true, true, false, false, false, false, false, false, false, false, false, false, false, false, false, false]) rfl (by kernel_rfl) (by kernel_rfl) (by kernel_rfl) (fun _ _ _ h => h) rfl ?_; clear hS a; intro a hS
      refine Z_take0 (i := 3) hS rfl want_none (e_ixN rfl rfl ty_sl22 ty_sz24 (by omega)) (listed' := [true, true, true, true, false, false, false, false, false, false, false, false, false, false, false, false, false]) rfl (by kernel_rfl) (by kernel_rfl) (by kernel_rfl) (fun _ _ _ h => h) rfl ?_; clear hS a; intro a hS
      first | (refine Z_take0 (i := 4) hS rfl want_none (e_fa0 rfl ty_fo24_0) (listed' := [true, true, true, true, true, false, false, false, false, false, false, false, false, false, false, false, false]) rfl (by kernel_rfl) (by kernel_rfl) (by kernel_rfl) (fun _ _ _ h => h) rfl ?_; clear hS a; intro a hS) | (refine Z_take0 (i := 4) hS rfl want_none (e_faK rfl ty_fo24_0) (listed' := [true, true, true, true, true, false, false, false, false, false, false, false, false, false, false, false, false]) rfl (by kernel_rfl) (by kernel_rfl) (by kernel_rfl) (fun _ _ _ h => h) rfl ?_; clear hS a; intro a hS)
      refine Z_take (i := 5) hS rfl want_none (e_loadC rfl ty_sc9 (fun w hh => rowP_get (by repeat constructor) hx' w hh 0 (.string x.1) rfl)) (listed' := [true, true, true, true, true, true, false, false, false, false, false, false, false, false, false, false, false]) rfl (by kernel_rfl) (by kernel_rfl) (by kernel_rfl) (by kernel_rfl) (by kernel_rfl) (sub_cons (by repeat constructor) sub_nil) (fun _ _ _ h => h) rfl ?_; clear hS a; intro a hS
      refine Z_take0 (i := 6) hS rfl want_none (e_move rfl) (listed' := [true, true, true, true, true, true, true, false, false, false, false, false, false, false, false, false, false]) rfl (by kernel_rfl) (by kernel_rfl) (by kernel_rfl) (fun _ _ _ h => h) rfl ?_; clear hS a; intro a hS
      refine Z_take0 (i := 7) hS rfl want_none (e_move rfl) (listed' := [true, true, true, true, true, true, true, true, false, false, false, false, false, false, false, false, false]) rfl (by kernel_rfl) (by kernel_rfl) (by kernel_rfl) (fun _ _ _ h => h) rfl ?_; clear hS a; intro a hS
      refine Z_take0 (i := 8) hS rfl want_none (e_ixN rfl rfl ty_sl22 ty_sz24 (by omega)) (listed' := [true, true, true, true, true, true, true, true, true, false, false, false, false, false, false, false, false]) rfl (by kernel_rfl) (by kernel_rfl) (by kernel_rfl) (fun _ _ _ h => h) rfl ?_; clear hS a; intro a hS
      first | (refine Z_take0 (i := 9) hS rfl want_none (e_fa0 rfl ty_fo24_1) (listed' := [true, true, true, true, true, true, true, true, true, true, false, false, false, false, false, false, false]) rfl (by kernel_rfl) (by kernel_rfl) (by kernel_rfl) (fun _ _ _ h => h) rfl ?_; clear hS a; intro a hS) | (refine Z_take0 (i := 9) hS rfl want_none (e_faK rfl ty_fo24_1) (listed' := [true, true, true, true, true, true, true, true, true, true, false, false, false, false, false, false, false]) rfl (by kernel_rfl) (by kernel_rfl) (by kernel_rfl) (fun _ _ _ h => h) rfl ?_; clear hS a; intro a hS)
      refine Z_take (i := 10) hS rfl want_none (e_loadC rfl ty_sc3 (fun w hh => rowP_get (by repeat constructor) hx' w hh 1 (.int .i64 x.2.1) rfl)) (listed' := [true, true, true, true, true, true, true, true, true, true, true, false, false, false, false, false, false]) rfl (by kernel_rfl) (by kernel_rfl) (by kernel_rfl) (by kernel_rfl) (by kernel_rfl) (sub_cons (by repeat constructor) sub_nil) (fun _ _ _ h => h) rfl ?_; clear hS a; intro a hS
      refine Z_take0 (i := 11) hS rfl want_none (e_move rfl) (listed' := [true, true, true, true, true, true, true, true, true, true, true, true, false, false, false, false, false]) rfl (by kernel_rfl) (by kernel_rfl) (by kernel_rfl) (fun _ _ _ h => h) rfl ?_; clear hS a; intro a hS
      refine Z_take0 (i := 12) hS rfl want_none (e_move rfl) (listed' := [true, true, true, true, true, true, true, true, true, true, true, true, true, false, false, false, false]) rfl (by kernel_rfl) (by kernel_rfl) (by kernel_rfl) (fun _ _ _ h => h) rfl ?_; clear hS a; intro a hS
      refine Z_take0 (i := 13) hS rfl want_none (e_ixN rfl rfl ty_sl22 ty_sz24 (by omega)) (listed' := [true, true, true, true, true, true, true, true, true, true, true, true, true, true, false, false, false]) rfl (by kernel_rfl) (by kernel_rfl) (by kernel_rfl) (fun _ _ _ h => h) rfl ?_; clear hS a; intro a hS
      first | (refine Z_take0 (i := 14) hS rfl want_none (e_fa0 rfl ty_fo24_2) (listed' := [true, true, true, true, true, true, true, true, true, true, true, true, true, true, true, false, false]) rfl (by kernel_rfl) (by kernel_rfl) (by kernel_rfl) (fun _ _ _ h => h) rfl ?_; clear hS a; intro a hS) | (refine Z_take0 (i := 14) hS rfl want_none (e_faK rfl ty_fo24_2) (listed' := [true, true, true, true, true, true, true, true, true, true, true, true, true, true, true, false, false]) rfl (by kernel_rfl) (by kernel_rfl) (by kernel_rfl) (fun _ _ _ h => h) rfl ?_; clear hS a; intro a hS)
      refine Z_take (i := 15) hS rfl want_none (e_loadC rfl ty_sc3 (fun w hh => rowP_get (by repeat constructor) hx' w hh 2 (.int .i64 x.2.2) rfl)) (listed' := [true, true, true, true, true, true, true, true, true, true, true, true, true, true, true, true, false]) rfl (by kernel_rfl) (by kernel_rfl) (by kernel_rfl) (by kernel_rfl) (by kernel_rfl) (sub_cons (by repeat constructor) sub_nil) (fun _ _ _ h => h) rfl ?_; clear hS a; intro a hS
      refine Z_one (i := 16) rfl (want_none a hS.sl) (listed' := [true, true, true, true, true, true, true, true, true, true, true, true, true, true, true, true, true]) rfl (by kernel_rfl) (s_callM hS (.cons rfl (.cons rfl (.cons rfl (.cons rfl .nil)))) cf19 rfl (fxSet_P x9.1 x9.2 usd x.1 es n x.2.1 x.2.2 hxf.2.1 _ (hS.get (X := ratesA x9.1 x9.2 usd es n true) (by repeat constructor))) (fun x => (by repeat constructor)) rfl ?_); clear hS a; (try clear w); intro x40 a w hS
      refine Z_and hS (sub_cons (by repeat constructor) sub_nil) ?_
      refine Z_done (by kernel_rfl) ?_
      refine n_then ?_
      refine c_drawS [] (by kernel_rfl) hS (sub_cons (X := rowP (some (b, off)) 3 (l.map encR)) (by repeat constructor) sub_nil) ?_; clear hS; (try clear w); intro w hS
      simp only [List.length_cons, List.length_nil, Nat.zero_add, Nat.reduceAdd, List.replicate]
      refine Z_take0 (i := 0) hS rfl want_none (e_move rfl) (listed' := [true, false, false, false, false, false, false, false, false, false, false, false, false, false, false, false, false]) rfl (by kernel_rfl) (by kernel_rfl) (by kernel_rfl) (fun _ _ _ h => h) rfl ?_; clear hS a; intro a hS
      refine Z_take0 (i := 1) hS rfl want_none (e_move rfl) (listed' := [true, true, false, false, false, false, false, false, false, false, false, false, false, false, false, false, false]) rfl (by kernel_rfl) (by kernel_rfl) (by kernel_rfl) (fun _ _ _ h => h) rfl ?_; clear hS a; intro a hS
      refine Z_take0 (i := 2) hS rfl want_none (e_move rfl) (listed' := [true, true, true, false, false, false, false, false, false, false, false, false, false, false, false, false, false]) rfl (by kernel_rfl) (by kernel_rfl) (by kernel_rfl) (fun _ _ _ h => h) rfl ?_; clear hS a; intro a hS
      refine Z_take0 (i := 3) hS rfl want_none (e_ixN rfl rfl ty_sl22 ty_sz24 (by omega)) (listed' := [true, true, true, true, false, false, false, false, false, false, false, false, false, false, false, false, false]) rfl (by kernel_rfl) (by kernel_rfl) (by kernel_rfl) (fun _ _ _ h => h) rfl ?_; clear hS a; intro a hS
      first | (refine Z_take0 (i := 4) hS rfl want_none (e_fa0 rfl ty_fo24_0) (listed' := [true, true, true, true, true, false, false, false, false, false, false, false, false, false, false, false, false]) rfl (by kernel_rfl) (by kernel_rfl) (by kernel_rfl) (fun _ _ _ h => h) rfl ?_; clear hS a; intro a hS) | (refine Z_take0 (i := 4) hS rfl want_none (e_faK rfl ty_fo24_0) (listed' := [true, true, true, true, true, false, false, false, false, false, false, false, false, false, false, false, false]) rfl (by kernel_rfl) (by kernel_rfl) (by kernel_rfl) (fun _ _ _ h => h) rfl ?_; clear hS a; intro a hS)
      refine Z_take (i := 5) hS rfl want_none (e_loadC rfl ty_sc9 (fun w hh => rowP_get (by repeat constructor) hx' w hh 0 (.string x.1) rfl)) (listed' := [true, true, true, true, true, true, false, false, false, false, false, false, false, false, false, false, false]) rfl (by kernel_rfl) (by kernel_rfl) (by kernel_rfl) (by kernel_rfl) (by kernel_rfl) (sub_cons (by repeat constructor) sub_nil) (fun _ _ _ h => h) rfl ?_; clear hS a; intro a hS
      refine Z_take0 (i := 6) hS rfl want_none (e_move rfl) (listed' := [true, true, true, true, true, true, true, false, false, false, false, false, false, false, false, false, false]) rfl (by kernel_rfl) (by kernel_rfl) (by kernel_rfl) (fun _ _ _ h => h) rfl ?_; clear hS a; intro a hS
      refine Z_take0 (i := 7) hS rfl want_none (e_move rfl) (listed' := [true, true, true, true, true, true, true, true, false, false, false, false, false, false, false, false, false]) rfl (by kernel_rfl) (by kernel_rfl) (by kernel_rfl) (fun _ _ _ h => h) rfl ?_; clear hS a; intro a hS
      refine Z_take0 (i := 8) hS rfl want_none (e_ixN rfl rfl ty_sl22 ty_sz24 (by omega)) (listed' := [true, true, true, true, true, true, true, true, true, false, false, false, false, false, false, false, false]) rfl (by kernel_rfl) (by kernel_rfl) (by kernel_rfl) (fun _ _ _ h => h) rfl ?_; clear hS a; intro a hS
      first | (refine Z_take0 (i := 9) hS rfl want_none (e_fa0 rfl ty_fo24_1) (listed' := [true, true, true, true, true, true, true, true, true, true, false, false, false, false, false, false, false]) rfl (by kernel_rfl) (by kernel_rfl) (by kernel_rfl) (fun _ _ _ h => h) rfl ?_; clear hS a; intro a hS) | (refine Z_take0 (i := 9) hS rfl want_none (e_faK rfl ty_fo24_1) (listed' := [true, true, true, true, true, true, true, true, true, true, false, false, false, false, false, false, false]) rfl (by kernel_rfl) (by kernel_rfl) (by kernel_rfl) (fun _ _ _ h => h) rfl ?_; clear hS a; intro a hS)
      refine Z_take (i := 10) hS rfl want_none (e_loadC rfl ty_sc3 (fun w hh => rowP_get (by repeat constructor) hx' w hh 1 (.int .i64 x.2.1) rfl)) (listed' := [true, true, true, true, true, true, true, true, true, true, true, false, false, false, false, false, false]) rfl (by kernel_rfl) (by kernel_rfl) (by kernel_rfl) (by kernel_rfl) (by kernel_rfl) (sub_cons (by repeat constructor) sub_nil) (fun _ _ _ h => h) rfl ?_; clear hS a; intro a hS
      refine Z_take0 (i := 11) hS rfl want_none (e_move rfl) (listed' := [true, true, true, true, true, true, true, true, true, true, true, true, false, false, false, false, false]) rfl (by kernel_rfl) (by kernel_rfl) (by kernel_rfl) (fun _ _ _ h => h) rfl ?_; clear hS a; intro a hS
      refine Z_take0 (i := 12) hS rfl want_none (e_move rfl) (listed' := [true, true, true, true, true, true, true, true, true, true, true, true, true, false, false, false, false]) rfl (by kernel_rfl) (by kernel_rfl) (by kernel_rfl) (fun _ _ _ h => h) rfl ?_; clear hS a; intro a hS
      refine Z_take0 (i := 13) hS rfl want_none (e_ixN rfl rfl ty_sl22 ty_sz24 (by omega)) (listed' := [true, true, true, true, true, true, true, true, true, true, true, true, true, true, false, false, false]) rfl (by kernel_rfl) (by kernel_rfl) (by kernel_rfl) (fun _ _ _ h => h) rfl ?_; clear hS a; intro a hS
      first | (refine Z_take0 (i := 14) hS rfl want_none (e_fa0 rfl ty_fo24_2) (listed' := [true, true, true, true, true, true, true, true, true, true, true, true, true, true, true, false, false]) rfl (by kernel_rfl) (by kernel_rfl) (by kernel_rfl) (fun _ _ _ h => h) rfl ?_; clear hS a; intro a hS) | (refine Z_take0 (i := 14) hS rfl want_none (e_faK rfl ty_fo24_2) (listed' := [true, true, true, true, true, true, true, true, true, true, true, true, true, true, true, false, false]) rfl (by kernel_rfl) (by kernel_rfl) (by kernel_rfl) (fun _ _ _ h => h) rfl ?_; clear hS a; intro a hS)
      refine Z_take (i := 15) hS rfl want_none (e_loadC rfl ty_sc3 (fun w hh => rowP_get (by repeat constructor) hx' w hh 2 (.int .i64 x.2.2) rfl)) (listed' := [true, true, true, true, true, true, true, true, true, true, true, true, true, true, true, true, false]) rfl (by kernel_rfl) (by kernel_rfl) (by kernel_rfl) (by kernel_rfl) (by kernel_rfl) (sub_cons (by repeat constructor) sub_nil) (fun _ _ _ h => h) rfl ?_; clear hS a; intro a hS
      refine Z_one (i := 16) rfl (want_none a hS.sl) (listed' := [true, true, true, true, true, true, true, true, true, true, true, true, true, true, true, true, true]) rfl (by kernel_rfl) (s_callM hS (.cons rfl (.cons rfl (.cons rfl (.cons rfl .nil)))) cf39 rfl (rSet_P b13 usd x.1 rows v x.2.1 x.2.2 hrl _ (hS.get (X := refA b13 usd rows v true) (by repeat constructor))) (fun x => (by repeat constructor)) rfl ?_); clear hS a; (try clear w); intro x57 a w hS
      refine Z_and hS (sub_cons (by repeat constructor) sub_nil) ?_
      refine Z_done (by kernel_rfl) ?_
      refine n_block ?_
      refine n_then ?_
      refine c_region ?_
      refine L_op (s_e hS (e_move rfl) rfl ?_); clear hS a; intro a hS
      first | (refine L_op (s_e hS (e_binN rfl rfl rfl (by omega)) rfl ?_); clear hS a; intro a hS) | (refine L_op (s_e hS (e_bin rfl rfl rfl) rfl ?_); clear hS a; intro a hS)
      refine L_op (s_e hS (e_assign rfl) rfl ?_); clear hS a; intro a hS
      refine L_nil ?_
      have ht : l.take (k + 1) = l.take k ++ [x] := by rw [List.take_add_one, hx]; rfl
      refine ⟨(k + 1, x40.1, x57.1), by simp only; omega, hS.slots (by repeat (first | exact trivial | refine ⟨rfl, ?_⟩)), by simp only; omega, ?_, ?_, step_len x57.2 hrl⟩
      · refine x40.2.trans ?_
        unfold madeF; simp only; rw [ht, List.foldl_append]
        show _ = stepS usd (madeF usd (l.take k)) x
        rw [← hm]; rfl
      · simp only; rw [ht]; exact RefsOf.snoc hr x57.2
    ·
      refine wp_exit ?_
      refine x_then (x_then (x_hit ?_))
      refine n_then ?_
      refine c_seq ?_
      refine c_region ?_
      refine L_op (s_e hS (e_move rfl) rfl ?_); clear hS a; intro a hS
      refine L_op (s_e hS (e_move rfl) rfl ?_); clear hS a; intro a hS
      refine L_op (s_e hS (e_assign rfl) rfl ?_); clear hS a; intro a hS
      refine L_op (s_e hS (e_assign rfl) rfl ?_); clear hS a; intro a hS
      refine L_nil ?_
      refine n_then ?_
      refine wp_ret ?_
      refine c_retN hS Try.results17 (.cons (.tmp rfl) (.cons (.tmp rfl) .nil)) rfl ?_
      obtain rfl : k = l.length := by omega
      rw [List.take_length] at hm hr
      refine ⟨⟨⟨x9.1, x9.2, b13, es, n, rows, v⟩, hm, hr⟩, rfl, hS.chg, both_ok (y := ⟨x9.1, x9.2, b13, es, n, rows, v⟩) (hS.ok (ratesA x9.1 x9.2 usd es n true) (by repeat constructor)) (hS.ok (refA b13 usd rows v true) (by repeat constructor)), fun b hb => ?_⟩
      rcases hb with hb | hb
      · exact (hS.mine (ratesA x9.1 x9.2 usd es n true) (by repeat constructor) rfl b hb).resolve_right (fun h => h)
      · exact (hS.mine (refA b13 usd rows v true) (by repeat constructor) rfl b hb).resolve_right (fun h => h)
end Go.Proofs.Ytheofhegdjjfgaa

namespace Go.Proofs.Ytheofhegdjjfgaa.Open
set_option maxRecDepth 100000
open Go.ChangeShapes Go.WideShapes Go.Deep
section
variable {H : Type} {enc : TypeId × Value → H} {P : Program} {w : World} {base : Nat} {spare : Nat → Bool} {held : Bool}
theorem open_slice_fields {t e : TypeId} {fs : Array Field} {fuel : Nat} {cs : List Value} {x : DataW H × List MemPlace} (ht : P.underlying t = some (.slice e)) (he : P.underlying e = some (.struct fs))
    (hone : oneCellFields P fs = true) (hC : P.cellsOf e = fs.size) (h : DataW.trod enc P w base spare held fuel t cs = some x) :
    (cs = [.slice none 0 0] ∧ x = (.nil, [])) ∨
    ∃ (a : Addr) (len cap m : Nat) (D : Nat → DataW H) (Pl : Nat → List MemPlace), cs = [.slice (some a) len cap] ∧ base ≤ a.block ∧ len ≤ cap ∧ cap ≤ maxLen ∧ m = (if spare a.block then cap else len) ∧
      x = (.slice ((List.range len).map D) ((List.range (m - len)).map fun j => D (len + j)), MemPlace.row a (m * fs.size) ++ (List.range m).flatMap Pl) ∧
      ∀ i, i < m → ∃ (ys : List (DataW H × List MemPlace)) (n : Nat), D i = .agg (ys.map (·.1)) ∧ Pl i = ys.flatMap (·.2) ∧ ys.length = fs.size ∧
        ∀ (j : Nat) (f : Field), fs[j]? = some f → ∃ (v : Value) (y : DataW H × List MemPlace), w.cell? (a.add (i * fs.size + j)) = some v ∧ ys[j]? = some y ∧ DataW.trod enc P w base spare held n f.type [v] = some y := by
  rcases open_slice ht h with h0 | ⟨a, len, cap, m, n, D, Pl, hcs, hb, hl, hm, hmm, hx, hi⟩
  · exact .inl h0
  · refine .inr ⟨a, len, cap, m, D, Pl, hcs, hb, hl, hm, hmm, by rw [hC] at hx; exact hx, fun i him => ?_⟩
    obtain ⟨cs', hc, ht'⟩ := hi i him
    rw [hC] at hc
    obtain ⟨ys, n', hn', hy, hlen, hyl, hf⟩ := DataW.trod_struct he ht'
    obtain ⟨_, hcl, hat⟩ := World.cells?_some hc
    simp only [Prod.mk.injEq] at hy
    refine ⟨ys, n', hy.1, hy.2, hyl, fun j f hj => ?_⟩
    obtain ⟨ho, hk⟩ := hone_of hone j f hj
    have hjl : j < fs.size := (Array.getElem?_eq_some_iff.1 hj).1
    have hcell := hat j hjl
    have hv : cs'[j]? = some (cs'[j]'(by omega)) := List.getElem?_eq_getElem (by omega)
    have h1 := hf j f hj
    rw [ho, hk] at h1
    have hone' : (cs'.drop j).take 1 = [cs'[j]'(by omega)] := by
      rw [List.drop_eq_getElem_cons (by omega)]
      rfl
    rw [hone'] at h1
    have hys : ys[j]? = some (ys[j]'(by omega)) := List.getElem?_eq_getElem (by omega)
    refine ⟨_, _, ?_, hys, h1.trans hys⟩
    rw [← Go.Deep.add_add, hcell, hv]
end

section
variable {H : Type} {enc : TypeId × Value → H}
theorem weights_all {P : Program} {e : TypeId} {d : DataW H} {n : Nat} (hn : n ∈ d.weights P e) : ∀ {l : List (DataW H)}, d ∈ l → n ∈ DataW.weightsAll P e l
  | x :: r, h => by
    simp only [DataW.weightsAll, List.mem_append]
    rcases List.mem_cons.1 h with rfl | h
    · exact .inl hn
    · exact .inr (weights_all hn h)

theorem shape_lt {w : World} {b : Nat} {x : TypeId × Nat} (h : w.shape? b = some x) : b < w.heap.size := by
  unfold World.shape? at h
  by_cases hb : b < w.heap.size
  · exact hb
  · rw [Array.getElem?_eq_none (by omega)] at h; cases h

theorem add_spot {a : Addr} (h : a.spot = none) (n : Nat) : a.add n = ⟨a.block, a.off + n, none⟩ := by
  unfold Addr.add
  split
  · next h0 => subst h0; cases a; simp_all
  · rfl


theorem bytesSet : Try.prog.bytesOf 24 = 32 := by kernel_rfl
/-- a slice's outer form, as it came in. -/
theorem slice_has {W : World} {base : Nat} {t e : TypeId} {a : Addr} {len cap : Nat} (hu : Try.prog.underlying t = some (.slice e)) (h : Value.okWide Try.prog W .any base t (.slice (some a) len cap)) : a.spot = none ∧ a.block < W.heap.size := by
  unfold Value.okWide at h
  rw [hu] at h
  simp only at h
  unfold Cell.okWide at h
  rw [hu] at h
  simp only at h
  unfold Cell.ok at h
  rw [hu] at h
  simp only at h
  obtain ⟨_, _, _, hs, row, cells, hsh, _⟩ := h
  exact ⟨hs, shape_lt hsh⟩

theorem open_sets {W : World} {base : Nat} {v : Value} {d : DataW H} {pl : List MemPlace} (hval : Value.okWide Try.prog W .any base 22 v) (h : DataW.Trod enc Try.prog W 0 (fun _ => true) true 22 v d pl) (hw : ∀ n ∈ d.weights Try.prog 22, n ≤ reachBytes) :
    ∃ (p : Option (Nat × Nat)) (l : List RR) (c : Nat), v = sliceV p l.length c ∧ (p = none → c = 0) ∧ (∀ x ∈ l, rrFits x) ∧ l.length ≤ 4611686018427387904 ∧ RowP p 3 (l.map encR) W ∧ ∀ r, p = some r → r.1 < W.heap.size := by
  obtain ⟨fuel, hf⟩ := h
  have hu := Try.underlying22
  have hsl : ∃ a len cap, v = .slice a len cap := okWide_slice hu hval
  obtain ⟨a0, len0, cap0, rfl⟩ := hsl
  rcases open_slice_fields hu Try.underlying24 (by kernel_rfl) (by kernel_rfl) hf with ⟨hc, _⟩ | ⟨a, len, cap, m, D, Pl, hc, _, hl, hm, hmm, hx, hi⟩
  · simp only [Value.cells, List.cons.injEq, and_true] at hc
    rw [hc]
    exact ⟨none, [], 0, rfl, fun _ => rfl, by simp, by simp, rfl, by simp⟩
  · simp only [Value.cells, List.cons.injEq, and_true] at hc
    rw [hc] at hval ⊢
    obtain ⟨hsp, hlt⟩ := slice_has hu hval
    simp only [Prod.mk.injEq] at hx
    simp only [if_true] at hmm
    rw [hmm] at hx hi
    have each : ∀ i, i < len → ∃ x : RR, rrFits x ∧ ∀ j u, (encR x)[j]? = some u → W.cell? (a.add (i * 3 + j)) = some u := by
      intro i hil
      obtain ⟨ys, n, hD, _, hys, hfl⟩ := hi i (by omega)
      obtain ⟨v0, y0, c0, g0, t0⟩ := hfl 0 _ rfl
      obtain ⟨v1, y1, c1, g1, t1⟩ := hfl 1 _ rfl
      obtain ⟨v2, y2, c2, g2, t2⟩ := hfl 2 _ rfl
      obtain ⟨s, e0, z0, w0⟩ := DataW.trod_string Try.underlying9 t0
      obtain ⟨n1, e1, z1, w1⟩ := DataW.trod_int Try.underlying3 t1
      obtain ⟨n2, e2, z2, w2⟩ := DataW.trod_int Try.underlying3 t2
      simp only [List.cons.injEq, and_true] at e0 e1 e2
      subst e0 e1 e2
      have hs : s.size ≤ reachBytes := by
        refine hw _ ?_
        rw [hx.1]
        have h1 : s.size ∈ (D i).weights Try.prog 24 := by
          rw [hD]
          simp only [DataW.weights, Try.underlying24]
          refine DataW.weights_mem_each (j := 0) rfl (d := .lit (.string s.data.toList)) (by rw [List.getElem?_map, g0, z0]; rfl) _ ?_
          simp only [DataW.weights, List.mem_singleton]
          rfl
        have h2 := weights_all h1 (l := (List.range len).map D) (List.mem_map.2 ⟨i, List.mem_range.2 hil, rfl⟩)
        simp only [DataW.weights, hu, List.mem_cons, List.mem_append]
        exact .inr (.inl h2)
      have b1 := bounds_i64 w1
      have b2 := bounds_i64 w2
      refine ⟨⟨s, n1, n2⟩, ⟨Nat.le_trans hs (by decide), b1, b2⟩, fun j u hj => ?_⟩
      match j, hj with
      | 0, hj => cases hj; exact c0
      | 1, hj => cases hj; exact c1
      | 2, hj => cases hj; exact c2
      | (k + 3), hj => simp [encR] at hj
    have hlen : (len + (cap - len)) * 32 ≤ reachBytes := by
      have := hw ((len + (cap - len)) * Try.prog.bytesOf 24) (by rw [hx.1]; simp [DataW.weights, hu])
      rwa [bytesSet] at this
    simp only [reachBytes] at hlen
    haveI : Inhabited RR := ⟨⟨ByteArray.empty, 0, 0⟩⟩
    obtain ⟨f, hfn⟩ := choose_lt each
    refine ⟨some (a.block, a.off), (List.range len).map f, cap, ?_, by simp, ?_, by simp only [List.length_map, List.length_range]; omega, ?_, ?_⟩
    · unfold sliceV
      cases a
      simp only at hsp
      subst hsp
      simp
    · intro x hx
      obtain ⟨i, hi', rfl⟩ := List.mem_map.1 hx
      exact (hfn i (List.mem_range.1 hi')).1
    · intro i x hx j u hj
      simp only [List.getElem?_map, Option.map_eq_some_iff] at hx
      obtain ⟨y, ⟨k, hk, rfl⟩, rfl⟩ := hx
      obtain ⟨hk1, hk2⟩ := List.getElem?_eq_some_iff.1 hk
      simp only [List.length_range] at hk1
      simp only [List.getElem_range] at hk2
      subst hk2
      have := (hfn i hk1).2 j u hj
      rw [add_spot hsp] at this
      rw [← this]
      simp only [Nat.add_assoc]
    · rintro r hr
      cases hr
      exact hlt

theorem open_set {W : World} {base : Nat} {v : Value} {d : DataW H} {pl : List MemPlace} (hval : Value.okWide Try.prog W .any base 24 v) (h : DataW.Trod enc Try.prog W 0 (fun _ => true) true 24 v d pl) (hw : ∀ n ∈ d.weights Try.prog 24, n ≤ reachBytes) :
    ∃ x : RR, v = .agg (encR x).toArray ∧ rrFits x := by
  obtain ⟨v0, v1, v2, y0, y1, y2, n, rfl, hd, _, t0, t1, t2⟩ := Go.Joins.open_agg3 Try.underlying24 (by kernel_rfl) (by kernel_rfl) hval h
  obtain ⟨s, e0, z0, w0⟩ := DataW.trod_string Try.underlying9 t0
  obtain ⟨n1, e1, z1, w1⟩ := DataW.trod_int Try.underlying3 t1
  obtain ⟨n2, e2, z2, w2⟩ := DataW.trod_int Try.underlying3 t2
  simp only [List.cons.injEq, and_true] at e0 e1 e2
  subst e0 e1 e2
  have hs : s.size ≤ reachBytes := by
    refine hw _ ?_
    rw [hd]
    simp only [DataW.weights, Try.underlying24]
    refine DataW.weights_mem_each (j := 0) rfl (d := .lit (.string s.data.toList)) (by rw [z0]; rfl) _ ?_
    simp only [DataW.weights, List.mem_singleton]
    rfl
  exact ⟨⟨s, n1, n2⟩, rfl, Nat.le_trans hs (by decide), bounds_i64 w1, bounds_i64 w2⟩
end
end Go.Proofs.Ytheofhegdjjfgaa.Open

namespace Go.Proofs.Ytheofhegdjjfgaa.Open
set_option maxRecDepth 100000
open Go.ChangeShapes Go.WideShapes Go.Deep
section
variable {H : Type} {enc : TypeId × Value → H}
theorem bytesPst : Try.prog.bytesOf 63 = 32 := by kernel_rfl
theorem bytesLO : Try.prog.bytesOf 72 = 104 := by kernel_rfl
theorem one3 : Try.prog.cellsOf 3 = 1 := by kernel_rfl
theorem one9 : Try.prog.cellsOf 9 = 1 := by kernel_rfl
theorem one4 : Try.prog.cellsOf 4 = 1 := by kernel_rfl
theorem one56 : Try.prog.cellsOf 56 = 1 := by kernel_rfl
theorem four68 : Try.prog.cellsOf 68 = 4 := by kernel_rfl
theorem eight72 : Try.prog.cellsOf 72 = 8 := by kernel_rfl
theorem list8 {α : Type} {l : List α} (h : l.length = 8) : ∃ a b c d e f g i, l = [a, b, c, d, e, f, g, i] := by
  match l, h with
  | [a, b, c, d, e, f, g, i], _ => exact ⟨a, b, c, d, e, f, g, i, rfl⟩

theorem open_psts_raw {W : World} {n0 : Nat} {v : Value} {y : DataW H × List MemPlace} (h : DataW.trod enc Try.prog W 0 (fun _ => true) true n0 56 [v] = some y) (hw : ∀ n ∈ y.1.weights Try.prog 56, n ≤ reachBytes) :
    ∃ l : List Pst, PsAt v l W ∧ (∀ x ∈ l, x.fits) ∧ l.length ≤ 4611686018427387904 := by
  have hu := Try.underlying56
  rcases open_slice_fields hu Try.underlying63 (by kernel_rfl) (by kernel_rfl) h with ⟨hc, _⟩ | ⟨a, len, cap, m, D, Pl, hc, _, hl, hm, hmm, hx, hi⟩
  · simp only [List.cons.injEq, and_true] at hc
    subst hc
    exact ⟨[], .inl ⟨rfl, _, _, rfl⟩, by simp, by simp⟩
  · simp only [List.cons.injEq, and_true] at hc
    subst hc
    have hx : y.1 = _ := congrArg (·.1) hx
    simp only at hx
    simp only [if_true] at hmm
    rw [hmm] at hx hi
    have each : ∀ i, i < len → ∃ x : Pst, x.fits ∧ ∀ j u, (encP x)[j]? = some u → W.cell? (a.add (i * 3 + j)) = some u := by
      intro i hil
      obtain ⟨ys, n, hD, _, hys, hfl⟩ := hi i (by omega)
      obtain ⟨v0, y0, c0, g0, t0⟩ := hfl 0 _ rfl
      obtain ⟨v1, y1, c1, g1, t1⟩ := hfl 1 _ rfl
      obtain ⟨v2, y2, c2, g2, t2⟩ := hfl 2 _ rfl
      obtain ⟨s, e0, z0, w0⟩ := DataW.trod_string Try.underlying9 t0
      obtain ⟨n1, e1, z1, w1⟩ := DataW.trod_int Try.underlying3 t1
      obtain ⟨n2, e2, z2, w2⟩ := DataW.trod_int Try.underlying3 t2
      simp only [List.cons.injEq, and_true] at e0 e1 e2
      subst e0 e1 e2
      have hs : s.size ≤ reachBytes := by
        refine hw _ ?_
        rw [hx]
        have h1 : s.size ∈ (D i).weights Try.prog 63 := by
          rw [hD]
          simp only [DataW.weights, Try.underlying63]
          refine DataW.weights_mem_each (j := 0) rfl (d := .lit (.string s.data.toList)) (by rw [List.getElem?_map, g0, z0]; rfl) _ ?_
          simp only [DataW.weights, List.mem_singleton]
          rfl
        have h2 := weights_all h1 (l := (List.range len).map D) (List.mem_map.2 ⟨i, List.mem_range.2 hil, rfl⟩)
        simp only [DataW.weights, hu, List.mem_cons, List.mem_append]
        exact .inr (.inl h2)
      have b1 := bounds_i64 w1
      have b2 := bounds_i64 w2
      refine ⟨⟨s, n1, n2⟩, ⟨Nat.le_trans hs (by decide), b1, b2⟩, fun j u hj => ?_⟩
      match j, hj with
      | 0, hj => cases hj; exact c0
      | 1, hj => cases hj; exact c1
      | 2, hj => cases hj; exact c2
      | (k + 3), hj => simp [encP] at hj
    have hlen : (len + (cap - len)) * 32 ≤ reachBytes := by
      have := hw ((len + (cap - len)) * Try.prog.bytesOf 63) (by rw [hx]; simp [DataW.weights, hu])
      rwa [bytesPst] at this
    simp only [reachBytes] at hlen
    haveI : Inhabited Pst := ⟨⟨ByteArray.empty, 0, 0⟩⟩
    obtain ⟨f, hfn⟩ := choose_lt each
    refine ⟨(List.range len).map f, ?_, ?_, by simp only [List.length_map, List.length_range]; omega⟩
    · by_cases h0 : len = 0
      · subst h0; exact .inl ⟨rfl, _, _, rfl⟩
      · have hc0 := (hfn 0 (by omega)).2 0 _ rfl
        obtain ⟨_, _, hsh, _, hsp⟩ := World.shape?_of_cell? hc0
        have hsp : a.spot = none := by
          have e : a.add (0 * 3 + 0) = a := by unfold Addr.add; rw [if_pos (by omega)]
          rw [e] at hsp; exact hsp
        have hlt : a.block < W.heap.size := by
          have e : a.add (0 * 3 + 0) = a := by unfold Addr.add; rw [if_pos (by omega)]
          rw [e] at hsh; exact shape_lt hsh
        refine .inr ⟨a.block, a.off, cap, ?_, ?_, ?_, hlt⟩
        · intro e
          have := congrArg List.length e
          simp at this; omega
        · unfold sliceV
          cases a
          simp only at hsp
          subst hsp
          simp
        · intro i x hx j u hj
          simp only [List.getElem?_map, Option.map_eq_some_iff] at hx
          obtain ⟨y, ⟨k, hk, rfl⟩, rfl⟩ := hx
          obtain ⟨hk1, hk2⟩ := List.getElem?_eq_some_iff.1 hk
          simp only [List.length_range] at hk1
          simp only [List.getElem_range] at hk2
          subst hk2
          have := (hfn i hk1).2 j u hj
          rw [add_spot hsp] at this
          rw [← this]
          simp only [Nat.add_assoc]
    · intro x hx
      obtain ⟨i, hi', rfl⟩ := List.mem_map.1 hx
      exact (hfn i (List.mem_range.1 hi')).1

theorem open_psts {W : World} {base : Nat} {v : Value} {d : DataW H} {pl : List MemPlace} (hval : Value.okWide Try.prog W .any base 56 v) (h : DataW.Trod enc Try.prog W 0 (fun _ => true) true 56 v d pl) (hw : ∀ n ∈ d.weights Try.prog 56, n ≤ reachBytes) :
    ∃ (p : Option (Nat × Nat)) (l : List Pst) (c : Nat), v = sliceV p l.length c ∧ (∀ x ∈ l, x.fits) ∧ l.length ≤ 4611686018427387904 ∧ RowP p 3 (l.map encP) W ∧ ∀ r, p = some r → r.1 < W.heap.size := by
  obtain ⟨fuel, hf⟩ := h
  have hu := Try.underlying56
  obtain ⟨a, len, cap, rfl⟩ : ∃ a len cap, v = .slice a len cap := okWide_slice hu hval
  obtain ⟨l, hp, hfit, hl⟩ := open_psts_raw hf hw
  rcases hp with ⟨rfl, a', c', e⟩ | ⟨b, off, c, hne, e, hr, hb⟩
  · cases a with
    | none =>
      injection e with e1 e2 e3; subst e2
      exact ⟨none, [], cap, rfl, by simp, by simp, rfl, by simp⟩
    | some ad =>
      obtain ⟨hsp, hlt⟩ := slice_has hu hval
      injection e with e1 e2 e3; subst e2
      refine ⟨some (ad.block, ad.off), [], cap, ?_, by simp, by simp, fun i x hx => (by simp at hx), fun r hr => by cases hr; exact hlt⟩
      unfold sliceV
      cases ad
      simp only at hsp
      subst hsp
      rfl
  · exact ⟨some (b, off), l, c, e, hfit, hl, hr, fun r hr => by cases hr; exact hb⟩

theorem open_los {W : World} {base : Nat} {v : Value} {d : DataW H} {pl : List MemPlace} (hval : Value.okWide Try.prog W .any base 50 v) (h : DataW.Trod enc Try.prog W 0 (fun _ => true) true 50 v d pl) (hw : ∀ n ∈ d.weights Try.prog 50, n ≤ reachBytes) :
    ∃ (p : Option (Nat × Nat)) (l : List LO) (c : Nat), v = sliceV p l.length c ∧ (∀ x ∈ l, x.fits) ∧ l.length ≤ 4611686018427387904 ∧ losφ p l W ∧ ∀ r, p = some r → r.1 < W.heap.size := by
  obtain ⟨fuel, hf⟩ := h
  have hu := Try.underlying50
  have hsl : ∃ a len cap, v = .slice a len cap := okWide_slice hu hval
  obtain ⟨a0, len0, cap0, rfl⟩ := hsl
  rcases open_slice hu hf with ⟨hc, _⟩ | ⟨a, len, cap, m, n, D, Pl, hc, _, hl, hm, hmm, hx, hi⟩
  · simp only [Value.cells, List.cons.injEq, and_true] at hc
    rw [hc]
    exact ⟨none, [], 0, rfl, by simp, by simp, ⟨rfl, by simp⟩, by simp⟩
  · simp only [Value.cells, List.cons.injEq, and_true] at hc
    rw [hc] at hval ⊢
    obtain ⟨hsp, hlt⟩ := slice_has hu hval
    have hx : d = _ := congrArg (·.1) hx
    simp only at hx
    simp only [if_true] at hmm
    rw [hmm] at hx hi
    have each : ∀ i, i < len → ∃ x : LO, x.fits ∧ PsAt x.pv x.ps W ∧ ∀ j u, (encLO x)[j]? = some u → W.cell? (a.add (i * 8 + j)) = some u := by
      intro i hil
      obtain ⟨cs', hcs, htr⟩ := hi i (by omega)
      rw [eight72] at hcs
      obtain ⟨_, hcl, hat⟩ := World.cells?_some hcs
      obtain ⟨v0, v1, v2, v3, v4, v5, v6, v7, rfl⟩ := list8 hcl
      obtain ⟨ys, n', hn', hD, _, hys, hfl⟩ := DataW.trod_struct Try.underlying72 htr
      have hD : D i = .agg (ys.map (·.1)) := congrArg (·.1) hD
      have hys : ys.length = 5 := hys
      have t0 := hfl 0 ⟨"Kind", 3, 0, false, "", "", 0⟩ rfl
      simp only at t0
      have t1 := hfl 1 ⟨"At", 3, 1, false, "", "", 8⟩ rfl
      simp only at t1
      have t2 := hfl 2 ⟨"A", 68, 2, false, "", "", 16⟩ rfl
      simp only at t2
      have t3 := hfl 3 ⟨"Memo", 9, 6, false, "", "", 64⟩ rfl
      simp only at t3
      have t4 := hfl 4 ⟨"P", 56, 7, false, "", "", 80⟩ rfl
      simp only at t4
      rw [show Try.prog.cellsOf 3 = 1 from one3] at t0
      rw [show Try.prog.cellsOf 3 = 1 from one3] at t1
      rw [show Try.prog.cellsOf 68 = 4 from four68] at t2
      rw [show Try.prog.cellsOf 9 = 1 from one9] at t3
      rw [show Try.prog.cellsOf 56 = 1 from one56] at t4
      have g0 : ys[0]? = some ys[0] := List.getElem?_eq_getElem (by omega)
      have g1 : ys[1]? = some ys[1] := List.getElem?_eq_getElem (by omega)
      have g2 : ys[2]? = some ys[2] := List.getElem?_eq_getElem (by omega)
      have g3 : ys[3]? = some ys[3] := List.getElem?_eq_getElem (by omega)
      have g4 : ys[4]? = some ys[4] := List.getElem?_eq_getElem (by omega)
      rw [g0] at t0
      rw [g1] at t1
      rw [g2] at t2
      rw [g3] at t3
      rw [g4] at t4
      change DataW.trod enc Try.prog W 0 (fun _ => true) true n' 3 [v0] = _ at t0
      change DataW.trod enc Try.prog W 0 (fun _ => true) true n' 3 [v1] = _ at t1
      change DataW.trod enc Try.prog W 0 (fun _ => true) true n' 68 [v2, v3, v4, v5] = _ at t2
      change DataW.trod enc Try.prog W 0 (fun _ => true) true n' 9 [v6] = _ at t3
      change DataW.trod enc Try.prog W 0 (fun _ => true) true n' 56 [v7] = _ at t4
      obtain ⟨zs, n2, hn2, hA, _, hzs, hfa⟩ := DataW.trod_struct Try.underlying68 t2
      have hA : ys[2].1 = .agg (zs.map (·.1)) := congrArg (·.1) hA
      have hzs : zs.length = 4 := hzs
      have u0 := hfa 0 ⟨"Code", 9, 0, false, "", "", 0⟩ rfl
      simp only at u0
      have u1 := hfa 1 ⟨"Cur", 9, 1, false, "", "", 16⟩ rfl
      simp only at u1
      have u2 := hfa 2 ⟨"Kind", 3, 2, false, "", "", 32⟩ rfl
      simp only at u2
      have u3 := hfa 3 ⟨"Monetary", 4, 3, false, "", "", 40⟩ rfl
      simp only at u3
      rw [show Try.prog.cellsOf 9 = 1 from one9] at u0
      rw [show Try.prog.cellsOf 9 = 1 from one9] at u1
      rw [show Try.prog.cellsOf 3 = 1 from one3] at u2
      rw [show Try.prog.cellsOf 4 = 1 from one4] at u3
      have k0 : zs[0]? = some zs[0] := List.getElem?_eq_getElem (by omega)
      have k1 : zs[1]? = some zs[1] := List.getElem?_eq_getElem (by omega)
      have k2 : zs[2]? = some zs[2] := List.getElem?_eq_getElem (by omega)
      have k3 : zs[3]? = some zs[3] := List.getElem?_eq_getElem (by omega)
      rw [k0] at u0
      rw [k1] at u1
      rw [k2] at u2
      rw [k3] at u3
      change DataW.trod enc Try.prog W 0 (fun _ => true) true n2 9 [v2] = _ at u0
      change DataW.trod enc Try.prog W 0 (fun _ => true) true n2 9 [v3] = _ at u1
      change DataW.trod enc Try.prog W 0 (fun _ => true) true n2 3 [v4] = _ at u2
      change DataW.trod enc Try.prog W 0 (fun _ => true) true n2 4 [v5] = _ at u3
      obtain ⟨n0, e0, z0, w0⟩ := DataW.trod_int Try.underlying3 t0
      obtain ⟨n1, e1, z1, w1⟩ := DataW.trod_int Try.underlying3 t1
      obtain ⟨s6, e6, z6, w6⟩ := DataW.trod_string Try.underlying9 t3
      obtain ⟨s2, e2, z2, w2⟩ := DataW.trod_string Try.underlying9 u0
      obtain ⟨s3, e3, z3, w3⟩ := DataW.trod_string Try.underlying9 u1
      obtain ⟨n4, e4, z4, w4⟩ := DataW.trod_int Try.underlying3 u2
      obtain ⟨b5, e5, z5⟩ := DataW.trod_bool Try.underlying4 u3
      simp only [List.cons.injEq, and_true] at e0 e1 e2 e3 e4 e5 e6
      subst e0 e1 e2 e3 e4 e5 e6
      have lift : ∀ (k : Nat), k ∈ (D i).weights Try.prog 72 → k ≤ reachBytes := fun k h1 => by
        refine hw _ ?_
        rw [hx]
        have h2 := weights_all h1 (l := (List.range len).map D) (List.mem_map.2 ⟨i, List.mem_range.2 hil, rfl⟩)
        simp only [DataW.weights, hu, List.mem_cons, List.mem_append]
        exact .inr (.inl h2)
      have liftA : ∀ (k : Nat), k ∈ (ys[2].1).weights Try.prog 68 → k ≤ reachBytes := fun k h1 => lift k (by
        rw [hD]
        simp only [DataW.weights, Try.underlying72]
        exact DataW.weights_mem_each (j := 2) rfl (d := ys[2].1) (by rw [List.getElem?_map, g2]; rfl) _ h1)
      have hs6 : s6.size ≤ reachBytes := lift _ (by
        rw [hD]
        simp only [DataW.weights, Try.underlying72]
        refine DataW.weights_mem_each (j := 3) rfl (d := .lit (.string s6.data.toList)) (by rw [List.getElem?_map, g3, z6]; rfl) _ ?_
        simp only [DataW.weights, List.mem_singleton]
        rfl)
      have hs2 : s2.size ≤ reachBytes := liftA _ (by
        rw [hA]
        simp only [DataW.weights, Try.underlying68]
        refine DataW.weights_mem_each (j := 0) rfl (d := .lit (.string s2.data.toList)) (by rw [List.getElem?_map, k0, z2]; rfl) _ ?_
        simp only [DataW.weights, List.mem_singleton]
        rfl)
      have hs3 : s3.size ≤ reachBytes := liftA _ (by
        rw [hA]
        simp only [DataW.weights, Try.underlying68]
        refine DataW.weights_mem_each (j := 1) rfl (d := .lit (.string s3.data.toList)) (by rw [List.getElem?_map, k1, z3]; rfl) _ ?_
        simp only [DataW.weights, List.mem_singleton]
        rfl)
      obtain ⟨l7, a7, b7, m7⟩ := open_psts_raw t4 (fun k hk => lift k (by
        rw [hD]
        simp only [DataW.weights, Try.underlying72]
        exact DataW.weights_mem_each (j := 4) rfl (d := ys[4].1) (by rw [List.getElem?_map, g4]; rfl) _ hk))
      refine ⟨⟨n0, n1, ⟨s2, s3, n4, b5⟩, s6, l7, v7⟩, ⟨bounds_i64 w1, Nat.le_trans hs2 (by decide), Nat.le_trans hs3 (by decide), Nat.le_trans hs6 (by decide), ⟨b7, m7⟩⟩, a7, fun j u hj => ?_⟩
      have hjl : j < 8 := (List.getElem?_eq_some_iff.1 hj).1
      rw [← add_add, hat j hjl]
      exact hj
    have hlen : (len + (cap - len)) * 104 ≤ reachBytes := by
      have := hw ((len + (cap - len)) * Try.prog.bytesOf 72) (by rw [hx]; simp [DataW.weights, hu])
      rwa [bytesLO] at this
    simp only [reachBytes] at hlen
    haveI : Inhabited LO := ⟨⟨0, 0, noAcc, ByteArray.empty, [], .nilFunc⟩⟩
    obtain ⟨f, hfn⟩ := choose_lt each
    refine ⟨some (a.block, a.off), (List.range len).map f, cap, ?_, ?_, by simp only [List.length_map, List.length_range]; omega, ⟨?_, ?_⟩, ?_⟩
    · unfold sliceV
      cases a
      simp only at hsp
      subst hsp
      simp
    · intro x hx
      obtain ⟨i, hi', rfl⟩ := List.mem_map.1 hx
      exact (hfn i (List.mem_range.1 hi')).1
    · intro i x hx j u hj
      simp only [List.getElem?_map, Option.map_eq_some_iff] at hx
      obtain ⟨y, ⟨k, hk, rfl⟩, rfl⟩ := hx
      obtain ⟨hk1, hk2⟩ := List.getElem?_eq_some_iff.1 hk
      simp only [List.length_range] at hk1
      simp only [List.getElem_range] at hk2
      subst hk2
      have := (hfn i hk1).2.2 j u hj
      rw [add_spot hsp] at this
      rw [← this]
      simp only [Nat.add_assoc]
    · intro x hx
      obtain ⟨i, hi', rfl⟩ := List.mem_map.1 hx
      exact (hfn i (List.mem_range.1 hi')).2.1
    · rintro r hr
      cases hr
      exact hlt
end
end Go.Proofs.Ytheofhegdjjfgaa.Open

namespace Go.Proofs.Ytheofhegdjjfgaa.ledgerTimes
open Go.ChangeShapes Go.WideShapes Go.ChangeAt Go.RowKit Go.Joins
open Go.ChangeMaps (open_string shut_string)

theorem own : ownKnob Try.prog.godebug = none := by kernel_rfl
theorem laidOut : laidOutB Try.prog = true := by kernel_rfl

set_option maxRecDepth 100000 in
theorem lifted (os : Os) (started : os.Started) (H : Type) (enc : TypeId × Value → H) :
    ReturnsInHanded {} Try.checked os 6 .any (Rows.ledgerTimesSpec.pre6 enc Try.prog Try.f6 Rows.ledgerTimesRow.domain false) (Rows.ledgerTimesSpec.post enc Try.prog Try.f6 false true false false) := by
  refine returnsInHanded_of_change_sized (C := Try.checked) own started (by kernel_rfl) Try.func6
    (ChangeSpec.witness6 (enc := enc) (C := Try.checked) false ⟨#[], #[.slice none 0 0, .string ByteArray.empty, .int .i64 0, .int .i64 0, .int .i64 0], []⟩ 8 (by kernel_rfl) (by kernel_rfl) (by kernel_rfl) (by kernel_rfl)) ?_
  intro W base args ds gs before hval0 hW hcnd hsz0 _
  have hval : ∀ (j : Nat) t v, Try.f6.params[j]? = some t → args[j]? = some v → Value.okWide Try.prog W .any base t v := hval0
  have hW' := hW
  obtain ⟨p, q, hA0, hV, rfl, hfz, hnd⟩ := hW
  have hsz : (DataW.weightsEach Try.prog (Try.f6.params.toList ++ Rows.ledgerTimesSpec.plain.varTypes Try.prog) (ds ++ gs)).all (· ≤ reachBytes) = true := hsz0
  have hA : DataW.TrodAll enc Try.prog W 0 (fun _ => true) true Try.f6.params.toList args.toList ds p := hA0
  rw [Try.params6] at hA hval hsz
  obtain ⟨v0, vs0, d0, ds0, p0, q0, hargs, rfl, rfl, h0, r0⟩ := trodAll_cons hA
  obtain ⟨v1, vs1, d1, ds1, p1, q1, rfl, rfl, rfl, h1, r1⟩ := trodAll_cons r0
  obtain ⟨v2, vs2, d2, ds2, p2, q2, rfl, rfl, rfl, h2, r2⟩ := trodAll_cons r1
  obtain ⟨v3, vs3, d3, ds3, p3, q3, rfl, rfl, rfl, h3, r3⟩ := trodAll_cons r2
  obtain ⟨v4, vs4, d4, ds4, p4, q4, rfl, rfl, rfl, h4, r4⟩ := trodAll_cons r3
  obtain ⟨rfl, rfl, rfl⟩ := trodAll_nil r4
  obtain rfl : args = #[v0, v1, v2, v3, v4] := by cases args; simp_all
  obtain ⟨rfl, rfl⟩ := trodVars_none hV
  have k0 := h0
  have lt0 : ∀ x ∈ p0, x.block < W.heap.size := by obtain ⟨m, hm⟩ := k0; exact DataW.trod_lt m _ _ _ hm
  have z0 : ∀ n ∈ d0.weights Try.prog 50, n ≤ reachBytes := fun n hn => by simpa using List.all_eq_true.1 hsz n (DataW.weights_mem_each (j := 0) (t := 50) (d := d0) rfl rfl n hn)
  obtain ⟨s0, l0, c0, rfl, f0, m0, e0, g0⟩ := Open.open_los (hval 0 50 v0 rfl rfl) h0 z0
  have k1 := h1
  have lt1 : ∀ x ∈ p1, x.block < W.heap.size := by obtain ⟨m, hm⟩ := k1; exact DataW.trod_lt m _ _ _ hm
  obtain ⟨a1, rfl, rfl, rfl, w1⟩ := open_string Try.underlying9 (hval 1 9 v1 rfl rfl) h1
  have zs1 : a1.size ≤ reachBytes := by simpa using List.all_eq_true.1 hsz a1.size (DataW.weights_mem_each (j := 1) (t := 9) (d := .lit (.string a1.data.toList)) rfl rfl _ (by simp [DataW.weights]))
  have zt1 : a1.size ≤ 4611686018427387904 := Nat.le_trans zs1 (by decide)
  have k2 := h2
  have lt2 : ∀ x ∈ p2, x.block < W.heap.size := by obtain ⟨m, hm⟩ := k2; exact DataW.trod_lt m _ _ _ hm
  obtain ⟨a2, rfl, rfl, rfl, w2⟩ := open_int Try.underlying3 (hval 2 3 v2 rfl rfl) h2
  have b2 := bounds_i64 w2
  have k3 := h3
  have lt3 : ∀ x ∈ p3, x.block < W.heap.size := by obtain ⟨m, hm⟩ := k3; exact DataW.trod_lt m _ _ _ hm
  obtain ⟨a3, rfl, rfl, rfl, w3⟩ := open_int Try.underlying3 (hval 3 3 v3 rfl rfl) h3
  have b3 := bounds_i64 w3
  have k4 := h4
  have lt4 : ∀ x ∈ p4, x.block < W.heap.size := by obtain ⟨m, hm⟩ := k4; exact DataW.trod_lt m _ _ _ hm
  obtain ⟨a4, rfl, rfl, rfl, w4⟩ := open_int Try.underlying3 (hval 4 3 v4 rfl rfl) h4
  have b4 := bounds_i64 w4
  have hw := LedgerTimes_P s0 c0 l0 m0 f0 a1 zt1 a2 a3 a4 W e0 g0
  clear hA0 hval0
  refine hw.mono fun e W' ⟨he, hchg⟩ => ?_
  have bel := hchg.below
  subst he
  exact ⟨_, rfl, _, _, _, [], _, [], hW', trodAll_mk1 (shut_bool Try.underlying4 _), (trodAll_cons_mk (Below.trod laidOut (by kernel_rfl) (of_decide_eq_true (by kernel_rfl)) k0 bel lt0) (trodAll_cons_mk (Below.trod laidOut (by kernel_rfl) (of_decide_eq_true (by kernel_rfl)) k1 bel lt1) (trodAll_cons_mk (Below.trod laidOut (by kernel_rfl) (of_decide_eq_true (by kernel_rfl)) k2 bel lt2) (trodAll_cons_mk (Below.trod laidOut (by kernel_rfl) (of_decide_eq_true (by kernel_rfl)) k3 bel lt3) (trodAll_cons_mk (Below.trod laidOut (by kernel_rfl) (of_decide_eq_true (by kernel_rfl)) k4 bel lt4) trodAll_mk0))))), rfl, bel.frame _, fun h => by cases h⟩

theorem over : Rows.ledgerTimesRow.holds Try.pinned (OpenSpec.ofChange Rows.ledgerTimesSpec) :=
  OpenClaim.holds_of_wide 6 Try.f6 rfl rfl rfl rfl rfl rfl rfl ⟨rfl, rfl, rfl, rfl, rfl⟩ rfl rfl rfl rfl rfl (by kernel_rfl) Try.func6 (by kernel_rfl)
    (of_decide_eq_true (by kernel_rfl)) (by unfold Func.isWrapper; first | (rw [if_pos (by decide +kernel)]; kernel_rfl) | (rw [if_neg (by decide +kernel)]; exact ⟨rfl, rfl⟩))
    (fun os started H enc _ => lifted os started H enc)

theorem proved : Rows.LedgerTimesSaid := over
end Go.Proofs.Ytheofhegdjjfgaa.ledgerTimes
