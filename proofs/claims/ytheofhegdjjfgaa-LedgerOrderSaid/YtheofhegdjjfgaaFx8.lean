/- The reference's Set, walked. -/
import Derived.Test.YtheofhegdjjfgaaFx7
import Derived.Test.YtheofhegdjjfgaaSe12
namespace Go.Proofs.Ytheofhegdjjfgaa
open Go.RowKit

abbrev RR := ByteArray × Int × Int
def encR (x : RR) : List Value := [.string x.1, .int .i64 x.2.1, .int .i64 x.2.2]
structure refφ (bw : Nat) (own : ByteArray) (rows : List RR) (v : Value) (w : World) : Prop where
  bk : w.heap[bw]? = some (.cells [.string own, v].toArray 86 (0, 0))
  rows : w.ownsRow 0 94 3 v rows.length (rows.flatMap encR)
def refF (bw : Nat) (v : Value) (k : Nat) : Prop := k = bw ∨ v.ownBlock = some k
def refA (bw : Nat) (own : ByteArray) (rows : List RR) (v : Value) (m : Bool) : Asn := .any (refF bw v) (refφ bw own rows v) m
theorem ref_ok {bw : Nat} {own : ByteArray} {rows : List RR} {v : Value} {w : World} (m : Bool) (h : refφ bw own rows v w) : (refA bw own rows v m).ok w := by
  refine ⟨fun b hb => ?_, fun w' hw => ⟨?_, owns_keep h.rows (fun b hb => hw b (.inr hb))⟩⟩
  · rcases hb with rfl | hb
    · exact (Array.getElem?_eq_some_iff.1 h.bk).1
    · exact (World.ownsRow.lt h.rows b hb).2
  · rw [hw bw (.inl rfl)]; exact h.bk
/-- where a rate of a currency goes. -/
def kOK (c : ByteArray) (rows : List RR) (i k : Nat) : Prop := k ≤ i ∧ (k = 0 ∨ ∃ y, rows[k - 1]? = some y ∧ leS y.1 c = true) ∧ ∀ j, k ≤ j → j < i → ∀ y, rows[j]? = some y → leS y.1 c = false
def late (rows : List RR) (c : ByteArray) (at_ : Int) : Prop := ∃ x ∈ rows, x.1 = c ∧ at_ ≤ x.2.1
instance (rows : List RR) (c : ByteArray) (at_ : Int) : Decidable (late rows c at_) := by unfold late; infer_instance
def refE (own : ByteArray) (rows : List RR) (c : ByteArray) (at_ nano : Int) : Int :=
  if refS c < 0 ∨ c = own then 18 else if ¬ inst at_ ∨ nano < 1 ∨ 1125899906842624 < nano then 6 else if late rows c at_ then 34 else if 500 ≤ rows.length then 9 else 0
def refStep (own : ByteArray) (rows : List RR) (c : ByteArray) (at_ nano : Int) (rows' : List RR) : Prop :=
  (refE own rows c at_ nano ≠ 0 ∧ rows' = rows) ∨ (refE own rows c at_ nano = 0 ∧ ∃ k, kOK c rows rows.length k ∧ rows' = rows.take k ++ (c, at_, nano) :: rows.drop k)

theorem kOK_yes {c : ByteArray} {rows : List RR} {i : Nat} {x : RR} (hx : rows[i]? = some x) (hl : leS x.1 c = true) : kOK c rows (i + 1) (i + 1) :=
  ⟨Nat.le_refl _, .inr ⟨x, by rw [Nat.add_sub_cancel]; exact hx, hl⟩, fun j h1 h2 => by omega⟩
theorem kOK_no {c : ByteArray} {rows : List RR} {i k : Nat} {x : RR} (h : kOK c rows i k) (hx : rows[i]? = some x) (hl : leS x.1 c = false) : kOK c rows (i + 1) k :=
  ⟨by have := h.1; omega, h.2.1, fun j h1 h2 y hy => by
    by_cases e : j = i
    · subst e; rw [hx] at hy; cases hy; exact hl
    · exact h.2.2 j h1 (by omega) y hy⟩

set_option maxRecDepth 100000 in
theorem rSet_P (bw : Nat) (own c : ByteArray) (rows : List RR) (v : Value) (at_ nano : Int) (hlen : rows.length ≤ 500) (w0 : World) (h : refφ bw own rows v w0) :
    MutC Try.prog 39 [.pointer (some ⟨bw, 0, none⟩), .string c, .int .i64 at_, .int .i64 nano] w0 (refA bw own rows v true) (fun _ : { y : List RR × Value // refStep own rows c at_ nano y.1 } => .int .i64 (refE own rows c at_ nano)) (fun y => refA bw own y.1.1 y.1.2 true) := by
  obtain ⟨q, cq, rfl⟩ := own_slice h.rows
  have hdis : (Value.slice q rows.length cq).ownBlock ≠ some bw := fun hb => by
    obtain ⟨cs, h1⟩ := row_obj h.rows hb
    rw [h.bk] at h1; injection h1 with h1; injection h1 with h1 h2 h3; exact absurd h2 (by decide)
  have hcq : rows.length ≤ cq := by
    rcases h.rows.2 with ⟨e1, e2⟩ | ⟨g, cap, cur, e1, _, _, e2, _⟩
    · injection e1 with _ _ e3; omega
    · injection e1 with _ _ e3; omega
  have hsh : rows.length = 0 ∨ ∃ g, q = some ⟨g, 0, none⟩ := by
    rcases h.rows.2 with ⟨e1, e2⟩ | ⟨g, cap, cur, e1, _⟩
    · exact .inl e2
    · injection e1 with e3; exact .inr ⟨g, e3⟩
  have hone : ∀ l : List RR, ∀ u ∈ l.flatMap encR, isOne u = true := fun l u hu => by
    obtain ⟨x, _, hx⟩ := List.mem_flatMap.1 hu
    simp [encR] at hx
    rcases hx with rfl | rfl | rfl <;> rfl
  have same : refE own rows c at_ nano ≠ 0 → refStep own rows c at_ nano rows := fun hne => .inl ⟨hne, rfl⟩
  have hback : ∀ {a : Act} {w : World} {L : List (Nat × Value)} {Δ : List Asn}, St 109 (refF bw (.slice q rows.length cq)) w0 a w L (.blk bw [.string own, .slice q rows.length cq] 86 :: ownA 94 3 (.slice q rows.length cq) rows.length (rows.flatMap encR) :: Δ) → (refA bw own rows (.slice q rows.length cq) true).ok w := fun {a w L Δ} hS =>
    ref_ok true ⟨hS.get (X := .blk bw [.string own, .slice q rows.length cq] 86) (by repeat constructor), hS.get (X := ownA 94 3 (.slice q rows.length cq) rows.length (rows.flatMap encR)) (by repeat constructor)⟩
  refine c_enter [(0, .pointer (some ⟨bw, 0, none⟩)), (1, .string c), (2, .int .i64 at_), (3, .int .i64 nano)] [.blk bw [.string own, .slice q rows.length cq] 86, ownA 94 3 (.slice q rows.length cq) rows.length (rows.flatMap encR)] (refF bw (.slice q rows.length cq)) Try.func39 rfl Try.ntmps39 ⟨rfl, rfl, rfl, rfl, trivial⟩ rfl (okC (ok_blk h.bk) (okC (ok_own h.rows) okN)) (disC (sepC (fun b hb hb' => hdis (by rw [← show b = bw from hb]; exact hb')) sepN) dis1) (mineO (fun b hb => .inl hb) (mineO (fun b hb => .inr hb) mineN)) ?_
  intro a hS
  refine c_seq ?_
  refine c_region ?_
  refine L_op (s_e hS (e_assign rfl) rfl ?_); clear hS a; intro a hS
  refine L_nil ?_
  refine n_then ?_
  refine c_seq ?_
  refine c_seq ?_
  refine c_region ?_
  refine L_op (s_e hS (e_move rfl) rfl ?_); clear hS a; intro a hS
  refine L_op (s_callP hS (.cons rfl .nil) cf38 rfl (xScale_P c _) ?_); clear hS a; (try clear w); intro a w hS
  refine L_op (s_e hS (e_bin rfl rfl rfl) rfl ?_); clear hS a; intro a hS
  refine L_op (s_e hS (e_move rfl) rfl ?_); clear hS a; intro a hS
  refine L_merge 7 22 (.bool (decide (refS c < 0 ∨ c = own))) hS ?_ ?_
  · intro hcM22
    (first | refine g_splitD (t := 15) hS rfl ?_ ?_ | refine g_split (t := 15) hS rfl ?_ ?_) <;> (clear hS; intro hg15 hS)
    ·
      refine L_skip_f hS rfl rfl rfl ?_; clear hS a; intro a hS
      refine L_skip_f hS rfl rfl rfl ?_; clear hS a; intro a hS
      refine L_skip_f hS rfl rfl rfl ?_; clear hS a; intro a hS
      refine L_skip_f hS rfl rfl rfl ?_; clear hS a; intro a hS
      refine L_skip_f hS rfl rfl rfl ?_; clear hS a; intro a hS
      refine L_skip_f hS rfl rfl rfl ?_; clear hS a; intro a hS
      first | (refine L_op (s_e hS (e_pick_t rfl rfl) rfl ?_); clear hS a; intro a hS) | (refine L_op (s_e hS (e_pick_f rfl rfl) rfl ?_); clear hS a; intro a hS)
      exact hcM22 _ _ (hS.ends 8 22 15 rfl (congrArg Value.bool (by first | rfl | (simp [hg15]; done) | (simp [hg15]; omega) | grind)) rfl rfl (by first | exact congrArg Value.bool (decide_eq_true hg15).symm | exact congrArg Value.bool hg15.symm | simp [hg15]) rfl)
    ·
      refine L_go hS rfl rfl (s_e hS (e_move rfl) rfl ?_); clear hS a; intro a hS
      refine L_go hS rfl rfl (s_e hS (e_move rfl) rfl ?_); clear hS a; intro a hS
      refine L_go hS rfl rfl (s_e hS (e_nilCheck rfl) rfl ?_); clear hS a; intro a hS
      first | (refine L_go hS rfl rfl (s_e hS (e_fa0 rfl ty_fo86_0) rfl ?_); clear hS a; intro a hS) | (refine L_go hS rfl rfl (s_e hS (e_faK rfl ty_fo86_0) rfl ?_); clear hS a; intro a hS)
      refine L_go hS rfl rfl (s_e hS (e_load rfl (by repeat constructor) ty_sc9 (by rfl)) rfl ?_); clear hS a; intro a hS
      refine L_go hS rfl rfl (s_e hS (e_binS rfl rfl rfl) rfl ?_); clear hS a; intro a hS
      first | (refine L_op (s_e hS (e_pick_t rfl rfl) rfl ?_); clear hS a; intro a hS) | (refine L_op (s_e hS (e_pick_f rfl rfl) rfl ?_); clear hS a; intro a hS)
      exact hcM22 _ _ (hS.ends 8 22 15 rfl (congrArg Value.bool (by first | rfl | (simp [hg15]; done) | (simp [hg15]; omega) | grind)) rfl rfl (by first | exact congrArg Value.bool (decide_eq_false hg15).symm | exact congrArg Value.bool hg15.symm | simp [hg15]) rfl)
  · clear hS a; (try clear w); intro a w hS
    simp only [List.drop_succ_cons, List.drop_zero]
    refine L_nil ?_
    refine n_then ?_
    first | refine c_ifD hS rfl (fun hc22 => ?_) (fun hc22 => ?_) | refine c_if hS rfl (fun hc22 => ?_) (fun hc22 => ?_)
    ·
      refine c_seq ?_
      refine c_region ?_
      refine L_op (s_e hS (e_assign rfl) rfl ?_); clear hS a; intro a hS
      refine L_nil ?_
      refine n_then ?_
      refine wp_ret ?_
      refine r_then ?_
      refine c_ret1 hS Try.results39 (.tmp rfl) ?_
      have hE : refE own rows c at_ nano = 18 := if_pos hc22
      exact ⟨⟨(rows, _), same (by rw [hE]; decide)⟩, by (try dsimp only); rw [hE], hS.chg, hback hS, fun b hb => .inl hb⟩
    ·
      refine wp_skip ?_
      refine n_then ?_
      refine c_seq ?_
      refine c_seq ?_
      refine c_region ?_
      refine L_op (s_e hS (e_move rfl) rfl ?_); clear hS a; intro a hS
      refine L_op (s_callP hS (.cons rfl .nil) cf81 rfl (xInstant_P at_ _) ?_); clear hS a; (try clear w); intro a w hS
      refine L_op (s_e hS (e_not rfl) rfl ?_); clear hS a; intro a hS
      refine L_op (s_e hS (e_move rfl) rfl ?_); clear hS a; intro a hS
      refine L_merge 3 29 (.bool (decide (¬ inst at_ ∨ nano < 1))) hS ?_ ?_
      · intro hcM29
        (first | refine g_splitD (t := 26) hS rfl ?_ ?_ | refine g_split (t := 26) hS rfl ?_ ?_) <;> (clear hS; intro hg26 hS)
        ·
          refine L_skip_f hS rfl rfl rfl ?_; clear hS a; intro a hS
          refine L_skip_f hS rfl rfl rfl ?_; clear hS a; intro a hS
          first | (refine L_op (s_e hS (e_pick_t rfl rfl) rfl ?_); clear hS a; intro a hS) | (refine L_op (s_e hS (e_pick_f rfl rfl) rfl ?_); clear hS a; intro a hS)
          exact hcM29 _ _ (hS.ends 4 29 26 rfl (congrArg Value.bool (by simp at hg26; simp [hg26])) rfl rfl (by first | exact congrArg Value.bool (decide_eq_true hg26).symm | exact congrArg Value.bool hg26.symm | simp [hg26]) rfl)
        ·
          refine L_go hS rfl rfl (s_e hS (e_move rfl) rfl ?_); clear hS a; intro a hS
          refine L_go hS rfl rfl (s_e hS (e_bin rfl rfl rfl) rfl ?_); clear hS a; intro a hS
          first | (refine L_op (s_e hS (e_pick_t rfl rfl) rfl ?_); clear hS a; intro a hS) | (refine L_op (s_e hS (e_pick_f rfl rfl) rfl ?_); clear hS a; intro a hS)
          exact hcM29 _ _ (hS.ends 4 29 26 rfl (congrArg Value.bool (by simp at hg26; rw [decide_eq_decide]; simp [hg26])) rfl rfl (by first | exact congrArg Value.bool (decide_eq_false hg26).symm | exact congrArg Value.bool hg26.symm | simp [hg26]) rfl)
      · clear hS a; (try clear w); intro a w hS
        simp only [List.drop_succ_cons, List.drop_zero]
        refine L_op (s_e hS (e_move rfl) rfl ?_); clear hS a; intro a hS
        refine L_merge 3 33 (.bool (decide (¬ inst at_ ∨ nano < 1 ∨ 1125899906842624 < nano))) hS ?_ ?_
        · intro hcM33
          (first | refine g_splitD (t := 30) hS rfl ?_ ?_ | refine g_split (t := 30) hS rfl ?_ ?_) <;> (clear hS; intro hg30 hS)
          ·
            refine L_skip_f hS rfl rfl rfl ?_; clear hS a; intro a hS
            refine L_skip_f hS rfl rfl rfl ?_; clear hS a; intro a hS
            first | (refine L_op (s_e hS (e_pick_t rfl rfl) rfl ?_); clear hS a; intro a hS) | (refine L_op (s_e hS (e_pick_f rfl rfl) rfl ?_); clear hS a; intro a hS)
            exact hcM33 _ _ (hS.ends 4 33 30 rfl (congrArg Value.bool (by symm; rw [decide_eq_true_eq]; rcases hg30 with h | h; exact .inl h; exact .inr (.inl h))) rfl rfl (by first | exact congrArg Value.bool (decide_eq_true hg30).symm | exact congrArg Value.bool hg30.symm | simp [hg30]) rfl)
          ·
            refine L_go hS rfl rfl (s_e hS (e_move rfl) rfl ?_); clear hS a; intro a hS
            refine L_go hS rfl rfl (s_e hS (e_bin rfl rfl rfl) rfl ?_); clear hS a; intro a hS
            first | (refine L_op (s_e hS (e_pick_t rfl rfl) rfl ?_); clear hS a; intro a hS) | (refine L_op (s_e hS (e_pick_f rfl rfl) rfl ?_); clear hS a; intro a hS)
            exact hcM33 _ _ (hS.ends 4 33 30 rfl (congrArg Value.bool (by rw [decide_eq_decide]; constructor; exact fun h => .inr (.inr h); exact fun h => by (rcases h with h | h | h; exact absurd (.inl h) hg30; exact absurd (.inr h) hg30; exact h))) rfl rfl (by first | exact congrArg Value.bool (decide_eq_false hg30).symm | exact congrArg Value.bool hg30.symm | simp [hg30]) rfl)
        · clear hS a; (try clear w); intro a w hS
          simp only [List.drop_succ_cons, List.drop_zero]
          refine L_nil ?_
          refine n_then ?_
          first | refine c_ifD hS rfl (fun hc33 => ?_) (fun hc33 => ?_) | refine c_if hS rfl (fun hc33 => ?_) (fun hc33 => ?_)
          ·
            refine c_seq ?_
            refine c_region ?_
            refine L_op (s_e hS (e_assign rfl) rfl ?_); clear hS a; intro a hS
            refine L_nil ?_
            refine n_then ?_
            refine wp_ret ?_
            refine r_then ?_
            refine c_ret1 hS Try.results39 (.tmp rfl) ?_
            have hE : refE own rows c at_ nano = 6 := by unfold refE; rw [if_neg hc22, if_pos hc33]
            exact ⟨⟨(rows, _), same (by rw [hE]; decide)⟩, by (try dsimp only); rw [hE], hS.chg, hback hS, fun b hb => .inl hb⟩
          ·
            refine wp_skip ?_
            refine n_then ?_
            refine c_seq ?_
            refine c_region ?_
            refine L_op (s_e hS (e_assign rfl) rfl ?_); clear hS a; intro a hS
            refine L_nil ?_
            refine n_then ?_
            refine c_seq ?_
            refine c_seq ?_
            refine c_region ?_
            refine L_op (s_e hS (e_assign rfl) rfl ?_); clear hS a; intro a hS
            refine L_nil ?_
            refine n_then ?_
            refine wp_block ?_
            skip
            refine c_loop (γ := Nat × Nat) (fun p a w => St 109 (refF bw (.slice q rows.length cq)) w0 a w [(9, .int .i64 (p.2 : Int)), (10, .int .i64 (p.1 : Int)), (0, .pointer (some ⟨bw, 0, none⟩)), (1, .string c), (2, .int .i64 at_), (3, .int .i64 nano)] [.blk bw [.string own, .slice q rows.length cq] 86, ownA 94 3 (.slice q rows.length cq) rows.length (rows.flatMap encR)] ∧ p.1 ≤ rows.length ∧ kOK c rows p.1 p.2 ∧ ∀ j, j < p.1 → ∀ y, rows[j]? = some y → ¬ (y.1 = c ∧ at_ ≤ y.2.1)) (fun p => rows.length - p.1) (0, 0) ⟨hS.slots (by repeat (first | exact trivial | refine ⟨rfl, ?_⟩)), Nat.zero_le _, ⟨Nat.le_refl _, .inl rfl, fun j h1 h2 => absurd h2 (Nat.not_lt_zero _)⟩, fun j hj => absurd hj (Nat.not_lt_zero _)⟩ ?_
            clear hS a; (try clear w); intro p a w hI
            obtain ⟨hS, hi, hk, hno⟩ := hI
            obtain ⟨i, k⟩ := p
            simp only at hS hi hk hno ⊢
            refine c_seq ?_
            refine c_seq ?_
            refine c_region ?_
            refine L_op (s_e hS (e_move rfl) rfl ?_); clear hS a; intro a hS
            refine L_op (s_e hS (e_move rfl) rfl ?_); clear hS a; intro a hS
            refine L_op (s_e hS (e_nilCheck rfl) rfl ?_); clear hS a; intro a hS
            first | (refine L_op (s_e hS (e_fa0 rfl ty_fo86_1) rfl ?_); clear hS a; intro a hS) | (refine L_op (s_e hS (e_faK rfl ty_fo86_1) rfl ?_); clear hS a; intro a hS)
            refine L_op (s_e hS (e_load rfl (by repeat constructor) ty_sc84 (by rfl)) rfl ?_); clear hS a; intro a hS
            refine L_op (s_e hS (e_len rfl rfl ty_sl84) rfl ?_); clear hS a; intro a hS
            refine L_op (s_e hS (e_bin rfl rfl rfl) rfl ?_); clear hS a; intro a hS
            refine L_nil ?_
            refine n_then ?_
            first | refine c_ifD hS rfl (fun hc40 => ?_) (fun hc40 => ?_) | refine c_if hS rfl (fun hc40 => ?_) (fun hc40 => ?_)
            ·
              have hin : i < rows.length := by omega
              obtain ⟨x, hx⟩ : ∃ x, rows[i]? = some x := ⟨rows[i], List.getElem?_eq_getElem hin⟩
              obtain ⟨g, rfl⟩ : ∃ g, q = some ⟨g, 0, none⟩ := hsh.resolve_left (by omega)
              refine wp_skip ?_
              refine n_then ?_
              refine c_seq ?_
              refine wp_block ?_
              refine c_seq ?_
              refine c_seq ?_
              refine c_region ?_
              refine L_op (s_e hS (e_move rfl) rfl ?_); clear hS a; intro a hS
              refine L_op (s_e hS (e_nilCheck rfl) rfl ?_); clear hS a; intro a hS
              first | (refine L_op (s_e hS (e_fa0 rfl ty_fo86_1) rfl ?_); clear hS a; intro a hS) | (refine L_op (s_e hS (e_faK rfl ty_fo86_1) rfl ?_); clear hS a; intro a hS)
              refine L_op (s_e hS (e_load rfl (by repeat constructor) ty_sc84 (by rfl)) rfl ?_); clear hS a; intro a hS
              refine L_op (s_e hS (e_move rfl) rfl ?_); clear hS a; intro a hS
              refine L_op (s_e hS (e_ixN rfl rfl ty_sl84 ty_sz94 (by omega)) rfl ?_); clear hS a; intro a hS
              first | (refine L_op (s_e hS (e_fa0 rfl ty_fo94_0) rfl ?_); clear hS a; intro a hS) | (refine L_op (s_e hS (e_faK rfl ty_fo94_0) rfl ?_); clear hS a; intro a hS)
              refine L_op (s_e hS (e_loadC rfl ty_sc9 (fun w hh => own_get (enc := encR) (fun _ => rfl) (by repeat constructor) hx w hh 0 (.string x.1) rfl)) rfl ?_); clear hS a; intro a hS
              refine L_op (s_e hS (e_move rfl) rfl ?_); clear hS a; intro a hS
              refine L_op (s_e hS (e_binS rfl rfl rfl) rfl ?_); clear hS a; intro a hS
              refine L_op (s_e hS (e_move rfl) rfl ?_); clear hS a; intro a hS
              refine L_merge 11 64 (.bool (decide (x.1 = c ∧ at_ ≤ x.2.1))) hS ?_ ?_
              · intro hcM64
                (first | refine g_splitD (t := 53) hS rfl ?_ ?_ | refine g_split (t := 53) hS rfl ?_ ?_) <;> (clear hS; intro hg53 hS)
                ·
                  refine L_go hS rfl rfl (s_e hS (e_move rfl) rfl ?_); clear hS a; intro a hS
                  refine L_go hS rfl rfl (s_e hS (e_nilCheck rfl) rfl ?_); clear hS a; intro a hS
                  first | (refine L_go hS rfl rfl (s_e hS (e_fa0 rfl ty_fo86_1) rfl ?_); clear hS a; intro a hS) | (refine L_go hS rfl rfl (s_e hS (e_faK rfl ty_fo86_1) rfl ?_); clear hS a; intro a hS)
                  refine L_go hS rfl rfl (s_e hS (e_load rfl (by repeat constructor) ty_sc84 (by rfl)) rfl ?_); clear hS a; intro a hS
                  refine L_go hS rfl rfl (s_e hS (e_move rfl) rfl ?_); clear hS a; intro a hS
                  refine L_go hS rfl rfl (s_e hS (e_ixN rfl rfl ty_sl84 ty_sz94 (by omega)) rfl ?_); clear hS a; intro a hS
                  first | (refine L_go hS rfl rfl (s_e hS (e_fa0 rfl ty_fo94_1) rfl ?_); clear hS a; intro a hS) | (refine L_go hS rfl rfl (s_e hS (e_faK rfl ty_fo94_1) rfl ?_); clear hS a; intro a hS)
                  refine L_go hS rfl rfl (s_e hS (e_loadC rfl ty_sc3 (fun w hh => own_get (enc := encR) (fun _ => rfl) (by repeat constructor) hx w hh 1 (.int .i64 x.2.1) rfl)) rfl ?_); clear hS a; intro a hS
                  refine L_go hS rfl rfl (s_e hS (e_move rfl) rfl ?_); clear hS a; intro a hS
                  refine L_go hS rfl rfl (s_e hS (e_bin rfl rfl rfl) rfl ?_); clear hS a; intro a hS
                  first | (refine L_op (s_e hS (e_pick_t rfl rfl) rfl ?_); clear hS a; intro a hS) | (refine L_op (s_e hS (e_pick_f rfl rfl) rfl ?_); clear hS a; intro a hS)
                  exact hcM64 _ _ (hS.ends 12 64 53 rfl (congrArg Value.bool (by first | rfl | (simp [hg53]; done) | (simp [hg53]; omega) | grind)) rfl rfl (by first | exact congrArg Value.bool (decide_eq_true hg53).symm | exact congrArg Value.bool hg53.symm | simp [hg53]) rfl)
                ·
                  refine L_skip_t hS rfl rfl rfl ?_; clear hS a; intro a hS
                  refine L_skip_t hS rfl rfl rfl ?_; clear hS a; intro a hS
                  refine L_skip_t hS rfl rfl rfl ?_; clear hS a; intro a hS
                  refine L_skip_t hS rfl rfl rfl ?_; clear hS a; intro a hS
                  refine L_skip_t hS rfl rfl rfl ?_; clear hS a; intro a hS
                  refine L_skip_t hS rfl rfl rfl ?_; clear hS a; intro a hS
                  refine L_skip_t hS rfl rfl rfl ?_; clear hS a; intro a hS
                  refine L_skip_t hS rfl rfl rfl ?_; clear hS a; intro a hS
                  refine L_skip_t hS rfl rfl rfl ?_; clear hS a; intro a hS
                  refine L_skip_t hS rfl rfl rfl ?_; clear hS a; intro a hS
                  first | (refine L_op (s_e hS (e_pick_t rfl rfl) rfl ?_); clear hS a; intro a hS) | (refine L_op (s_e hS (e_pick_f rfl rfl) rfl ?_); clear hS a; intro a hS)
                  exact hcM64 _ _ (hS.ends 12 64 53 rfl (congrArg Value.bool (by first | rfl | (simp [hg53]; done) | (simp [hg53]; omega) | grind)) rfl rfl (by first | exact congrArg Value.bool (decide_eq_false hg53).symm | exact congrArg Value.bool hg53.symm | simp [hg53]) rfl)
              · clear hS a; (try clear w); intro a w hS
                simp only [List.drop_succ_cons, List.drop_zero]
                refine L_nil ?_
                refine n_then ?_
                first | refine c_ifD hS rfl (fun hc64 => ?_) (fun hc64 => ?_) | refine c_if hS rfl (fun hc64 => ?_) (fun hc64 => ?_)
                ·
                  refine c_seq ?_
                  refine c_region ?_
                  refine L_op (s_e hS (e_assign rfl) rfl ?_); clear hS a; intro a hS
                  refine L_nil ?_
                  refine n_then ?_
                  refine wp_ret ?_
                  refine r_then (r_block (r_then (r_then (r_block (r_then ?_)))))
                  refine c_ret1 hS Try.results39 (.tmp rfl) ?_
                  have hl : late rows c at_ := ⟨x, List.mem_of_getElem? hx, hc64⟩
                  have hE : refE own rows c at_ nano = 34 := by unfold refE; rw [if_neg hc22, if_neg hc33, if_pos hl]
                  exact ⟨⟨(rows, _), same (by rw [hE]; decide)⟩, by (try dsimp only); rw [hE], hS.chg, hback hS, fun b hb => .inl hb⟩
                ·
                  refine wp_skip ?_
                  refine n_then ?_
                  refine c_seq ?_
                  refine c_region ?_
                  refine L_op (s_e hS (e_move rfl) rfl ?_); clear hS a; intro a hS
                  refine L_op (s_e hS (e_nilCheck rfl) rfl ?_); clear hS a; intro a hS
                  first | (refine L_op (s_e hS (e_fa0 rfl ty_fo86_1) rfl ?_); clear hS a; intro a hS) | (refine L_op (s_e hS (e_faK rfl ty_fo86_1) rfl ?_); clear hS a; intro a hS)
                  refine L_op (s_e hS (e_load rfl (by repeat constructor) ty_sc84 (by rfl)) rfl ?_); clear hS a; intro a hS
                  refine L_op (s_e hS (e_move rfl) rfl ?_); clear hS a; intro a hS
                  refine L_op (s_e hS (e_ixN rfl rfl ty_sl84 ty_sz94 (by omega)) rfl ?_); clear hS a; intro a hS
                  first | (refine L_op (s_e hS (e_fa0 rfl ty_fo94_0) rfl ?_); clear hS a; intro a hS) | (refine L_op (s_e hS (e_faK rfl ty_fo94_0) rfl ?_); clear hS a; intro a hS)
                  refine L_op (s_e hS (e_loadC rfl ty_sc9 (fun w hh => own_get (enc := encR) (fun _ => rfl) (by repeat constructor) hx w hh 0 (.string x.1) rfl)) rfl ?_); clear hS a; intro a hS
                  refine L_op (s_e hS (e_move rfl) rfl ?_); clear hS a; intro a hS
                  refine L_op (s_e hS (e_leS rfl rfl) rfl ?_); clear hS a; intro a hS
                  refine L_nil ?_
                  refine n_then ?_
                  first | refine c_ifD hS rfl (fun hc74 => ?_) (fun hc74 => ?_) | refine c_if hS rfl (fun hc74 => ?_) (fun hc74 => ?_)
                  ·
                    refine c_region ?_
                    refine L_op (s_e hS (e_move rfl) rfl ?_); clear hS a; intro a hS
                    first | (refine L_op (s_e hS (e_binN rfl rfl rfl (by omega)) rfl ?_); clear hS a; intro a hS) | (refine L_op (s_e hS (e_bin rfl rfl rfl) rfl ?_); clear hS a; intro a hS)
                    refine L_op (s_e hS (e_assign rfl) rfl ?_); clear hS a; intro a hS
                    refine L_nil ?_
                    refine n_block ?_
                    refine n_then ?_
                    refine c_region ?_
                    refine L_op (s_e hS (e_move rfl) rfl ?_); clear hS a; intro a hS
                    first | (refine L_op (s_e hS (e_binN rfl rfl rfl (by omega)) rfl ?_); clear hS a; intro a hS) | (refine L_op (s_e hS (e_bin rfl rfl rfl) rfl ?_); clear hS a; intro a hS)
                    refine L_op (s_e hS (e_assign rfl) rfl ?_); clear hS a; intro a hS
                    refine L_nil ?_
                    first
                    | exact ⟨(i + 1, i + 1), by simp only; omega, hS.slots (by repeat (first | exact trivial | refine ⟨rfl, ?_⟩)), by simp only; omega, kOK_yes hx hc74, fun j hj y hy => by
                        by_cases e : j = i
                        · subst e; rw [hx] at hy; cases hy; exact hc64
                        · exact hno j (by simp only at hj; omega) y hy⟩
                    | exact ⟨(i + 1, k), by simp only; omega, hS.slots (by repeat (first | exact trivial | refine ⟨rfl, ?_⟩)), by simp only; omega, kOK_no hk hx (by simpa using hc74), fun j hj y hy => by
                        by_cases e : j = i
                        · subst e; rw [hx] at hy; cases hy; exact hc64
                        · exact hno j (by simp only at hj; omega) y hy⟩
                  ·
                    refine wp_skip ?_
                    refine n_block ?_
                    refine n_then ?_
                    refine c_region ?_
                    refine L_op (s_e hS (e_move rfl) rfl ?_); clear hS a; intro a hS
                    first | (refine L_op (s_e hS (e_binN rfl rfl rfl (by omega)) rfl ?_); clear hS a; intro a hS) | (refine L_op (s_e hS (e_bin rfl rfl rfl) rfl ?_); clear hS a; intro a hS)
                    refine L_op (s_e hS (e_assign rfl) rfl ?_); clear hS a; intro a hS
                    refine L_nil ?_
                    first
                    | exact ⟨(i + 1, i + 1), by simp only; omega, hS.slots (by repeat (first | exact trivial | refine ⟨rfl, ?_⟩)), by simp only; omega, kOK_yes hx hc74, fun j hj y hy => by
                        by_cases e : j = i
                        · subst e; rw [hx] at hy; cases hy; exact hc64
                        · exact hno j (by simp only at hj; omega) y hy⟩
                    | exact ⟨(i + 1, k), by simp only; omega, hS.slots (by repeat (first | exact trivial | refine ⟨rfl, ?_⟩)), by simp only; omega, kOK_no hk hx (by simpa using hc74), fun j hj y hy => by
                        by_cases e : j = i
                        · subst e; rw [hx] at hy; cases hy; exact hc64
                        · exact hno j (by simp only at hj; omega) y hy⟩
            ·
              have hE0 : ¬ late rows c at_ := fun ⟨y, hy, hyc⟩ => by
                obtain ⟨j, hj, rfl⟩ := List.mem_iff_getElem.1 hy
                exact hno j (by omega) _ (List.getElem?_eq_getElem hj) hyc
              obtain rfl : i = rows.length := by omega
              have hkl := hk.1
              refine wp_exit ?_
              refine x_then (x_then (x_hit ?_))
              refine n_then ?_
              refine c_seq ?_
              refine c_seq ?_
              refine c_region ?_
              refine L_op (s_e hS (e_move rfl) rfl ?_); clear hS a; intro a hS
              refine L_op (s_e hS (e_nilCheck rfl) rfl ?_); clear hS a; intro a hS
              first | (refine L_op (s_e hS (e_fa0 rfl ty_fo86_1) rfl ?_); clear hS a; intro a hS) | (refine L_op (s_e hS (e_faK rfl ty_fo86_1) rfl ?_); clear hS a; intro a hS)
              refine L_op (s_e hS (e_load rfl (by repeat constructor) ty_sc84 (by rfl)) rfl ?_); clear hS a; intro a hS
              refine L_op (s_e hS (e_len rfl rfl ty_sl84) rfl ?_); clear hS a; intro a hS
              refine L_op (s_e hS (e_bin rfl rfl rfl) rfl ?_); clear hS a; intro a hS
              refine L_nil ?_
              refine n_then ?_
              first | refine c_ifD hS rfl (fun hc82 => ?_) (fun hc82 => ?_) | refine c_if hS rfl (fun hc82 => ?_) (fun hc82 => ?_)
              ·
                refine c_seq ?_
                refine c_region ?_
                refine L_op (s_e hS (e_assign rfl) rfl ?_); clear hS a; intro a hS
                refine L_nil ?_
                refine n_then ?_
                refine wp_ret ?_
                refine r_then ?_
                refine c_ret1 hS Try.results39 (.tmp rfl) ?_
                have hE : refE own rows c at_ nano = 9 := by unfold refE; rw [if_neg hc22, if_neg hc33, if_neg hE0, if_pos (by omega)]
                exact ⟨⟨(rows, _), same (by rw [hE]; decide)⟩, by (try dsimp only); rw [hE], hS.chg, hback hS, fun b hb => .inl hb⟩
              ·
                refine wp_skip ?_
                refine n_then ?_
                refine c_seq ?_
                refine c_region ?_
                refine L_op (s_bslice hS ty_sl84 ty_sz94 ty_z94 rfl rfl rfl rfl .nil rfl ?_); clear hS a; (try clear w); intro a w b83 hS
                replace hS := hS.swap (X := .blk b83 [] 94) (Y := ownA 94 3 (.slice (some ⟨b83, 0, none⟩) 0 0) 0 []) (by repeat constructor) (own_empty (hS.get (X := .blk b83 [] 94) (by repeat constructor))) (fun b hb => by simpa [ownA, Asn.F, Value.ownBlock, eq_comm] using hb) rfl
                refine L_op (s_e hS (e_move rfl) rfl ?_); clear hS a; intro a hS
                refine L_op (s_e hS (e_nilCheck rfl) rfl ?_); clear hS a; intro a hS
                first | (refine L_op (s_e hS (e_fa0 rfl ty_fo86_1) rfl ?_); clear hS a; intro a hS) | (refine L_op (s_e hS (e_faK rfl ty_fo86_1) rfl ?_); clear hS a; intro a hS)
                refine L_op (s_e hS (e_load rfl (by repeat constructor) ty_sc84 (by rfl)) rfl ?_); clear hS a; intro a hS
                refine L_op (s_e hS (e_move rfl) rfl ?_); clear hS a; intro a hS
                refine L_op (s_e hS (e_slH rfl rfl ty_sl84 ty_sz94 (by omega)) rfl ?_); clear hS a; intro a hS
                refine L_op (s_appendQ hS rfl rfl ty_sl84 ty_sz94 ty_by94 ty_z94 rfl rfl rfl (by repeat constructor) (by rw [flat_len encR 3 (fun _ => rfl), List.length_take, Nat.min_eq_left hkl]) (own_head (hS.get (X := ownA 94 3 (.slice q rows.length cq) rows.length (rows.flatMap encR)) (by repeat constructor)) (fun _ => rfl) hkl) (hone _) (by omega) (fun _ => (by repeat constructor)) ?_); clear hS a; (try clear w); intro v90 a w hv90 hS
                refine L_op (s_e hS (e_assign rfl) rfl ?_); clear hS a; intro a hS
                refine L_nil ?_
                refine n_then ?_
                refine c_seq ?_
                refine c_region ?_
                refine L_op (s_e hS (e_move rfl) rfl ?_); clear hS a; intro a hS
                refine L_op (s_e hS (e_move rfl) rfl ?_); clear hS a; intro a hS
                refine L_op (s_e hS (e_move rfl) rfl ?_); clear hS a; intro a hS
                refine L_op (s_e hS (e_move rfl) rfl ?_); clear hS a; intro a hS
                refine L_op (s_e hS (e_build ty_z94 ty_pl94 (.one rfl rfl rfl (by repeat constructor) (.one rfl rfl rfl (by repeat constructor) (.one rfl rfl rfl (by repeat constructor) .nil)))) rfl ?_); clear hS a; intro a hS
                refine L_op (s_bslice hS ty_sl84 ty_sz94 ty_z94 rfl rfl rfl rfl (.agg rfl rfl .nil) rfl ?_); clear hS a; (try clear w); intro a w b96 hS
                refine L_op (s_append1 hS rfl rfl ty_sl84 ty_sz94 ty_by94 ty_z94 rfl rfl rfl (by repeat constructor) (by repeat constructor) (by rfl) (by rfl) (fun _ => (by repeat constructor)) (by omega) ?_); clear hS a; (try clear w); intro v97 a w hv97 hS
                refine L_op (s_e hS (e_assign rfl) rfl ?_); clear hS a; intro a hS
                refine L_nil ?_
                refine n_then ?_
                refine c_seq ?_
                refine c_region ?_
                refine L_op (s_e hS (e_move rfl) rfl ?_); clear hS a; intro a hS
                refine L_op (s_e hS (e_move rfl) rfl ?_); clear hS a; intro a hS
                refine L_op (s_e hS (e_move rfl) rfl ?_); clear hS a; intro a hS
                refine L_op (s_e hS (e_nilCheck rfl) rfl ?_); clear hS a; intro a hS
                first | (refine L_op (s_e hS (e_fa0 rfl ty_fo86_1) rfl ?_); clear hS a; intro a hS) | (refine L_op (s_e hS (e_faK rfl ty_fo86_1) rfl ?_); clear hS a; intro a hS)
                refine L_op (s_e hS (e_load rfl (by repeat constructor) ty_sc84 (by rfl)) rfl ?_); clear hS a; intro a hS
                refine L_op (s_e hS (e_move rfl) rfl ?_); clear hS a; intro a hS
                refine L_op (s_e hS (e_slT rfl rfl ty_sl84 ty_sz94 (by omega)) rfl ?_); clear hS a; intro a hS
                refine L_op (s_appendQ hS rfl rfl ty_sl84 ty_sz94 ty_by94 ty_z94 rfl rfl rfl (by repeat constructor) (by rw [flat_len encR 3 (fun _ => rfl), List.length_drop]) (own_tail (hS.get (X := ownA 94 3 (.slice q rows.length cq) rows.length (rows.flatMap encR)) (by repeat constructor)) (fun _ => rfl) rfl hkl) (hone _) (by omega) (fun _ => (by repeat constructor)) ?_); clear hS a; (try clear w); intro v106 a w hv106 hS
                obtain ⟨q2, c2, rfl⟩ := own_slice (hS.get (X := ownA 94 3 v106 (0 + k + 1 + (rows.length - k)) _) (by repeat constructor))
                refine L_op (s_e hS (e_nilCheck rfl) rfl ?_); clear hS a; intro a hS
                first | (refine L_op (s_e hS (e_fa0 rfl ty_fo86_1) rfl ?_); clear hS a; intro a hS) | (refine L_op (s_e hS (e_faK rfl ty_fo86_1) rfl ?_); clear hS a; intro a hS)
                refine L_op (s_store hS rfl rfl rfl ty_sz84 (by repeat constructor) (by repeat constructor) ?_); clear hS; (try clear w); intro w hS
                refine L_nil ?_
                refine n_then ?_
                refine c_seq ?_
                refine c_region ?_
                refine L_op (s_e hS (e_assign rfl) rfl ?_); clear hS a; intro a hS
                refine L_nil ?_
                refine n_then ?_
                refine wp_ret ?_
                refine c_ret1 hS Try.results39 (.tmp rfl) ?_
                have hE : refE own rows c at_ nano = 0 := by unfold refE; rw [if_neg hc22, if_neg hc33, if_neg hE0, if_neg (by omega)]
                have hrow := hS.get (X := ownA 94 3 (.slice q2 (0 + k + 1 + (rows.length - k)) c2) (0 + k + 1 + (rows.length - k)) _) (by repeat constructor)
                have hmine := hS.mine (ownA 94 3 (.slice q2 (0 + k + 1 + (rows.length - k)) c2) (0 + k + 1 + (rows.length - k)) _) (by repeat constructor) rfl
                have e1 : (rows.take k ++ (c, at_, nano) :: rows.drop k).length = 0 + k + 1 + (rows.length - k) := by simp; omega
                refine ⟨⟨(rows.take k ++ (c, at_, nano) :: rows.drop k, .slice q2 (0 + k + 1 + (rows.length - k)) c2), .inr ⟨hE, k, hk, rfl⟩⟩, by (try dsimp only); rw [hE], hS.chg, ref_ok true ⟨hS.get (X := .blk bw [.string own, .slice q2 (0 + k + 1 + (rows.length - k)) c2] 86) (by repeat constructor), ?_⟩, ?_⟩
                · have h2 : w.ownsRow 0 94 3 (.slice q2 (0 + k + 1 + (rows.length - k)) c2) (0 + k + 1 + (rows.length - k)) _ := hrow
                  rw [e1]
                  simpa [encR] using h2
                · rintro b (hb | hb)
                  · exact .inl (.inl hb)
                  · rcases hmine b hb with h | h
                    · exact .inr h
                    · exact .inl h
end Go.Proofs.Ytheofhegdjjfgaa
