/- The reference's book in memory; Billed and Check, walked. -/
import Derived.Test.YtfiaobhkhedpiaaRB2
namespace Go.Proofs.Ytfiaobhkhedpiaa
open Go.RowKit

def lnR (x : IA) (w : World) : Prop := w.ownsRow 0 148 4 (lnV x.v x.b x.c) x.v.lines.length (x.v.lines.flatMap encL)
structure rbφ (bw : Nat) (sv : Value) (its : List IA) (w : World) : Prop where
  bk : w.heap[bw]? = some (.cells [sv].toArray 56 (0, 0))
  row : w.ownsRow 0 119 13 sv its.length (its.flatMap encA)
  lns : ∀ x ∈ its, lnR x w
def rbF (bw : Nat) (sv : Value) (its : List IA) (k : Nat) : Prop := k = bw ∨ sv.ownBlock = some k ∨ ∃ x ∈ its, k = x.b
def rbA (bw : Nat) (sv : Value) (its : List IA) (m : Bool) : Asn := .any (rbF bw sv its) (rbφ bw sv its) m
theorem lnR.lt {x : IA} {w : World} (h : lnR x w) : x.b < w.heap.size := (World.ownsRow.lt h x.b rfl).2
theorem lnR.keep {x : IA} {w w' : World} (h : lnR x w) (hw : w'.heap[x.b]? = w.heap[x.b]?) : lnR x w' :=
  owns_keep h (fun b hb => by simp [lnV, Value.ownBlock] at hb; subst hb; exact hw)
theorem rb_ok {bw : Nat} {sv : Value} {its : List IA} {w : World} (m : Bool) (h : rbφ bw sv its w) : (rbA bw sv its m).ok w := by
  refine ⟨fun b hb => ?_, fun w' hw => ⟨?_, owns_keep h.row (fun b hb => hw b (.inr (.inl hb))), fun x hx => (h.lns x hx).keep (hw x.b (.inr (.inr ⟨x, hx, rfl⟩)))⟩⟩
  · rcases hb with rfl | hb | ⟨x, hx, rfl⟩
    · exact (Array.getElem?_eq_some_iff.1 h.bk).1
    · exact (World.ownsRow.lt h.row b hb).2
    · exact (h.lns x hx).lt
  · rw [hw bw (.inl rfl)]; exact h.bk
theorem rrd_bk {Γ : List Asn} {bw : Nat} {sv : Value} {its : List IA} {m : Bool} (hm : rbA bw sv its m ∈ Γ) : ∀ w, Hd Γ w → w.cell? ⟨bw, 0, none⟩ = some sv :=
  fun _ hh => cell_of_blk (cs := [sv]) (rbφ.bk (hh _ hm)) rfl
theorem rrd_row {Γ : List Asn} {bw : Nat} {g c m' : Nat} {its : List IA} {m : Bool} (hm : rbA bw (.slice (some ⟨g, 0, none⟩) m' c) its m ∈ Γ) {i : Nat} {x : IA} (hx : its[i]? = some x) : ∀ w, Hd Γ w → ∀ j v, (encA x)[j]? = some v → w.cell? ⟨g, 0 + i * 13 + j, none⟩ = some v := by
  intro w hh j v hj
  have h := rbφ.row (hh _ hm)
  have h1 := flat_get encA 13 (fun _ => rfl) its i x hx j v hj
  have h2 := World.ownsRow.cells h (g := g) rfl _ _ h1
  rw [addr_add] at h2
  rw [← h2]; congr 2; omega
theorem rb_shape {bw : Nat} {sv : Value} {its : List IA} {w : World} (h : rbφ bw sv its w) : ∃ p c, sv = .slice p its.length c ∧ (p = none ∧ its.length = 0 ∨ ∃ g, p = some ⟨g, 0, none⟩) := by
  obtain ⟨p, c, rfl⟩ := own_slice h.row
  refine ⟨p, c, rfl, ?_⟩
  rcases h.row.2 with ⟨e, e2⟩ | ⟨g, cap, cur, e, _⟩
  · injection e with e1; exact .inl ⟨e1, e2⟩
  · injection e with e1; exact .inr ⟨g, e1⟩

set_option maxRecDepth 100000 in
theorem xBilled_P (bw : Nat) (sv : Value) (its : List IA) (s : ByteArray) (f t : Int) (hn : its.length ≤ 1000000) (w0 : World) (h : rbφ bw sv its w0) :
    PureC Try.prog 78 [.pointer (some ⟨bw, 0, none⟩), .string s, .int .i64 f, .int .i64 t] w0 (.bool (decide ((vs its).filter (billedB s f t) ≠ []))) := by
  obtain ⟨p, c, rfl, hsh⟩ := rb_shape h
  refine c_enter [(0, .pointer (some ⟨bw, 0, none⟩)), (1, .string s), (2, .int .i64 f), (3, .int .i64 t)] [rbA bw (.slice p its.length c) its false] noB Try.func78 rfl Try.ntmps78 ⟨rfl, rfl, rfl, rfl, trivial⟩ rfl (okC (rb_ok false h) okN) dis1 (mineC (by rfl) mineN) ?_
  intro a hS
  refine c_seq ?_
  refine c_region ?_
  refine L_op (s_e hS (e_assign rfl) rfl ?_); clear hS a; intro a hS
  refine L_nil ?_
  refine n_then ?_
  refine c_seq ?_
  refine c_seq ?_
  refine c_region ?_
  refine L_op (s_e hS (e_assign rfl) rfl ?_); clear hS a; intro a hS
  refine L_nil ?_
  refine n_then ?_
  refine wp_block ?_
  skip
  refine c_loop (γ := Nat) (fun k a w => St 48 noB w0 a w [(9, .int .i64 (k : Int)), (0, .pointer (some ⟨bw, 0, none⟩)), (1, .string s), (2, .int .i64 f), (3, .int .i64 t)] [rbA bw (.slice p its.length c) its false] ∧ k ≤ its.length ∧ ∀ j, j < k → ∀ y, its[j]? = some y → billedB s f t y.v = false) (fun k => its.length - k) 0 ⟨hS.slots (by repeat (first | exact trivial | refine ⟨rfl, ?_⟩)), Nat.zero_le _, fun j hj => by omega⟩ ?_
  clear hS a; (try clear w); intro k a w hI
  obtain ⟨hS, hk, hno⟩ := hI
  refine c_seq ?_
  refine c_seq ?_
  refine c_region ?_
  refine L_op (s_e hS (e_move rfl) rfl ?_); clear hS a; intro a hS
  refine L_op (s_e hS (e_move rfl) rfl ?_); clear hS a; intro a hS
  refine L_op (s_e hS (e_nilCheck rfl) rfl ?_); clear hS a; intro a hS
  first | (refine L_op (s_e hS (e_fa0 rfl ty_fo56_0) rfl ?_); clear hS a; intro a hS) | (refine L_op (s_e hS (e_faK rfl ty_fo56_0) rfl ?_); clear hS a; intro a hS)
  refine L_op (s_e hS (e_loadC rfl ty_sc54 (rrd_bk (by repeat constructor))) rfl ?_); clear hS a; intro a hS
  refine L_op (s_e hS (e_len rfl rfl ty_sl54) rfl ?_); clear hS a; intro a hS
  refine L_op (s_e hS (e_bin rfl rfl rfl) rfl ?_); clear hS a; intro a hS
  refine L_nil ?_
  refine n_then ?_
  first | refine c_ifD hS rfl (fun hc17 => ?_) (fun hc17 => ?_) | refine c_if hS rfl (fun hc17 => ?_) (fun hc17 => ?_)
  ·
    obtain ⟨x, hx⟩ : ∃ x, its[k]? = some x := ⟨its[k]'(by omega), List.getElem?_eq_getElem (by omega)⟩
    obtain ⟨g, rfl⟩ : ∃ g, p = some ⟨g, 0, none⟩ := hsh.resolve_left (by omega)
    refine wp_skip ?_
    refine n_then ?_
    refine c_seq ?_
    refine wp_block ?_
    refine c_seq ?_
    refine c_region ?_
    refine L_op (s_e hS (e_move rfl) rfl ?_); clear hS a; intro a hS
    refine L_op (s_e hS (e_nilCheck rfl) rfl ?_); clear hS a; intro a hS
    first | (refine L_op (s_e hS (e_fa0 rfl ty_fo56_0) rfl ?_); clear hS a; intro a hS) | (refine L_op (s_e hS (e_faK rfl ty_fo56_0) rfl ?_); clear hS a; intro a hS)
    refine L_op (s_e hS (e_loadC rfl ty_sc54 (rrd_bk (by repeat constructor))) rfl ?_); clear hS a; intro a hS
    refine L_op (s_e hS (e_move rfl) rfl ?_); clear hS a; intro a hS
    refine L_op (s_e hS (e_ixN rfl rfl ty_sl54 ty_sz119 (by omega)) rfl ?_); clear hS a; intro a hS
    refine L_op (s_e hS (e_loadAC (l := encA x) rfl ty_st119 ty_sz119 (rrd_row (by repeat constructor) hx)) rfl ?_); clear hS a; intro a hS
    refine L_op (s_alloc hS ty_z119 rfl ?_); clear hS a; (try clear w); intro a w b10 hS
    refine L_op (s_storeA hS rfl rfl ty_sz119 (by repeat constructor) (by rfl) (by rfl) (by rfl) ?_); clear hS; (try clear w); intro w hS
    refine L_nil ?_
    refine n_then ?_
    refine c_seq ?_
    refine c_region ?_
    first | (refine L_op (s_e hS (e_fa0 rfl ty_fo119_4) rfl ?_); clear hS a; intro a hS) | (refine L_op (s_e hS (e_faK rfl ty_fo119_4) rfl ?_); clear hS a; intro a hS)
    refine L_op (s_e hS (e_load rfl (by repeat constructor) ty_sc9 (by rfl)) rfl ?_); clear hS a; intro a hS
    refine L_op (s_e hS (e_move rfl) rfl ?_); clear hS a; intro a hS
    refine L_op (s_e hS (e_binS rfl rfl rfl) rfl ?_); clear hS a; intro a hS
    refine L_op (s_e hS (e_move rfl) rfl ?_); clear hS a; intro a hS
    refine L_merge 4 35 (.bool (decide (x.v.account = s ∧ x.v.state ≠ 3))) hS ?_ ?_
    · intro hcM35
      (first | refine g_splitD (t := 31) hS rfl ?_ ?_ | refine g_split (t := 31) hS rfl ?_ ?_) <;> (clear hS; intro hg31 hS)
      ·
        first | (refine L_go hS rfl rfl (s_e hS (e_fa0 rfl ty_fo119_12) rfl ?_); clear hS a; intro a hS) | (refine L_go hS rfl rfl (s_e hS (e_faK rfl ty_fo119_12) rfl ?_); clear hS a; intro a hS)
        refine L_go hS rfl rfl (s_e hS (e_load rfl (by repeat constructor) ty_sc3 (by rfl)) rfl ?_); clear hS a; intro a hS
        refine L_go hS rfl rfl (s_e hS (e_bin rfl rfl rfl) rfl ?_); clear hS a; intro a hS
        first | (refine L_op (s_e hS (e_pick_t rfl rfl) rfl ?_); clear hS a; intro a hS) | (refine L_op (s_e hS (e_pick_f rfl rfl) rfl ?_); clear hS a; intro a hS)
        exact hcM35 _ _ (hS.ends 5 35 31 rfl (congrArg Value.bool (by exact decide_eq_decide.2 ⟨fun h => ⟨hg31, h⟩, fun h => h.2⟩)) rfl rfl (by first | exact congrArg Value.bool (decide_eq_true hg31).symm | exact congrArg Value.bool hg31.symm | simp [hg31]) rfl)
      ·
        refine L_skip_t hS rfl rfl rfl ?_; clear hS a; intro a hS
        refine L_skip_t hS rfl rfl rfl ?_; clear hS a; intro a hS
        refine L_skip_t hS rfl rfl rfl ?_; clear hS a; intro a hS
        first | (refine L_op (s_e hS (e_pick_t rfl rfl) rfl ?_); clear hS a; intro a hS) | (refine L_op (s_e hS (e_pick_f rfl rfl) rfl ?_); clear hS a; intro a hS)
        exact hcM35 _ _ (hS.ends 5 35 31 rfl (congrArg Value.bool (by exact (decide_eq_false (fun h => hg31 h.1)).symm)) rfl rfl (by first | exact congrArg Value.bool (decide_eq_false hg31).symm | exact congrArg Value.bool hg31.symm | simp [hg31]) rfl)
    · clear hS a; (try clear w); intro a w hS
      simp only [List.drop_succ_cons, List.drop_zero]
      refine L_op (s_e hS (e_move rfl) rfl ?_); clear hS a; intro a hS
      refine L_merge 5 41 (.bool (decide ((x.v.account = s ∧ x.v.state ≠ 3) ∧ x.v.from_ < t))) hS ?_ ?_
      · intro hcM41
        (first | refine g_splitD (t := 36) hS rfl ?_ ?_ | refine g_split (t := 36) hS rfl ?_ ?_) <;> (clear hS; intro hg36 hS)
        ·
          first | (refine L_go hS rfl rfl (s_e hS (e_fa0 rfl ty_fo119_2) rfl ?_); clear hS a; intro a hS) | (refine L_go hS rfl rfl (s_e hS (e_faK rfl ty_fo119_2) rfl ?_); clear hS a; intro a hS)
          refine L_go hS rfl rfl (s_e hS (e_load rfl (by repeat constructor) ty_sc3 (by rfl)) rfl ?_); clear hS a; intro a hS
          refine L_go hS rfl rfl (s_e hS (e_move rfl) rfl ?_); clear hS a; intro a hS
          refine L_go hS rfl rfl (s_e hS (e_bin rfl rfl rfl) rfl ?_); clear hS a; intro a hS
          first | (refine L_op (s_e hS (e_pick_t rfl rfl) rfl ?_); clear hS a; intro a hS) | (refine L_op (s_e hS (e_pick_f rfl rfl) rfl ?_); clear hS a; intro a hS)
          exact hcM41 _ _ (hS.ends 6 41 36 rfl (congrArg Value.bool (by exact decide_eq_decide.2 ⟨fun h => ⟨hg36, h⟩, fun h => h.2⟩)) rfl rfl (by first | exact congrArg Value.bool (decide_eq_true hg36).symm | exact congrArg Value.bool hg36.symm | simp [hg36]) rfl)
        ·
          refine L_skip_t hS rfl rfl rfl ?_; clear hS a; intro a hS
          refine L_skip_t hS rfl rfl rfl ?_; clear hS a; intro a hS
          refine L_skip_t hS rfl rfl rfl ?_; clear hS a; intro a hS
          refine L_skip_t hS rfl rfl rfl ?_; clear hS a; intro a hS
          first | (refine L_op (s_e hS (e_pick_t rfl rfl) rfl ?_); clear hS a; intro a hS) | (refine L_op (s_e hS (e_pick_f rfl rfl) rfl ?_); clear hS a; intro a hS)
          exact hcM41 _ _ (hS.ends 6 41 36 rfl (congrArg Value.bool (by exact (decide_eq_false (fun h => hg36 h.1)).symm)) rfl rfl (by first | exact congrArg Value.bool (decide_eq_false hg36).symm | exact congrArg Value.bool hg36.symm | simp [hg36]) rfl)
      · clear hS a; (try clear w); intro a w hS
        simp only [List.drop_succ_cons, List.drop_zero]
        refine L_op (s_e hS (e_move rfl) rfl ?_); clear hS a; intro a hS
        refine L_merge 5 47 (.bool (decide (((x.v.account = s ∧ x.v.state ≠ 3) ∧ x.v.from_ < t) ∧ f < x.v.to_))) hS ?_ ?_
        · intro hcM47
          (first | refine g_splitD (t := 42) hS rfl ?_ ?_ | refine g_split (t := 42) hS rfl ?_ ?_) <;> (clear hS; intro hg42 hS)
          ·
            refine L_go hS rfl rfl (s_e hS (e_move rfl) rfl ?_); clear hS a; intro a hS
            first | (refine L_go hS rfl rfl (s_e hS (e_fa0 rfl ty_fo119_3) rfl ?_); clear hS a; intro a hS) | (refine L_go hS rfl rfl (s_e hS (e_faK rfl ty_fo119_3) rfl ?_); clear hS a; intro a hS)
            refine L_go hS rfl rfl (s_e hS (e_load rfl (by repeat constructor) ty_sc3 (by rfl)) rfl ?_); clear hS a; intro a hS
            refine L_go hS rfl rfl (s_e hS (e_bin rfl rfl rfl) rfl ?_); clear hS a; intro a hS
            first | (refine L_op (s_e hS (e_pick_t rfl rfl) rfl ?_); clear hS a; intro a hS) | (refine L_op (s_e hS (e_pick_f rfl rfl) rfl ?_); clear hS a; intro a hS)
            exact hcM47 _ _ (hS.ends 6 47 42 rfl (congrArg Value.bool (by exact decide_eq_decide.2 ⟨fun h => ⟨hg42, h⟩, fun h => h.2⟩)) rfl rfl (by first | exact congrArg Value.bool (decide_eq_true hg42).symm | exact congrArg Value.bool hg42.symm | simp [hg42]) rfl)
          ·
            refine L_skip_t hS rfl rfl rfl ?_; clear hS a; intro a hS
            refine L_skip_t hS rfl rfl rfl ?_; clear hS a; intro a hS
            refine L_skip_t hS rfl rfl rfl ?_; clear hS a; intro a hS
            refine L_skip_t hS rfl rfl rfl ?_; clear hS a; intro a hS
            first | (refine L_op (s_e hS (e_pick_t rfl rfl) rfl ?_); clear hS a; intro a hS) | (refine L_op (s_e hS (e_pick_f rfl rfl) rfl ?_); clear hS a; intro a hS)
            exact hcM47 _ _ (hS.ends 6 47 42 rfl (congrArg Value.bool (by exact (decide_eq_false (fun h => hg42 h.1)).symm)) rfl rfl (by first | exact congrArg Value.bool (decide_eq_false hg42).symm | exact congrArg Value.bool hg42.symm | simp [hg42]) rfl)
        · clear hS a; (try clear w); intro a w hS
          simp only [List.drop_succ_cons, List.drop_zero]
          refine L_nil ?_
          refine n_then ?_
          first | refine c_ifD hS rfl (fun hc47 => ?_) (fun hc47 => ?_) | refine c_if hS rfl (fun hc47 => ?_) (fun hc47 => ?_)
          ·
            refine c_seq ?_
            refine c_region ?_
            refine L_op (s_e hS (e_assign rfl) rfl ?_); clear hS a; intro a hS
            refine L_nil ?_
            refine n_then ?_
            refine wp_ret ?_
            refine r_block (r_then (r_then (r_block (r_then ?_))))
            refine c_ret1 hS Try.results78 (.tmp rfl) ?_
            have hb : billedB s f t x.v = true := by unfold billedB; simp [hc47.1.1.1, hc47.1.1.2, hc47.1.2, hc47.2]
            have hne : (vs its).filter (billedB s f t) ≠ [] := fun he => by
              have := List.mem_filter.2 ⟨List.mem_map.2 ⟨x, List.mem_of_getElem? hx, rfl⟩, hb⟩
              rw [show its.map (·.v) = vs its from rfl, he] at this; cases this
            exact ⟨by rw [decide_eq_true hne], hS.chg⟩
          ·
            refine wp_skip ?_
            refine n_block ?_
            refine n_then ?_
            refine c_region ?_
            refine L_op (s_e hS (e_move rfl) rfl ?_); clear hS a; intro a hS
            first | (refine L_op (s_e hS (e_binN rfl rfl rfl (by omega)) rfl ?_); clear hS a; intro a hS) | (refine L_op (s_e hS (e_bin rfl rfl rfl) rfl ?_); clear hS a; intro a hS)
            refine L_op (s_e hS (e_assign rfl) rfl ?_); clear hS a; intro a hS
            refine L_nil ?_
            have hb : billedB s f t x.v = false := by
              unfold billedB
              by_cases h1 : x.v.account = s <;> by_cases h2 : x.v.state = 3 <;> by_cases h3 : x.v.from_ < t <;> by_cases h4 : f < x.v.to_ <;> simp [h1, h2, h3, h4] <;> exact hc47 ⟨⟨⟨h1, h2⟩, h3⟩, h4⟩
            exact ⟨k + 1, by omega, (hS.slots (by repeat (first | exact trivial | refine ⟨rfl, ?_⟩))).pick (by repeat (first | exact Pick.nil | (refine Pick.cons (by repeat (first | exact Rem.head | apply Rem.tail)) ?_))), by omega, fun j hj y hy => by
              by_cases e : j = k
              · subst e; rw [hx] at hy; cases hy; exact hb
              · exact hno j (by omega) y hy⟩
  ·
    refine wp_exit ?_
    refine x_then (x_then (x_hit ?_))
    refine n_then ?_
    refine c_seq ?_
    refine c_region ?_
    refine L_op (s_e hS (e_assign rfl) rfl ?_); clear hS a; intro a hS
    refine L_nil ?_
    refine n_then ?_
    refine wp_ret ?_
    refine c_ret1 hS Try.results78 (.tmp rfl) ?_
    have he : (vs its).filter (billedB s f t) = [] := by
      rw [List.filter_eq_nil_iff]
      intro v hv
      obtain ⟨y, hy, rfl⟩ := List.mem_map.1 hv
      obtain ⟨j, hj, rfl⟩ := List.mem_iff_getElem.1 hy
      rw [hno j (by omega) _ (List.getElem?_eq_getElem hj)]; decide
    exact ⟨by rw [he]; rfl, hS.chg⟩
end Go.Proofs.Ytfiaobhkhedpiaa
