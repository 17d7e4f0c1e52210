/- The book laws' operations, walked: few, an issue of an operation's lines. -/
import Derived.Test.YtfiaobhkhedpiaaLOpen2
namespace Go.Proofs.Ytfiaobhkhedpiaa
open Go.RowKit

theorem slv_inj {p q : Option (Nat × Nat)} {m m' c c' : Nat} (h : sliceV p m c = sliceV q m' c') : p = q ∧ m = m' ∧ c = c' := by
  unfold sliceV at h
  injection h with h1 h2 h3
  refine ⟨?_, h2, h3⟩
  cases p <;> cases q <;> simp at h1 ⊢
  exact Prod.ext h1.1 h1.2
theorem LnAt.shape {v : Value} {l : List RLine} {w : World} (h : LnAt v l w) : ∃ a c, v = .slice a l.length c := by
  rcases h with ⟨rfl, a, c, rfl⟩ | ⟨b, off, c, _, rfl, _, _⟩
  · exact ⟨a, c, rfl⟩
  · exact ⟨_, c, rfl⟩
theorem LnAt.some {v : Value} {l : List RLine} {w : World} (h : LnAt v l w) (hne : l ≠ []) : ∃ b off c, v = sliceV (some (b, off)) l.length c ∧ RowAt b off 4 (l.map encL) w ∧ b < w.heap.size := by
  rcases h with ⟨h0, _⟩ | ⟨b, off, c, _, h1, h2, h3⟩
  · exact absurd h0 hne
  · exact ⟨b, off, c, h1, h2, h3⟩
theorem ops_get {Γ : List Asn} {b off : Nat} {l : List ROp} (hm : opsA (some (b, off)) l ∈ Γ) {i : Nat} {x : ROp} (hx : l[i]? = some x) : ∀ w, Hd Γ w → ∀ j v, (encO x)[j]? = some v → w.cell? ⟨b, off + i * 9 + j, none⟩ = some v :=
  fun _ hh j v hj => (hh _ hm).1 i (encO x) (by simp [hx]) j v hj
theorem ops_pos {p : Option (Nat × Nat)} {l : List ROp} {w : World} (h : opsφ p l w) {i : Nat} {x : ROp} (hx : l[i]? = some x) : ∃ b off, p = some (b, off) :=
  rowP_some h.1 (i := i) (x := encO x) (by simp [hx])

def fewO (o : ROp) : Prop := o.account.size ≤ 300 ∧ o.cur.size ≤ 300 ∧ o.lines.length ≤ 60 ∧ ∀ y ∈ o.lines, y.meter.size ≤ 300
instance (o : ROp) : Decidable (fewO o) := by unfold fewO; infer_instance
def fewL (l : List ROp) : Prop := l.length ≤ 60 ∧ ∀ o ∈ l, fewO o
instance (l : List ROp) : Decidable (fewL l) := by unfold fewL; infer_instance
theorem not_few {l : List ROp} {i : Nat} {x : ROp} (hx : l[i]? = some x) (h : ¬ fewO x) : decide (fewL l) = false := decide_eq_false (fun hh => h (hh.2 x (List.mem_of_getElem? hx)))

set_option maxRecDepth 100000 in
theorem few_P (p : Option (Nat × Nat)) (c : Nat) (l : List ROp) (hlen : l.length ≤ 4611686018427387904) (hfit : ∀ x ∈ l, x.fits) (w0 : World) (h : opsφ p l w0) (hb : ∀ q, p = some q → q.1 < w0.heap.size) :
     PureC Try.prog 20 [sliceV p l.length c] w0 (.bool (decide (fewL l))) := by
   refine c_enter [(0, sliceV p l.length c)] [opsA p l] noB Try.func20 rfl Try.ntmps20 ⟨rfl, trivial⟩ rfl (okC (ops_ok h hb) okN) dis1 (mineC (by rfl) mineN) ?_
   intro a hS
   refine c_seq ?_
   refine c_region ?_
   refine L_op (s_e hS (e_assign rfl) rfl ?_); clear hS a; intro a hS
   refine L_nil ?_
   refine n_then ?_
   refine c_seq ?_
   refine c_seq ?_
   refine c_region ?_
   refine L_op (s_e hS (e_assign rfl) rfl ?_); clear hS a; intro a hS
   refine L_nil ?_
   refine n_then ?_
   refine wp_block ?_
   skip
   refine c_loop (γ := Nat) (fun k a w => St 64 noB w0 a w [(3, .int .i64 (k : Int)), (0, sliceV p l.length c)] [opsA p l] ∧ k ≤ l.length ∧ ∀ j, j < k → ∀ y, l[j]? = some y → fewO y) (fun k => l.length - k) 0 ⟨hS.slots ⟨rfl, rfl, trivial⟩, Nat.zero_le _, fun j hj => by omega⟩ ?_
   clear hS a; (try clear w); intro k a w hI
   obtain ⟨hS, hk, hno⟩ := hI
   refine c_seq ?_
   refine c_seq ?_
   refine c_region ?_
   refine L_op (s_e hS (e_move rfl) rfl ?_); clear hS a; intro a hS
   refine L_op (s_e hS (e_move rfl) rfl ?_); clear hS a; intro a hS
   refine L_op (s_e hS (e_len rfl rfl ty_sl39) rfl ?_); clear hS a; intro a hS
   refine L_op (s_e hS (e_bin rfl rfl rfl) rfl ?_); clear hS a; intro a hS
   refine L_op (s_e hS (e_move rfl) rfl ?_); clear hS a; intro a hS
   (first | refine g_splitD (t := 9) hS rfl ?_ ?_ | refine g_split (t := 9) hS rfl ?_ ?_) <;> (clear hS; intro hkl hS)
   ·
     refine L_go hS rfl rfl (s_e hS (e_move rfl) rfl ?_); clear hS a; intro a hS
     refine L_go hS rfl rfl (s_e hS (e_bin rfl rfl rfl) rfl ?_); clear hS a; intro a hS
     first | (refine L_op (s_e hS (e_pick_t rfl rfl) rfl ?_); clear hS a; intro a hS) | (refine L_op (s_e hS (e_pick_f rfl rfl) rfl ?_); clear hS a; intro a hS)
     refine L_nil ?_
     refine n_then ?_
     first | refine c_ifD hS rfl (fun hc12 => ?_) (fun hc12 => ?_) | refine c_if hS rfl (fun hc12 => ?_) (fun hc12 => ?_)
     ·
       have hkl : k < l.length := by
         first | omega | (simp at hc12; omega)
       obtain ⟨x, hx⟩ : ∃ x, l[k]? = some x := ⟨l[k], by simp⟩
       obtain ⟨b, off, rfl⟩ := ops_pos h hx
       have hxm := List.mem_of_getElem? hx
       obtain ⟨la, lc, hlv⟩ := LnAt.shape (h.2 x hxm)
       have hxf := hfit x hxm
       have hxs := hxf.account
       have hxc := hxf.cur
       have hxl := hxf.lines.2
       refine wp_skip ?_
       refine n_then ?_
       refine c_seq ?_
       refine wp_block ?_
       refine c_seq ?_
       refine c_seq ?_
       refine c_region ?_
       refine L_op (s_e hS (e_move rfl) rfl ?_); clear hS a; intro a hS
       refine L_op (s_e hS (e_move rfl) rfl ?_); clear hS a; intro a hS
       refine L_op (s_e hS (e_ixN rfl rfl ty_sl39 ty_sz44 (by omega)) rfl ?_); clear hS a; intro a hS
       first | (refine L_op (s_e hS (e_fa0 rfl ty_fo44_4) rfl ?_); clear hS a; intro a hS) | (refine L_op (s_e hS (e_faK rfl ty_fo44_4) rfl ?_); clear hS a; intro a hS)
       refine L_op (s_e hS (e_loadC rfl ty_sc9 (fun w hh => ops_get (by repeat constructor) hx w hh 4 (.string x.account) rfl)) rfl ?_); clear hS a; intro a hS
       refine L_op (s_e hS (e_lenS rfl rfl ty_u9) rfl ?_); clear hS a; intro a hS
       refine L_op (s_e hS (e_bin rfl rfl rfl) rfl ?_); clear hS a; intro a hS
       refine L_op (s_e hS (e_move rfl) rfl ?_); clear hS a; intro a hS
       (first | refine g_splitD (t := 22) hS rfl ?_ ?_ | refine g_split (t := 22) hS rfl ?_ ?_) <;> (clear hS; intro hg22 hS)
       ·
         refine L_skip_f hS rfl rfl rfl ?_; clear hS a; intro a hS
         refine L_skip_f hS rfl rfl rfl ?_; clear hS a; intro a hS
         refine L_skip_f hS rfl rfl rfl ?_; clear hS a; intro a hS
         refine L_skip_f hS rfl rfl rfl ?_; clear hS a; intro a hS
         refine L_skip_f hS rfl rfl rfl ?_; clear hS a; intro a hS
         refine L_skip_f hS rfl rfl rfl ?_; clear hS a; intro a hS
         refine L_skip_f hS rfl rfl rfl ?_; clear hS a; intro a hS
         first | (refine L_op (s_e hS (e_pick_t rfl rfl) rfl ?_); clear hS a; intro a hS) | (refine L_op (s_e hS (e_pick_f rfl rfl) rfl ?_); clear hS a; intro a hS)
         refine L_op (s_e hS (e_move rfl) rfl ?_); clear hS a; intro a hS
         refine L_skip_f hS rfl rfl rfl ?_; clear hS a; intro a hS
         refine L_skip_f hS rfl rfl rfl ?_; clear hS a; intro a hS
         refine L_skip_f hS rfl rfl rfl ?_; clear hS a; intro a hS
         refine L_skip_f hS rfl rfl rfl ?_; clear hS a; intro a hS
         refine L_skip_f hS rfl rfl rfl ?_; clear hS a; intro a hS
         refine L_skip_f hS rfl rfl rfl ?_; clear hS a; intro a hS
         refine L_skip_f hS rfl rfl rfl ?_; clear hS a; intro a hS
         first | (refine L_op (s_e hS (e_pick_t rfl rfl) rfl ?_); clear hS a; intro a hS) | (refine L_op (s_e hS (e_pick_f rfl rfl) rfl ?_); clear hS a; intro a hS)
         refine L_nil ?_
         refine n_then ?_
         refine c_if_t hS rfl ?_
         refine c_seq ?_
         refine c_region ?_
         refine L_op (s_e hS (e_assign rfl) rfl ?_); clear hS a; intro a hS
         refine L_nil ?_
         refine n_then ?_
         refine wp_ret ?_
         refine r_then (r_block (r_then (r_then (r_block (r_then ?_)))))
         refine c_ret1 hS Try.results20 (.tmp rfl) ?_
         rw [not_few hx (by unfold fewO; first | omega | (simp at *; omega))]; exact ⟨rfl, hS.chg⟩
       ·
         refine L_go hS rfl rfl (s_e hS (e_move rfl) rfl ?_); clear hS a; intro a hS
         refine L_go hS rfl rfl (s_e hS (e_move rfl) rfl ?_); clear hS a; intro a hS
         refine L_go hS rfl rfl (s_e hS (e_ixN rfl rfl ty_sl39 ty_sz44 (by omega)) rfl ?_); clear hS a; intro a hS
         first | (refine L_go hS rfl rfl (s_e hS (e_fa0 rfl ty_fo44_5) rfl ?_); clear hS a; intro a hS) | (refine L_go hS rfl rfl (s_e hS (e_faK rfl ty_fo44_5) rfl ?_); clear hS a; intro a hS)
         refine L_go hS rfl rfl (s_e hS (e_loadC rfl ty_sc9 (fun w hh => ops_get (by repeat constructor) hx w hh 5 (.string x.cur) rfl)) rfl ?_); clear hS a; intro a hS
         refine L_go hS rfl rfl (s_e hS (e_lenS rfl rfl ty_u9) rfl ?_); clear hS a; intro a hS
         refine L_go hS rfl rfl (s_e hS (e_bin rfl rfl rfl) rfl ?_); clear hS a; intro a hS
         first | (refine L_op (s_e hS (e_pick_t rfl rfl) rfl ?_); clear hS a; intro a hS) | (refine L_op (s_e hS (e_pick_f rfl rfl) rfl ?_); clear hS a; intro a hS)
         refine L_op (s_e hS (e_move rfl) rfl ?_); clear hS a; intro a hS
         (first | refine g_splitD (t := 31) hS rfl ?_ ?_ | refine g_split (t := 31) hS rfl ?_ ?_) <;> (clear hS; intro hg31 hS)
         ·
           refine L_skip_f hS rfl rfl rfl ?_; clear hS a; intro a hS
           refine L_skip_f hS rfl rfl rfl ?_; clear hS a; intro a hS
           refine L_skip_f hS rfl rfl rfl ?_; clear hS a; intro a hS
           refine L_skip_f hS rfl rfl rfl ?_; clear hS a; intro a hS
           refine L_skip_f hS rfl rfl rfl ?_; clear hS a; intro a hS
           refine L_skip_f hS rfl rfl rfl ?_; clear hS a; intro a hS
           refine L_skip_f hS rfl rfl rfl ?_; clear hS a; intro a hS
           first | (refine L_op (s_e hS (e_pick_t rfl rfl) rfl ?_); clear hS a; intro a hS) | (refine L_op (s_e hS (e_pick_f rfl rfl) rfl ?_); clear hS a; intro a hS)
           refine L_nil ?_
           refine n_then ?_
           refine c_if_t hS rfl ?_
           refine c_seq ?_
           refine c_region ?_
           refine L_op (s_e hS (e_assign rfl) rfl ?_); clear hS a; intro a hS
           refine L_nil ?_
           refine n_then ?_
           refine wp_ret ?_
           refine r_then (r_block (r_then (r_then (r_block (r_then ?_)))))
           refine c_ret1 hS Try.results20 (.tmp rfl) ?_
           rw [not_few hx (by unfold fewO; first | omega | (simp at *; omega))]; exact ⟨rfl, hS.chg⟩
         ·
           refine L_go hS rfl rfl (s_e hS (e_move rfl) rfl ?_); clear hS a; intro a hS
           refine L_go hS rfl rfl (s_e hS (e_move rfl) rfl ?_); clear hS a; intro a hS
           refine L_go hS rfl rfl (s_e hS (e_ixN rfl rfl ty_sl39 ty_sz44 (by omega)) rfl ?_); clear hS a; intro a hS
           first | (refine L_go hS rfl rfl (s_e hS (e_fa0 rfl ty_fo44_6) rfl ?_); clear hS a; intro a hS) | (refine L_go hS rfl rfl (s_e hS (e_faK rfl ty_fo44_6) rfl ?_); clear hS a; intro a hS)
           refine L_go hS rfl rfl (s_e hS (e_loadC rfl ty_sc22 (fun w hh => ops_get (by repeat constructor) hx w hh 6 x.lv rfl)) rfl ?_); clear hS a; intro a hS
           rw [hlv] at hS
           refine L_go hS rfl rfl (s_e hS (e_len rfl rfl ty_sl22) rfl ?_); clear hS a; intro a hS
           refine L_go hS rfl rfl (s_e hS (e_bin rfl rfl rfl) rfl ?_); clear hS a; intro a hS
           first | (refine L_op (s_e hS (e_pick_t rfl rfl) rfl ?_); clear hS a; intro a hS) | (refine L_op (s_e hS (e_pick_f rfl rfl) rfl ?_); clear hS a; intro a hS)
           refine L_nil ?_
           refine n_then ?_
           first | refine c_ifD hS rfl (fun hc39 => ?_) (fun hc39 => ?_) | refine c_if hS rfl (fun hc39 => ?_) (fun hc39 => ?_)
           ·
             refine c_seq ?_
             refine c_region ?_
             refine L_op (s_e hS (e_assign rfl) rfl ?_); clear hS a; intro a hS
             refine L_nil ?_
             refine n_then ?_
             refine wp_ret ?_
             refine r_then (r_block (r_then (r_then (r_block (r_then ?_)))))
             refine c_ret1 hS Try.results20 (.tmp rfl) ?_
             rw [not_few hx (by unfold fewO; first | omega | (simp at *; omega))]; exact ⟨rfl, hS.chg⟩
           ·
             refine wp_skip ?_
             refine n_then ?_
             refine c_seq ?_
             refine c_region ?_
             refine L_op (s_e hS (e_assign rfl) rfl ?_); clear hS a; intro a hS
             refine L_nil ?_
             refine n_then ?_
             refine wp_block ?_
             skip
             refine c_loop (γ := Nat) (fun m a w => St 64 noB w0 a w [(4, .int .i64 (m : Int)), (3, .int .i64 (k : Int)), (0, sliceV (some (b, off)) l.length c)] [opsA (some (b, off)) l] ∧ m ≤ x.lines.length ∧ ∀ j, j < m → ∀ y, x.lines[j]? = some y → y.meter.size ≤ 300) (fun m => x.lines.length - m) 0 ⟨hS.slots ⟨rfl, rfl, rfl, trivial⟩, Nat.zero_le _, fun j hj => by omega⟩ ?_
             clear hS a; (try clear w); intro m a w hI
             obtain ⟨hS, hm, hmo⟩ := hI
             refine c_seq ?_
             refine c_seq ?_
             refine c_region ?_
             refine L_op (s_e hS (e_move rfl) rfl ?_); clear hS a; intro a hS
             refine L_op (s_e hS (e_move rfl) rfl ?_); clear hS a; intro a hS
             refine L_op (s_e hS (e_move rfl) rfl ?_); clear hS a; intro a hS
             refine L_op (s_e hS (e_ixN rfl rfl ty_sl39 ty_sz44 (by omega)) rfl ?_); clear hS a; intro a hS
             first | (refine L_op (s_e hS (e_fa0 rfl ty_fo44_6) rfl ?_); clear hS a; intro a hS) | (refine L_op (s_e hS (e_faK rfl ty_fo44_6) rfl ?_); clear hS a; intro a hS)
             refine L_op (s_e hS (e_loadC rfl ty_sc22 (fun w hh => ops_get (by repeat constructor) hx w hh 6 x.lv rfl)) rfl ?_); clear hS a; intro a hS
             rw [hlv] at hS
             refine L_op (s_e hS (e_len rfl rfl ty_sl22) rfl ?_); clear hS a; intro a hS
             refine L_op (s_e hS (e_bin rfl rfl rfl) rfl ?_); clear hS a; intro a hS
             refine L_nil ?_
             refine n_then ?_
             first | refine c_ifD hS rfl (fun hc47 => ?_) (fun hc47 => ?_) | refine c_if hS rfl (fun hc47 => ?_) (fun hc47 => ?_)
             ·
               obtain ⟨y, hy⟩ : ∃ y, x.lines[m]? = some y := ⟨x.lines[m]'(by omega), List.getElem?_eq_getElem (by omega)⟩
               have hyf := hxf.lines.1 y (List.mem_of_getElem? hy)
               have hys := hyf.1
               refine wp_skip ?_
               refine n_then ?_
               refine c_seq ?_
               refine wp_block ?_
               refine c_seq ?_
               refine c_region ?_
               refine L_op (s_e hS (e_move rfl) rfl ?_); clear hS a; intro a hS
               refine L_op (s_e hS (e_move rfl) rfl ?_); clear hS a; intro a hS
               refine L_op (s_e hS (e_ixN rfl rfl ty_sl39 ty_sz44 (by omega)) rfl ?_); clear hS a; intro a hS
               first | (refine L_op (s_e hS (e_fa0 rfl ty_fo44_6) rfl ?_); clear hS a; intro a hS) | (refine L_op (s_e hS (e_faK rfl ty_fo44_6) rfl ?_); clear hS a; intro a hS)
               refine L_op (s_e hS (e_loadC rfl ty_sc22 (fun w hh => ops_get (by repeat constructor) hx w hh 6 x.lv rfl)) rfl ?_); clear hS a; intro a hS
               obtain ⟨b2, off2, c2, hlv2, _, _⟩ := LnAt.some ((hS.get (X := opsA (some (b, off)) l) (by repeat constructor)).2 x hxm) (fun e => by rw [e] at hy; simp at hy)
               rw [hlv2] at hS
               refine L_op (s_e hS (e_move rfl) rfl ?_); clear hS a; intro a hS
               refine L_op (s_e hS (e_ixN rfl rfl ty_sl22 ty_sz26 (by omega)) rfl ?_); clear hS a; intro a hS
               first | (refine L_op (s_e hS (e_fa0 rfl ty_fo26_0) rfl ?_); clear hS a; intro a hS) | (refine L_op (s_e hS (e_faK rfl ty_fo26_0) rfl ?_); clear hS a; intro a hS)
               refine L_op (s_e hS (e_loadC rfl ty_sc9 (fun w hh => by
 obtain ⟨b3, off3, c3, hlv3, hr3, _⟩ := LnAt.some ((hh (opsA (some (b, off)) l) (by repeat constructor)).2 x hxm) (fun e => by rw [e] at hy; simp at hy)
 rw [hlv3] at hlv2
 obtain ⟨e1, _, _⟩ := slv_inj hlv2
 cases e1
 exact hr3 m (encL y) (by simp [hy]) 0 (.string y.meter) rfl)) rfl ?_); clear hS a; intro a hS
               refine L_op (s_e hS (e_lenS rfl rfl ty_u9) rfl ?_); clear hS a; intro a hS
               refine L_op (s_e hS (e_bin rfl rfl rfl) rfl ?_); clear hS a; intro a hS
               refine L_nil ?_
               refine n_then ?_
               first | refine c_ifD hS rfl (fun hc60 => ?_) (fun hc60 => ?_) | refine c_if hS rfl (fun hc60 => ?_) (fun hc60 => ?_)
               ·
                 refine c_seq ?_
                 refine c_region ?_
                 refine L_op (s_e hS (e_assign rfl) rfl ?_); clear hS a; intro a hS
                 refine L_nil ?_
                 refine n_then ?_
                 refine wp_ret ?_
                 refine r_block (r_then (r_then (r_block (r_block (r_then (r_then (r_block (r_then ?_))))))))
                 refine c_ret1 hS Try.results20 (.tmp rfl) ?_
                 rw [not_few hx (fun hh => by have := hh.2.2.2 y (List.mem_of_getElem? hy); omega)]; exact ⟨rfl, hS.chg⟩
               ·
                 refine wp_skip ?_
                 refine n_block ?_
                 refine n_then ?_
                 refine c_region ?_
                 refine L_op (s_e hS (e_move rfl) rfl ?_); clear hS a; intro a hS
                 first | (refine L_op (s_e hS (e_binN rfl rfl rfl (by omega)) rfl ?_); clear hS a; intro a hS) | (refine L_op (s_e hS (e_bin rfl rfl rfl) rfl ?_); clear hS a; intro a hS)
                 refine L_op (s_e hS (e_assign rfl) rfl ?_); clear hS a; intro a hS
                 refine L_nil ?_
                 exact ⟨m + 1, by omega, hS.slots (by repeat (first | exact trivial | refine ⟨rfl, ?_⟩)), by omega, fun j hj z hz => by
                 by_cases e : j = m
                 · subst e; rw [hy] at hz; cases hz; omega
                 · exact hmo j (by omega) z hz⟩
             ·
               refine wp_exit ?_
               refine x_then (x_then (x_hit ?_))
               refine n_block ?_
               refine n_then ?_
               refine c_region ?_
               refine L_op (s_e hS (e_move rfl) rfl ?_); clear hS a; intro a hS
               first | (refine L_op (s_e hS (e_binN rfl rfl rfl (by omega)) rfl ?_); clear hS a; intro a hS) | (refine L_op (s_e hS (e_bin rfl rfl rfl) rfl ?_); clear hS a; intro a hS)
               refine L_op (s_e hS (e_assign rfl) rfl ?_); clear hS a; intro a hS
               refine L_nil ?_
               exact ⟨k + 1, by omega, hS.slots (by repeat (first | exact trivial | refine ⟨rfl, ?_⟩)), by omega, fun j hj z hz => by
               by_cases e : j = k
               · subst e; rw [hx] at hz; cases hz
                 refine ⟨by omega, by omega, by omega, fun y hy => ?_⟩
                 obtain ⟨i, hi, rfl⟩ := List.mem_iff_getElem.1 hy
                 exact hmo i (by omega) _ (List.getElem?_eq_getElem hi)
               · exact hno j (by omega) z hz⟩
     ·
       refine wp_exit ?_
       refine x_then (x_then (x_hit ?_))
       refine n_then ?_
       refine c_seq ?_
       refine c_region ?_
       refine L_op (s_e hS (e_move rfl) rfl ?_); clear hS a; intro a hS
       refine L_op (s_e hS (e_len rfl rfl ty_sl39) rfl ?_); clear hS a; intro a hS
       refine L_op (s_e hS (e_bin rfl rfl rfl) rfl ?_); clear hS a; intro a hS
       refine L_op (s_e hS (e_assign rfl) rfl ?_); clear hS a; intro a hS
       refine L_nil ?_
       refine n_then ?_
       refine wp_ret ?_
       refine c_ret1 hS Try.results20 (.tmp rfl) ?_
       refine ⟨?_, hS.chg⟩
       congr 2
       rw [decide_eq_decide]
       constructor
       · intro h1
         have hkl : k = l.length := by first | omega | (simp at hc12; omega)
         refine ⟨by omega, fun o ho => ?_⟩
         obtain ⟨i, hi, rfl⟩ := List.mem_iff_getElem.1 ho
         exact hno i (by omega) _ (List.getElem?_eq_getElem hi)
       · intro h1
         have := h1.1; omega
   ·
     refine L_skip_t hS rfl rfl rfl ?_; clear hS a; intro a hS
     refine L_skip_t hS rfl rfl rfl ?_; clear hS a; intro a hS
     first | (refine L_op (s_e hS (e_pick_t rfl rfl) rfl ?_); clear hS a; intro a hS) | (refine L_op (s_e hS (e_pick_f rfl rfl) rfl ?_); clear hS a; intro a hS)
     refine L_nil ?_
     refine n_then ?_
     refine c_if_f hS rfl ?_
     refine wp_exit ?_
     refine x_then (x_then (x_hit ?_))
     refine n_then ?_
     refine c_seq ?_
     refine c_region ?_
     refine L_op (s_e hS (e_move rfl) rfl ?_); clear hS a; intro a hS
     refine L_op (s_e hS (e_len rfl rfl ty_sl39) rfl ?_); clear hS a; intro a hS
     refine L_op (s_e hS (e_bin rfl rfl rfl) rfl ?_); clear hS a; intro a hS
     refine L_op (s_e hS (e_assign rfl) rfl ?_); clear hS a; intro a hS
     refine L_nil ?_
     refine n_then ?_
     refine wp_ret ?_
     refine c_ret1 hS Try.results20 (.tmp rfl) ?_
     refine ⟨?_, hS.chg⟩
     congr 2
     rw [decide_eq_decide]
     constructor
     · intro h1
       have hkl : k = l.length := by first | omega | (simp at hc12; omega)
       refine ⟨by omega, fun o ho => ?_⟩
       obtain ⟨i, hi, rfl⟩ := List.mem_iff_getElem.1 ho
       exact hno i (by omega) _ (List.getElem?_eq_getElem hi)
     · intro h1
       have := h1.1; omega
end Go.Proofs.Ytfiaobhkhedpiaa
