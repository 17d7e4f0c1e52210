/- The ledger: Open, copies of postings, and the error of postings, walked. -/
import Derived.Test.YtheofhegdjjfgaaLed2
import Derived.Test.YtheofhegdjjfgaaSe14
namespace Go.Proofs.Ytheofhegdjjfgaa
open Go.RowKit

section
variable {P : Program} {n : Nat} {a : Act} {L : List (Nat × Value)} {Γ : List Asn} {dst : Option Nat} {ty : Nat} {pos : String} {af : Array Edge} {g : Option (Nat × Bool)}
theorem e_lenM {x : Operand} {ts : Array TypeId} {T Kt Et b : Nat} {l : List (ByteArray × Value)} (hx : ev L x = some (.map (some b))) (ht : ts[0]? = some T) (hu : mapT P T = some (Kt, Et)) (hm : ∀ w, Hd Γ w → w.heap[b]? = some (.map (mkM 0 l).toArray l.length)) :
    Ex P n a L Γ ⟨dst, .call ⟨.builtin .len, #[x], ts⟩, ty, pos, af, g⟩ (.int .i64 (l.length : Int)) := fun hs w hh => by
  have hb := hm w hh
  simp [execOp, resolve, invoke, builtin, Builtin.len_, hs.ev hx, ht, underlying, mapT_eq hu, goInt, getObj, Sem.run, hb, mkM_len]
theorem e_lookupTC {T Kt Et b : Nat} {x y : Operand} {k : ByteArray} {l : List (ByteArray × Value)} {z : Value} (hx : ev L x = some (.map (some b))) (hy : ev L y = some (.string k))
    (hT : mapT P T = some (Kt, Et)) (hD : P.underlying Kt = some .string) (hz : zvOf P Et = some z) (hm : ∀ w, Hd Γ w → w.heap[b]? = some (.map (mkM 0 l).toArray l.length)) : Ex P n a L Γ ⟨dst, .lookup T x y true, ty, pos, af, g⟩ (.tuple [lkM l k z, .bool (hasM l k)].toArray) := fun hs w hh =>
  e_lookupT (Γ := [smapA b l]) hx hy hT hD hz (.head _) hs w (fun X hX => by obtain rfl := List.mem_singleton.1 hX; exact hm w hh)
theorem lkM_set (l : List (ByteArray × Value)) (k : ByteArray) (v z : Value) : lkM (setM l k v) k z = v := by
  unfold lkM
  have h : ∀ (l : List (ByteArray × Value)) (m : Nat), ∃ i, idxM (setM l k v) k m = some (i, v) := by
    intro l
    induction l with
    | nil => intro m; exact ⟨m, by simp [setM, idxM]⟩
    | cons p r ih =>
      obtain ⟨k', u⟩ := p
      intro m
      unfold setM
      by_cases e : k' = k
      · rw [if_pos e]; exact ⟨m, by simp [idxM]⟩
      · rw [if_neg e]
        obtain ⟨i, hi⟩ := ih (m + 1)
        exact ⟨i, by rw [idxM, if_neg e]; exact hi⟩
  obtain ⟨i, hi⟩ := h l 0
  rw [hi]
end

set_option maxRecDepth 100000 in
theorem lOpen_P (B : LB) (s : LS) (x : Acc) (hx : x.code.size ≤ 4611686018427387904) (w0 : World) (h : ledφ B s w0) :
    MutC Try.prog 44 [.pointer (some ⟨B.lb, 0, none⟩), .agg (encAc x).toArray] w0 (ledA B s true) (fun _ : Unit => .int .i64 (openE s x)) (fun _ => ledA B (openL s x) true) := by
  have hse := scale_err x.cur
  have same : openE s x ≠ 0 → openL s x = s := fun hne => if_neg hne
  refine c_enter [(0, .pointer (some ⟨B.lb, 0, none⟩)), (1, .agg (encAc x).toArray)] [.blk B.lb (ledC B s) 129, smapA B.ma (entAc s.acs), smapA B.ml (entSm s.tot), rowE s, psAll s.es] (ledF B s) Try.func44 rfl Try.ntmps44 ⟨rfl, rfl, trivial⟩ rfl (led_okP h) (led_dis h) led_mine ?_
  intro a hS
  refine c_seq ?_
  refine c_region ?_
  refine L_op (s_boxA hS rfl rfl ?_); clear hS a; (try clear w); intro a w b3 hS
  refine L_op (s_e hS (e_assign rfl) rfl ?_); clear hS a; intro a hS
  refine L_nil ?_
  refine n_then ?_
  refine c_seq ?_
  refine c_region ?_
  first | (refine L_op (s_e hS (e_fa0 rfl ty_fo68_1) rfl ?_); clear hS a; intro a hS) | (refine L_op (s_e hS (e_faK rfl ty_fo68_1) rfl ?_); clear hS a; intro a hS)
  refine L_op (s_e hS (e_load rfl (by repeat constructor) ty_sc9 (by rfl)) rfl ?_); clear hS a; intro a hS
  refine L_op (s_callP hS (.cons rfl .nil) cf79 rfl (Scale_P x.cur _) ?_); clear hS a; (try clear w); intro a w hS
  refine L_op (s_e hS (e_move rfl) rfl ?_); clear hS a; intro a hS
  refine L_op (s_e hS (e_extract rfl rfl) rfl ?_); clear hS a; intro a hS
  refine L_op (s_e hS (e_extract rfl rfl) rfl ?_); clear hS a; intro a hS
  refine L_op (s_e hS (e_assign rfl) rfl ?_); clear hS a; intro a hS
  refine L_op (s_e hS (e_assign rfl) rfl ?_); clear hS a; intro a hS
  refine L_nil ?_
  refine n_then ?_
  refine c_seq ?_
  refine c_drawS [] (by kernel_rfl) hS (sub_cons (X := .blk b3 _ _) (by repeat constructor) (sub_cons (X := .blk B.lb (ledC B s) 129) (by repeat constructor) (sub_cons (X := smapA B.ma (entAc s.acs)) (by repeat constructor) sub_nil))) ?_; clear hS; (try clear w); intro w hS
  simp only [List.length_cons, List.length_nil, Nat.zero_add, Nat.reduceAdd, List.replicate]
  refine Z_take0 (i := 0) hS rfl want_none (e_move rfl) (listed' := [true, false, false, false, false, false, false, false, false, false, false, false, false]) rfl (by kernel_rfl) (by kernel_rfl) (by kernel_rfl) (fun _ _ _ h => h) rfl ?_; clear hS a; intro a hS
  refine Z_take0 (i := 1) hS rfl want_none (e_nilCheck rfl) (listed' := [true, true, false, false, false, false, false, false, false, false, false, false, false]) rfl (by kernel_rfl) (by kernel_rfl) (by kernel_rfl) (fun _ _ _ h => h) rfl ?_; clear hS a; intro a hS
  first | (refine Z_take0 (i := 2) hS rfl want_none (e_fa0 rfl ty_fo129_1) (listed' := [true, true, true, false, false, false, false, false, false, false, false, false, false]) rfl (by kernel_rfl) (by kernel_rfl) (by kernel_rfl) (fun _ _ _ h => h) rfl ?_; clear hS a; intro a hS) | (refine Z_take0 (i := 2) hS rfl want_none (e_faK rfl ty_fo129_1) (listed' := [true, true, true, false, false, false, false, false, false, false, false, false, false]) rfl (by kernel_rfl) (by kernel_rfl) (by kernel_rfl) (fun _ _ _ h => h) rfl ?_; clear hS a; intro a hS)
  refine Z_take (i := 3) hS rfl want_none (e_load rfl (by repeat constructor) ty_sc126 (by rfl)) (listed' := [true, true, true, true, false, false, false, false, false, false, false, false, false]) rfl (by kernel_rfl) (by kernel_rfl) (by kernel_rfl) (by kernel_rfl) (by kernel_rfl) (sub_cons (by repeat constructor) (sub_cons (by repeat constructor) (sub_cons (by repeat constructor) sub_nil))) (fun _ _ _ h => h) rfl ?_; clear hS a; intro a hS
  first | (refine Z_take0 (i := 4) hS rfl want_none (e_fa0 rfl ty_fo68_0) (listed' := [true, true, true, true, true, false, false, false, false, false, false, false, false]) rfl (by kernel_rfl) (by kernel_rfl) (by kernel_rfl) (fun _ _ _ h => h) rfl ?_; clear hS a; intro a hS) | (refine Z_take0 (i := 4) hS rfl want_none (e_faK rfl ty_fo68_0) (listed' := [true, true, true, true, true, false, false, false, false, false, false, false, false]) rfl (by kernel_rfl) (by kernel_rfl) (by kernel_rfl) (fun _ _ _ h => h) rfl ?_; clear hS a; intro a hS)
  refine Z_take (i := 5) hS rfl want_none (e_load rfl (by repeat constructor) ty_sc9 (by rfl)) (listed' := [true, true, true, true, true, true, false, false, false, false, false, false, false]) rfl (by kernel_rfl) (by kernel_rfl) (by kernel_rfl) (by kernel_rfl) (by kernel_rfl) (sub_cons (by repeat constructor) (sub_cons (by repeat constructor) (sub_cons (by repeat constructor) sub_nil))) (fun _ _ _ h => h) rfl ?_; clear hS a; intro a hS
  refine Z_take (i := 6) hS rfl want_none (e_lookupT rfl rfl ty_mp126 ty_u9 ty_zv68 (by repeat constructor)) (listed' := [true, true, true, true, true, true, true, false, false, false, false, false, false]) rfl (by kernel_rfl) (by kernel_rfl) (by kernel_rfl) (by kernel_rfl) (by kernel_rfl) (sub_cons (by repeat constructor) (sub_cons (by repeat constructor) (sub_cons (by repeat constructor) sub_nil))) (fun _ _ _ h => h) rfl ?_; clear hS a; intro a hS
  rw [lk_acc, has_acc] at hS
  refine Z_take0 (i := 7) hS rfl want_none (e_move rfl) (listed' := [true, true, true, true, true, true, true, true, false, false, false, false, false]) rfl (by kernel_rfl) (by kernel_rfl) (by kernel_rfl) (fun _ _ _ h => h) rfl ?_; clear hS a; intro a hS
  refine Z_take0 (i := 8) hS rfl want_none (e_extract rfl rfl) (listed' := [true, true, true, true, true, true, true, true, true, false, false, false, false]) rfl (by kernel_rfl) (by kernel_rfl) (by kernel_rfl) (fun _ _ _ h => h) rfl ?_; clear hS a; intro a hS
  refine Z_take0 (i := 9) hS rfl want_none (e_extract rfl rfl) (listed' := [true, true, true, true, true, true, true, true, true, true, false, false, false]) rfl (by kernel_rfl) (by kernel_rfl) (by kernel_rfl) (fun _ _ _ h => h) rfl ?_; clear hS a; intro a hS
  refine Z_one (i := 10) rfl (want_none a hS.sl) (listed' := [true, true, true, true, true, true, true, true, true, true, true, false, false]) rfl (by kernel_rfl) (s_alloc hS ty_z68 rfl ?_); clear hS a; (try clear w); intro a w b7 hS
  refine Z_and hS (sub_cons (by repeat constructor) (sub_cons (by repeat constructor) (sub_cons (by repeat constructor) sub_nil))) ?_
  refine Z_one (i := 11) rfl (want_none a hS.sl) (listed' := [true, true, true, true, true, true, true, true, true, true, true, true, false]) rfl (by kernel_rfl) (s_storeA hS rfl rfl ty_sz68 (by repeat constructor) (by rfl) (by rfl) (by rfl) ?_); clear hS; (try clear w); intro w hS
  refine Z_and hS (sub_cons (by repeat constructor) (sub_cons (by repeat constructor) (sub_cons (by repeat constructor) sub_nil))) ?_
  refine Z_take0 (i := 12) hS rfl want_none (e_assign rfl) (listed' := [true, true, true, true, true, true, true, true, true, true, true, true, true]) rfl (by kernel_rfl) (by kernel_rfl) (by kernel_rfl) (fun _ _ _ h => h) rfl ?_; clear hS a; intro a hS
  refine Z_done (by kernel_rfl) ?_
  refine n_then ?_
  refine c_seq ?_
  refine wp_block ?_
  refine c_seq ?_
  refine c_region ?_
  first | (refine L_op (s_e hS (e_fa0 rfl ty_fo68_0) rfl ?_); clear hS a; intro a hS) | (refine L_op (s_e hS (e_faK rfl ty_fo68_0) rfl ?_); clear hS a; intro a hS)
  refine L_op (s_e hS (e_load rfl (by repeat constructor) ty_sc9 (by rfl)) rfl ?_); clear hS a; intro a hS
  refine L_op (s_callP hS (.cons rfl .nil) cf84 rfl (ValidName_w x.code hx _) ?_); clear hS a; (try clear w); intro a w hS
  refine L_op (s_e hS (e_not rfl) rfl ?_); clear hS a; intro a hS
  refine L_op (s_e hS (e_assign rfl) rfl ?_); clear hS a; intro a hS
  refine L_nil ?_
  refine n_then ?_
  first | refine c_ifD hS rfl (fun hc25 => ?_) (fun hc25 => ?_) | refine c_if hS rfl (fun hc25 => ?_) (fun hc25 => ?_)
  ·
    refine c_seq ?_
    refine c_region ?_
    refine L_op (s_e hS (e_assign rfl) rfl ?_); clear hS a; intro a hS
    refine L_nil ?_
    refine n_then ?_
    refine wp_ret ?_
    refine r_block (r_then ?_)
    refine c_ret1 hS Try.results44 (.tmp rfl) ?_
    have hE : openE s x = 1 := if_pos (by simpa using hc25)
    rw [same (by rw [hE]; decide), hE]
    exact ⟨(), rfl, hS.chg, led_end hS (by repeat constructor) (by repeat constructor) (by repeat constructor) (by repeat constructor) (by repeat constructor) h.ne⟩
  ·
    refine c_seq ?_
    refine c_region ?_
    refine L_op (s_e hS (e_move rfl) rfl ?_); clear hS a; intro a hS
    refine L_op (s_e hS (e_bin rfl rfl rfl) rfl ?_); clear hS a; intro a hS
    refine L_op (s_e hS (e_assign rfl) rfl ?_); clear hS a; intro a hS
    refine L_nil ?_
    refine n_then ?_
    first | refine c_ifD hS rfl (fun hc30 => ?_) (fun hc30 => ?_) | refine c_if hS rfl (fun hc30 => ?_) (fun hc30 => ?_)
    ·
      refine c_seq ?_
      refine c_region ?_
      refine L_op (s_e hS (e_move rfl) rfl ?_); clear hS a; intro a hS
      refine L_op (s_e hS (e_assign rfl) rfl ?_); clear hS a; intro a hS
      refine L_nil ?_
      refine n_then ?_
      refine wp_ret ?_
      refine r_block (r_then ?_)
      refine c_ret1 hS Try.results44 (.tmp rfl) ?_
      have hE : openE s x = (scaleR x.cur).2 := by unfold openE; rw [if_neg (by simpa using hc25), if_pos hc30]; omega
      rw [same (by rw [hE]; exact hc30), hE]
      exact ⟨(), rfl, hS.chg, led_end hS (by repeat constructor) (by repeat constructor) (by repeat constructor) (by repeat constructor) (by repeat constructor) h.ne⟩
    ·
      refine c_seq ?_
      refine c_region ?_
      first | (refine L_op (s_e hS (e_fa0 rfl ty_fo68_2) rfl ?_); clear hS a; intro a hS) | (refine L_op (s_e hS (e_faK rfl ty_fo68_2) rfl ?_); clear hS a; intro a hS)
      refine L_op (s_e hS (e_load rfl (by repeat constructor) ty_sc3 (by rfl)) rfl ?_); clear hS a; intro a hS
      refine L_op (s_e hS (e_bin rfl rfl rfl) rfl ?_); clear hS a; intro a hS
      refine L_op (s_e hS (e_move rfl) rfl ?_); clear hS a; intro a hS
      refine L_merge 4 42 (.bool (decide (x.kind < 1 ∨ 5 < x.kind))) hS ?_ ?_
      · intro hcM42
        (first | refine g_splitD (t := 38) hS rfl ?_ ?_ | refine g_split (t := 38) hS rfl ?_ ?_) <;> (clear hS; intro hg38 hS)
        ·
          refine L_skip_f hS rfl rfl rfl ?_; clear hS a; intro a hS
          refine L_skip_f hS rfl rfl rfl ?_; clear hS a; intro a hS
          refine L_skip_f hS rfl rfl rfl ?_; clear hS a; intro a hS
          first | (refine L_op (s_e hS (e_pick_t rfl rfl) rfl ?_); clear hS a; intro a hS) | (refine L_op (s_e hS (e_pick_f rfl rfl) rfl ?_); clear hS a; intro a hS)
          exact hcM42 _ _ (hS.ends 5 42 38 rfl (congrArg Value.bool (by first | rfl | (simp [hg38]; done) | (simp [hg38]; omega) | grind)) rfl rfl (by first | exact congrArg Value.bool (decide_eq_true hg38).symm | exact congrArg Value.bool hg38.symm | simp [hg38]) rfl)
        ·
          first | (refine L_go hS rfl rfl (s_e hS (e_fa0 rfl ty_fo68_2) rfl ?_); clear hS a; intro a hS) | (refine L_go hS rfl rfl (s_e hS (e_faK rfl ty_fo68_2) rfl ?_); clear hS a; intro a hS)
          refine L_go hS rfl rfl (s_e hS (e_load rfl (by repeat constructor) ty_sc3 (by rfl)) rfl ?_); clear hS a; intro a hS
          refine L_go hS rfl rfl (s_e hS (e_bin rfl rfl rfl) rfl ?_); clear hS a; intro a hS
          first | (refine L_op (s_e hS (e_pick_t rfl rfl) rfl ?_); clear hS a; intro a hS) | (refine L_op (s_e hS (e_pick_f rfl rfl) rfl ?_); clear hS a; intro a hS)
          exact hcM42 _ _ (hS.ends 5 42 38 rfl (congrArg Value.bool (by first | rfl | (simp [hg38]; done) | (simp [hg38]; omega) | grind)) rfl rfl (by first | exact congrArg Value.bool (decide_eq_false hg38).symm | exact congrArg Value.bool hg38.symm | simp [hg38]) rfl)
      · clear hS a; (try clear w); intro a w hS
        simp only [List.drop_succ_cons, List.drop_zero]
        refine L_op (s_e hS (e_assign rfl) rfl ?_); clear hS a; intro a hS
        refine L_nil ?_
        refine n_then ?_
        first | refine c_ifD hS rfl (fun hc34 => ?_) (fun hc34 => ?_) | refine c_if hS rfl (fun hc34 => ?_) (fun hc34 => ?_)
        ·
          refine c_seq ?_
          refine c_region ?_
          refine L_op (s_e hS (e_assign rfl) rfl ?_); clear hS a; intro a hS
          refine L_nil ?_
          refine n_then ?_
          refine wp_ret ?_
          refine r_block (r_then ?_)
          refine c_ret1 hS Try.results44 (.tmp rfl) ?_
          have hE : openE s x = 7 := by unfold openE; rw [if_neg (by simpa using hc25), if_neg hc30, if_pos hc34]
          rw [same (by rw [hE]; decide), hE]
          exact ⟨(), rfl, hS.chg, led_end hS (by repeat constructor) (by repeat constructor) (by repeat constructor) (by repeat constructor) (by repeat constructor) h.ne⟩
        ·
          refine c_seq ?_
          refine c_region ?_
          refine L_op (s_e hS (e_move rfl) rfl ?_); clear hS a; intro a hS
          refine L_op (s_e hS (e_assign rfl) rfl ?_); clear hS a; intro a hS
          refine L_nil ?_
          refine n_then ?_
          first | refine c_ifD hS rfl (fun hc43 => ?_) (fun hc43 => ?_) | refine c_if hS rfl (fun hc43 => ?_) (fun hc43 => ?_)
          ·
            refine c_seq ?_
            refine c_region ?_
            refine L_op (s_e hS (e_assign rfl) rfl ?_); clear hS a; intro a hS
            refine L_nil ?_
            refine n_then ?_
            refine wp_ret ?_
            refine r_block (r_then ?_)
            refine c_ret1 hS Try.results44 (.tmp rfl) ?_
            have hE : openE s x = 3 := by unfold openE; rw [if_neg (by simpa using hc25), if_neg hc30, if_neg hc34, if_pos hc43]
            rw [same (by rw [hE]; decide), hE]
            exact ⟨(), rfl, hS.chg, led_end hS (by repeat constructor) (by repeat constructor) (by repeat constructor) (by repeat constructor) (by repeat constructor) h.ne⟩
          ·
            refine c_seq ?_
            refine c_region ?_
            refine L_op (s_e hS (e_move rfl) rfl ?_); clear hS a; intro a hS
            refine L_op (s_e hS (e_nilCheck rfl) rfl ?_); clear hS a; intro a hS
            first | (refine L_op (s_e hS (e_fa0 rfl ty_fo129_1) rfl ?_); clear hS a; intro a hS) | (refine L_op (s_e hS (e_faK rfl ty_fo129_1) rfl ?_); clear hS a; intro a hS)
            refine L_op (s_e hS (e_load rfl (by repeat constructor) ty_sc126 (by rfl)) rfl ?_); clear hS a; intro a hS
            refine L_op (s_e hS (e_lenM rfl rfl ty_mp126 (fun w hh => hh (smapA B.ma (entAc s.acs)) (by repeat constructor))) rfl ?_); clear hS a; intro a hS
            rw [show (entAc s.acs).length = s.acs.length by simp [entAc]] at hS
            refine L_op (s_e hS (e_bin rfl rfl rfl) rfl ?_); clear hS a; intro a hS
            refine L_op (s_e hS (e_assign rfl) rfl ?_); clear hS a; intro a hS
            refine L_nil ?_
            refine n_then ?_
            first | refine c_ifD hS rfl (fun hc45 => ?_) (fun hc45 => ?_) | refine c_if hS rfl (fun hc45 => ?_) (fun hc45 => ?_)
            ·
              refine c_seq ?_
              refine c_region ?_
              refine L_op (s_e hS (e_assign rfl) rfl ?_); clear hS a; intro a hS
              refine L_nil ?_
              refine n_then ?_
              refine wp_ret ?_
              refine r_block (r_then ?_)
              refine c_ret1 hS Try.results44 (.tmp rfl) ?_
              have hE : openE s x = 9 := by unfold openE; rw [if_neg (by simpa using hc25), if_neg hc30, if_neg hc34, if_neg (by simpa using hc43), if_pos (by omega)]
              rw [same (by rw [hE]; decide), hE]
              exact ⟨(), rfl, hS.chg, led_end hS (by repeat constructor) (by repeat constructor) (by repeat constructor) (by repeat constructor) (by repeat constructor) h.ne⟩
            ·
              refine wp_skip ?_
              refine n_block ?_
              refine n_then ?_
              refine c_seq ?_
              refine c_drawS [7] (by kernel_rfl) hS (sub_cons (X := .blk b3 _ _) (by repeat constructor) (sub_cons (X := .blk B.lb (ledC B s) 129) (by repeat constructor) sub_nil)) ?_; clear hS; (try clear w); intro w hS
              simp only [List.length_cons, List.length_nil, Nat.zero_add, Nat.reduceAdd, List.replicate]
              refine Z_take0 (i := 0) hS rfl want_none (e_move rfl) (listed' := [true, false, false, false, false, false, false, false]) rfl (by kernel_rfl) (by kernel_rfl) (by kernel_rfl) (fun _ _ _ h => h) rfl ?_; clear hS a; intro a hS
              refine Z_take0 (i := 1) hS rfl want_none (e_nilCheck rfl) (listed' := [true, true, false, false, false, false, false, false]) rfl (by kernel_rfl) (by kernel_rfl) (by kernel_rfl) (fun _ _ _ h => h) rfl ?_; clear hS a; intro a hS
              first | (refine Z_take0 (i := 2) hS rfl want_none (e_fa0 rfl ty_fo129_1) (listed' := [true, true, true, false, false, false, false, false]) rfl (by kernel_rfl) (by kernel_rfl) (by kernel_rfl) (fun _ _ _ h => h) rfl ?_; clear hS a; intro a hS) | (refine Z_take0 (i := 2) hS rfl want_none (e_faK rfl ty_fo129_1) (listed' := [true, true, true, false, false, false, false, false]) rfl (by kernel_rfl) (by kernel_rfl) (by kernel_rfl) (fun _ _ _ h => h) rfl ?_; clear hS a; intro a hS)
              refine Z_take (i := 3) hS rfl want_none (e_load rfl (by repeat constructor) ty_sc126 (by rfl)) (listed' := [true, true, true, true, false, false, false, false]) rfl (by kernel_rfl) (by kernel_rfl) (by kernel_rfl) (by kernel_rfl) (by kernel_rfl) (sub_cons (by repeat constructor) (sub_cons (by repeat constructor) sub_nil)) (fun _ _ _ h => h) rfl ?_; clear hS a; intro a hS
              first | (refine Z_take0 (i := 4) hS rfl want_none (e_fa0 rfl ty_fo68_0) (listed' := [true, true, true, true, true, false, false, false]) rfl (by kernel_rfl) (by kernel_rfl) (by kernel_rfl) (fun _ _ _ h => h) rfl ?_; clear hS a; intro a hS) | (refine Z_take0 (i := 4) hS rfl want_none (e_faK rfl ty_fo68_0) (listed' := [true, true, true, true, true, false, false, false]) rfl (by kernel_rfl) (by kernel_rfl) (by kernel_rfl) (fun _ _ _ h => h) rfl ?_; clear hS a; intro a hS)
              refine Z_take (i := 5) hS rfl want_none (e_load rfl (by repeat constructor) ty_sc9 (by rfl)) (listed' := [true, true, true, true, true, true, false, false]) rfl (by kernel_rfl) (by kernel_rfl) (by kernel_rfl) (by kernel_rfl) (by kernel_rfl) (sub_cons (by repeat constructor) (sub_cons (by repeat constructor) sub_nil)) (fun _ _ _ h => h) rfl ?_; clear hS a; intro a hS
              refine Z_take (i := 6) hS rfl want_none (e_loadA rfl (by repeat constructor) ty_st68 ty_sz68 (by rfl)) (listed' := [true, true, true, true, true, true, true, false]) rfl (by kernel_rfl) (by kernel_rfl) (by kernel_rfl) (by kernel_rfl) (by kernel_rfl) (sub_cons (by repeat constructor) (sub_cons (by repeat constructor) sub_nil)) (fun _ _ _ h => h) rfl ?_; clear hS a; intro a hS
              refine Z_one (i := 7) rfl (want_none a hS.sl) (listed' := [true, true, true, true, true, true, true, true]) rfl (by kernel_rfl) (s_mapUp hS rfl rfl rfl ty_mp126 ty_u9 (by repeat constructor) ?_); clear hS; (try clear w); intro w hS
              refine Z_last (by simp) ?_
              refine Z_done (by kernel_rfl) ?_
              refine n_then ?_
              refine c_seq ?_
              refine c_region ?_
              refine L_op (s_e hS (e_assign rfl) rfl ?_); clear hS a; intro a hS
              refine L_nil ?_
              refine n_then ?_
              refine wp_ret ?_
              refine c_ret1 hS Try.results44 (.tmp rfl) ?_
              have hE : openE s x = 0 := by unfold openE; rw [if_neg (by simpa using hc25), if_neg hc30, if_neg hc34, if_neg (by simpa using hc43), if_neg (by omega)]
              have hL : openL s x = { s with acs := s.acs ++ [x] } := if_pos hE
              have hset : setM (entAc s.acs) x.code (.agg (encAc x).toArray) = entAc (s.acs ++ [x]) := by
                rw [setM_new _ (by rw [has_acc]; simpa using hc43)]; simp [entAc]
              rw [hset] at hS
              rw [hE, hL]
              exact ⟨(), rfl, hS.chg, led_end (s' := { s with acs := s.acs ++ [x] }) hS (by repeat constructor) (by repeat constructor) (by repeat constructor) (by repeat constructor) (by repeat constructor) h.ne⟩

theorem flatP {b off : Nat} {l : List Pst} {w : World} (h : RowAt b off 3 (l.map encP) w) : ∀ j u, (l.flatMap encP)[j]? = some u → w.cell? ⟨b, off + j, none⟩ = some u := by
  intro j u hu
  have hlt := (List.getElem?_eq_some_iff.1 hu).1
  rw [flat_len encP 3 (fun _ => rfl)] at hlt
  have hil : j / 3 < l.length := by omega
  obtain ⟨x, hx⟩ : ∃ x, l[j / 3]? = some x := ⟨l[j / 3], List.getElem?_eq_getElem hil⟩
  have hxe : (l.map encP)[j / 3]? = some (encP x) := by rw [List.getElem?_map, hx]; rfl
  have h1 := flat_get encP 3 (fun _ => rfl) l (j / 3) x hx (j % 3)
  obtain ⟨v, hv⟩ : ∃ v, (encP x)[j % 3]? = some v := ⟨(encP x)[j % 3]'(by show _ < 3; omega), List.getElem?_eq_getElem (by show _ < 3; omega)⟩
  have h2 := h1 v hv
  rw [show j / 3 * 3 + j % 3 = j by omega] at h2
  rw [hu] at h2; cases h2
  have h3 := h (j / 3) (encP x) hxe (j % 3) u hv
  rw [← h3]; congr 2; omega
theorem oneP (l : List Pst) : ∀ u ∈ l.flatMap encP, isOne u = true := fun u hu => by
  obtain ⟨x, _, hx⟩ := List.mem_flatMap.1 hu
  simp [encP] at hx
  rcases hx with rfl | rfl | rfl <;> rfl
def psO (l : List Pst) (y : Nat × Nat) : Value := .slice (some ⟨y.1, 0, none⟩) l.length y.2
set_option maxRecDepth 100000 in
theorem lfresh_P (p : Option (Nat × Nat)) (c : Nat) (l : List Pst) (hlen : l.length ≤ 1000000) (w0 : World) (hrow : RowP p 3 (l.map encP) w0) (hb : ∀ q, p = some q → q.1 < w0.heap.size) :
     NewC Try.prog 74 [sliceV p l.length c] w0 (fun y : Nat × Nat => psO l y) (fun y => ownA 63 3 (psO l y) l.length (l.flatMap encP)) := by
   refine c_enter [(0, sliceV p l.length c)] [rowP p 3 (l.map encP)] noB Try.func74 rfl Try.ntmps74 ⟨rfl, trivial⟩ rfl (okC (ok_rowP hrow hb) okN) dis1 (mineC (by rfl) mineN) ?_
   intro a hS
   refine c_seq ?_
   refine c_region ?_
   refine L_op (s_e hS (e_assign rfl) rfl ?_); clear hS a; intro a hS
   refine L_nil ?_
   refine n_then ?_
   refine c_seq ?_
   refine c_region ?_
   refine L_op (s_e hS (e_move rfl) rfl ?_); clear hS a; intro a hS
   refine L_op (s_e hS (e_len rfl rfl ty_sl56) rfl ?_); clear hS a; intro a hS
   refine L_op (s_make0 hS rfl rfl ty_sl56 ty_sz63 ty_by63 ty_z63 rfl (by omega) ?_); clear hS a; (try clear w); intro x5 a w hS
   refine L_op (s_e hS (e_move rfl) rfl ?_); clear hS a; intro a hS
   refine L_op (s_appendL hS rfl rfl ty_sl56 ty_sz63 ty_by63 ty_z63 rfl rfl rfl (by repeat constructor) (ys := l.flatMap encP) (flat_len encP 3 (fun _ => rfl) l) (by
 have hr : RowP p 3 (l.map encP) _ := hS.get (X := rowP p 3 (l.map encP)) (by repeat constructor)
 cases p with
 | none =>
   have : l = [] := by simpa [RowP] using hr
   exact .inl ⟨by rw [this]; rfl, by rw [this]; rfl⟩
 | some q => exact .inr ⟨q.1, q.2, rfl, flatP hr⟩) (oneP l) (by omega) (fun _ => (by repeat constructor)) ?_); clear hS a; (try clear w); intro v7 a w hv7 hS
   rw [Nat.zero_add, List.nil_append] at hS
   obtain ⟨g7, c7, rfl⟩ := own_some (hS.get (X := ownA 63 3 v7 l.length (l.flatMap encP)) (by repeat constructor)) (fun e => by have := (hv7.1 e).1; cases this)
   refine L_op (s_e hS (e_assign rfl) rfl ?_); clear hS a; intro a hS
   refine L_nil ?_
   refine n_then ?_
   refine wp_ret ?_
   refine c_ret1 hS Try.results74 (.tmp rfl) ?_
   exact ⟨(g7, c7), rfl, hS.chg, hS.new (X := ownA 63 3 (.slice (some ⟨g7, 0, none⟩) l.length c7) l.length (l.flatMap encP)) (by repeat constructor) rfl⟩

instance memBA (c : ByteArray) (l : List ByteArray) : Decidable (c ∈ l) := decidable_of_iff (∃ x ∈ l, x = c) ⟨fun ⟨_, h, e⟩ => e ▸ h, fun h => ⟨c, h, rfl⟩⟩
/-- the error of postings, one by one. -/
def postE (acs : List Acc) : List Pst → List ByteArray → Int
  | [], _ => 0
  | p :: r, seen => if (findA acs p.acc).isSome = false then 2 else if p.acc ∈ seen then 12 else if ¬ inU p.u ∨ ¬ inU p.f then 6 else postE acs r (seen ++ [p.acc])
theorem postE_cons (acs : List Acc) (p : Pst) (r : List Pst) (seen : List ByteArray) : postE acs (p :: r) seen = if (findA acs p.acc).isSome = false then 2 else if p.acc ∈ seen then 12 else if ¬ inU p.u ∨ ¬ inU p.f then 6 else postE acs r (seen ++ [p.acc]) := rfl
def seenM (l : List ByteArray) : List (ByteArray × Value) := l.map fun c => (c, .int .i64 1)
theorem seen_has (l : List ByteArray) (c : ByteArray) : hasM (seenM l) c = decide (c ∈ l) := by
  unfold seenM
  rw [hasM_map (fun c : ByteArray => c) (fun _ => .int .i64 1)]
  by_cases h : c ∈ l
  · rw [decide_eq_true h, List.find?_isSome]; exact ⟨c, h, by simp⟩
  · rw [decide_eq_false h]
    rw [List.find?_eq_none.2 (fun x hx e => h (by have : x = c := by simpa using e
                                                  rw [← this]; exact hx))]; rfl
theorem seen_lk (l : List ByteArray) (c : ByteArray) : lkM (seenM l) c (.int .i64 0) = .int .i64 (if c ∈ l then 1 else 0) := by
  have hh := seen_has l c
  unfold seenM at hh ⊢
  rw [hasM_map (fun c : ByteArray => c) (fun _ => .int .i64 1)] at hh
  rw [lkM_map (fun c : ByteArray => c) (fun _ => .int .i64 1)]
  by_cases h : c ∈ l
  · rw [decide_eq_true h] at hh
    obtain ⟨x, hx⟩ := Option.isSome_iff_exists.1 hh
    rw [hx, if_pos h]; rfl
  · rw [decide_eq_false h] at hh
    rw [Option.isSome_eq_false_iff, Option.isNone_iff_eq_none] at hh
    rw [hh, if_neg h]; rfl
set_option maxRecDepth 100000 in
theorem lpost_P (B : LB) (s : LS) (p : Option (Nat × Nat)) (c : Nat) (ps : List Pst) (hlen : ps.length ≤ 1000000) (w0 : World) (h : ledφ B s w0) (hrow : RowP p 3 (ps.map encP) w0) (hb : ∀ q, p = some q → q.1 < w0.heap.size) (hd : ∀ q, p = some q → ¬ ledF B s q.1) :
    PureC Try.prog 75 [.pointer (some ⟨B.lb, 0, none⟩), sliceV p ps.length c] w0 (.int .i64 (postE s.acs ps [])) := by
  refine c_enter [(0, .pointer (some ⟨B.lb, 0, none⟩)), (1, sliceV p ps.length c)] [ledA B s false, rowP p 3 (ps.map encP)] noB Try.func75 rfl Try.ntmps75 ⟨rfl, rfl, trivial⟩ rfl (okC (led_ok false h) (okC (ok_rowP hrow hb) okN)) (disC (sepC (fun b h1 h2 => by obtain ⟨off, e⟩ := h2; exact hd _ e h1) sepN) dis1) (mineC (by rfl) (mineC (by rfl) mineN)) ?_
  intro a hS
  refine c_seq ?_
  refine c_region ?_
  refine L_op (s_e hS (e_assign rfl) rfl ?_); clear hS a; intro a hS
  refine L_nil ?_
  refine n_then ?_
  refine c_seq ?_
  refine c_region ?_
  refine L_op (s_makeMapS hS rfl ?_); clear hS a; (try clear w); intro a w b10 hS
  refine L_op (s_e hS (e_assign rfl) rfl ?_); clear hS a; intro a hS
  refine L_nil ?_
  refine n_then ?_
  refine c_seq ?_
  refine c_seq ?_
  refine c_region ?_
  refine L_op (s_e hS (e_move rfl) rfl ?_); clear hS a; intro a hS
  refine L_op (s_e hS (e_len rfl rfl ty_sl56) rfl ?_); clear hS a; intro a hS
  refine L_op (s_e hS (e_move rfl) rfl ?_); clear hS a; intro a hS
  refine L_nil ?_
  refine n_then ?_
  refine wp_block ?_
  skip
  refine c_loop (γ := Nat) (fun i a w => St 52 noB w0 a w [(13, .int .i64 (i : Int)), (12, .int .i64 (ps.length : Int)), (11, sliceV p ps.length c), (5, .map (some b10)), (0, .pointer (some ⟨B.lb, 0, none⟩))] [smapA b10 (seenM ((ps.take i).map (·.acc))), ledA B s false, rowP p 3 (ps.map encP)] ∧ i ≤ ps.length ∧ postE s.acs ps [] = postE s.acs (ps.drop i) ((ps.take i).map (·.acc))) (fun i => ps.length - i) 0 ⟨(hS.slots (by repeat (first | exact trivial | refine ⟨rfl, ?_⟩))).pick (by repeat (first | exact Pick.nil | (refine Pick.cons (by repeat (first | exact Rem.head | apply Rem.tail)) ?_))), Nat.zero_le _, rfl⟩ ?_
  clear hS a; (try clear w); intro i a w hI
  obtain ⟨hS, hi, hpe⟩ := hI
  refine c_seq ?_
  refine c_region ?_
  refine L_op (s_e hS (e_bin rfl rfl rfl) rfl ?_); clear hS a; intro a hS
  refine L_nil ?_
  refine n_then ?_
  refine c_seq ?_
  first | refine c_ifD hS rfl (fun hc14 => ?_) (fun hc14 => ?_) | refine c_if hS rfl (fun hc14 => ?_) (fun hc14 => ?_)
  ·
    have hil : i < ps.length := by omega
    obtain ⟨x, hx⟩ : ∃ x, ps[i]? = some x := ⟨ps[i], List.getElem?_eq_getElem hil⟩
    have hx' : (ps.map encP)[i]? = some (encP x) := by simp [hx]
    obtain ⟨b, off, rfl⟩ := rowP_some (hS.get (X := rowP p 3 (ps.map encP)) (by repeat constructor)) hx'
    have hdr : ps.drop i = x :: ps.drop (i + 1) := by
      obtain ⟨h1, h2⟩ := List.getElem?_eq_some_iff.1 hx
      rw [List.drop_eq_getElem_cons h1, h2]
    have htk : (ps.take (i + 1)).map (·.acc) = (ps.take i).map (·.acc) ++ [x.acc] := by rw [List.take_add_one, hx]; simp
    rw [hdr, postE_cons] at hpe
    refine wp_skip ?_
    refine n_then ?_
    refine c_seq ?_
    refine wp_block ?_
    refine c_seq ?_
    refine c_region ?_
    refine L_op (s_e hS (e_ixN rfl rfl ty_sl56 ty_sz63 (by omega)) rfl ?_); clear hS a; intro a hS
    refine L_op (s_e hS (e_loadAC (l := encP x) rfl ty_st63 ty_sz63 (fun w hh => rowP_get (by repeat constructor) hx' w hh)) rfl ?_); clear hS a; intro a hS
    refine L_op (s_alloc hS ty_z63 rfl ?_); clear hS a; (try clear w); intro a w b7 hS
    refine L_op (s_storeA hS rfl rfl ty_sz63 (by repeat constructor) (by rfl) (by rfl) (by rfl) ?_); clear hS; (try clear w); intro w hS
    refine L_nil ?_
    refine n_then ?_
    refine c_seq ?_
    refine c_seq ?_
    refine c_drawS [] (by kernel_rfl) hS (sub_cons (X := .blk b7 _ _) (by repeat constructor) (sub_cons (X := ledA B s false) (by repeat constructor) sub_nil)) ?_; clear hS; (try clear w); intro w hS
    simp only [List.length_cons, List.length_nil, Nat.zero_add, Nat.reduceAdd, List.replicate]
    refine Z_take0 (i := 0) hS rfl want_none (e_move rfl) (listed' := [true, false, false, false, false, false, false, false, false, false, false, false, false]) rfl (by kernel_rfl) (by kernel_rfl) (by kernel_rfl) (fun _ _ _ h => h) rfl ?_; clear hS a; intro a hS
    refine Z_take0 (i := 1) hS rfl want_none (e_nilCheck rfl) (listed' := [true, true, false, false, false, false, false, false, false, false, false, false, false]) rfl (by kernel_rfl) (by kernel_rfl) (by kernel_rfl) (fun _ _ _ h => h) rfl ?_; clear hS a; intro a hS
    first | (refine Z_take0 (i := 2) hS rfl want_none (e_fa0 rfl ty_fo129_1) (listed' := [true, true, true, false, false, false, false, false, false, false, false, false, false]) rfl (by kernel_rfl) (by kernel_rfl) (by kernel_rfl) (fun _ _ _ h => h) rfl ?_; clear hS a; intro a hS) | (refine Z_take0 (i := 2) hS rfl want_none (e_faK rfl ty_fo129_1) (listed' := [true, true, true, false, false, false, false, false, false, false, false, false, false]) rfl (by kernel_rfl) (by kernel_rfl) (by kernel_rfl) (fun _ _ _ h => h) rfl ?_; clear hS a; intro a hS)
    refine Z_take (i := 3) hS rfl want_none (e_loadC rfl ty_sc126 (led_cell (k := 1) (by repeat constructor) rfl)) (listed' := [true, true, true, true, false, false, false, false, false, false, false, false, false]) rfl (by kernel_rfl) (by kernel_rfl) (by kernel_rfl) (by kernel_rfl) (by kernel_rfl) (sub_cons (by repeat constructor) (sub_cons (by repeat constructor) sub_nil)) (fun _ _ _ h => h) rfl ?_; clear hS a; intro a hS
    first | (refine Z_take0 (i := 4) hS rfl want_none (e_fa0 rfl ty_fo63_0) (listed' := [true, true, true, true, true, false, false, false, false, false, false, false, false]) rfl (by kernel_rfl) (by kernel_rfl) (by kernel_rfl) (fun _ _ _ h => h) rfl ?_; clear hS a; intro a hS) | (refine Z_take0 (i := 4) hS rfl want_none (e_faK rfl ty_fo63_0) (listed' := [true, true, true, true, true, false, false, false, false, false, false, false, false]) rfl (by kernel_rfl) (by kernel_rfl) (by kernel_rfl) (fun _ _ _ h => h) rfl ?_; clear hS a; intro a hS)
    refine Z_take (i := 5) hS rfl want_none (e_load rfl (by repeat constructor) ty_sc9 (by rfl)) (listed' := [true, true, true, true, true, true, false, false, false, false, false, false, false]) rfl (by kernel_rfl) (by kernel_rfl) (by kernel_rfl) (by kernel_rfl) (by kernel_rfl) (sub_cons (by repeat constructor) (sub_cons (by repeat constructor) sub_nil)) (fun _ _ _ h => h) rfl ?_; clear hS a; intro a hS
    refine Z_take (i := 6) hS rfl want_none (e_lookupTC rfl rfl ty_mp126 ty_u9 ty_zv68 (fun w hh => (hh (ledA B s false) (by repeat constructor)).am)) (listed' := [true, true, true, true, true, true, true, false, false, false, false, false, false]) rfl (by kernel_rfl) (by kernel_rfl) (by kernel_rfl) (by kernel_rfl) (by kernel_rfl) (sub_cons (by repeat constructor) (sub_cons (by repeat constructor) sub_nil)) (fun _ _ _ h => h) rfl ?_; clear hS a; intro a hS
    rw [lk_acc, has_acc] at hS
    refine Z_take0 (i := 7) hS rfl want_none (e_move rfl) (listed' := [true, true, true, true, true, true, true, true, false, false, false, false, false]) rfl (by kernel_rfl) (by kernel_rfl) (by kernel_rfl) (fun _ _ _ h => h) rfl ?_; clear hS a; intro a hS
    refine Z_take0 (i := 8) hS rfl want_none (e_extract rfl rfl) (listed' := [true, true, true, true, true, true, true, true, true, false, false, false, false]) rfl (by kernel_rfl) (by kernel_rfl) (by kernel_rfl) (fun _ _ _ h => h) rfl ?_; clear hS a; intro a hS
    refine Z_take0 (i := 9) hS rfl want_none (e_extract rfl rfl) (listed' := [true, true, true, true, true, true, true, true, true, true, false, false, false]) rfl (by kernel_rfl) (by kernel_rfl) (by kernel_rfl) (fun _ _ _ h => h) rfl ?_; clear hS a; intro a hS
    refine Z_one (i := 10) rfl (want_none a hS.sl) (listed' := [true, true, true, true, true, true, true, true, true, true, true, false, false]) rfl (by kernel_rfl) (s_alloc hS ty_z68 rfl ?_); clear hS a; (try clear w); intro a w b8 hS
    refine Z_and hS (sub_cons (by repeat constructor) (sub_cons (by repeat constructor) sub_nil)) ?_
    refine Z_one (i := 11) rfl (want_none a hS.sl) (listed' := [true, true, true, true, true, true, true, true, true, true, true, true, false]) rfl (by kernel_rfl) (s_storeA hS rfl rfl ty_sz68 (by repeat constructor) (by rfl) (by rfl) (by rfl) ?_); clear hS; (try clear w); intro w hS
    refine Z_and hS (sub_cons (by repeat constructor) (sub_cons (by repeat constructor) sub_nil)) ?_
    refine Z_take0 (i := 12) hS rfl want_none (e_assign rfl) (listed' := [true, true, true, true, true, true, true, true, true, true, true, true, true]) rfl (by kernel_rfl) (by kernel_rfl) (by kernel_rfl) (fun _ _ _ h => h) rfl ?_; clear hS a; intro a hS
    refine Z_done (by kernel_rfl) ?_
    refine n_then ?_
    refine c_seq ?_
    refine c_region ?_
    refine L_op (s_e hS (e_move rfl) rfl ?_); clear hS a; intro a hS
    refine L_op (s_e hS (e_not rfl) rfl ?_); clear hS a; intro a hS
    refine L_nil ?_
    refine n_then ?_
    first | refine c_ifD hS rfl (fun hc28 => ?_) (fun hc28 => ?_) | refine c_if hS rfl (fun hc28 => ?_) (fun hc28 => ?_)
    ·
      refine c_seq ?_
      refine c_region ?_
      refine L_op (s_e hS (e_assign rfl) rfl ?_); clear hS a; intro a hS
      refine L_nil ?_
      refine n_then ?_
      refine wp_ret ?_
      refine r_then (r_block (r_then (r_then (r_block (r_then ?_)))))
      refine c_ret1 hS Try.results75 (.tmp rfl) ?_
      exact ⟨by rw [hpe, if_pos (by simpa using hc28)], hS.chg⟩
    ·
      have hfnd : (findA s.acs x.acc).isSome = true := by simpa using hc28
      refine wp_skip ?_
      refine n_then ?_
      refine c_seq ?_
      refine c_region ?_
      refine L_op (s_e hS (e_move rfl) rfl ?_); clear hS a; intro a hS
      first | (refine L_op (s_e hS (e_fa0 rfl ty_fo63_0) rfl ?_); clear hS a; intro a hS) | (refine L_op (s_e hS (e_faK rfl ty_fo63_0) rfl ?_); clear hS a; intro a hS)
      refine L_op (s_e hS (e_load rfl (by repeat constructor) ty_sc9 (by rfl)) rfl ?_); clear hS a; intro a hS
      refine L_op (s_e hS (e_lookupS rfl rfl ty_mp174 ty_u9 ty_zv3 (by repeat constructor)) rfl ?_); clear hS a; intro a hS
      rw [seen_lk] at hS
      first | (refine L_op (s_e hS (e_binN rfl rfl rfl (by omega)) rfl ?_); clear hS a; intro a hS) | (refine L_op (s_e hS (e_bin rfl rfl rfl) rfl ?_); clear hS a; intro a hS)
      refine L_op (s_mapUp hS rfl rfl rfl ty_mp174 ty_u9 (by repeat constructor) ?_); clear hS; (try clear w); intro w hS
      refine L_nil ?_
      refine n_then ?_
      refine wp_block ?_
      refine c_seq ?_
      refine c_region ?_
      refine L_op (s_e hS (e_move rfl) rfl ?_); clear hS a; intro a hS
      first | (refine L_op (s_e hS (e_fa0 rfl ty_fo63_0) rfl ?_); clear hS a; intro a hS) | (refine L_op (s_e hS (e_faK rfl ty_fo63_0) rfl ?_); clear hS a; intro a hS)
      refine L_op (s_e hS (e_load rfl (by repeat constructor) ty_sc9 (by rfl)) rfl ?_); clear hS a; intro a hS
      refine L_op (s_e hS (e_lookupS rfl rfl ty_mp174 ty_u9 ty_zv3 (by repeat constructor)) rfl ?_); clear hS a; intro a hS
      rw [lkM_set] at hS
      refine L_op (s_e hS (e_bin rfl rfl rfl) rfl ?_); clear hS a; intro a hS
      refine L_op (s_e hS (e_assign rfl) rfl ?_); clear hS a; intro a hS
      refine L_nil ?_
      refine n_then ?_
      first | refine c_ifD hS rfl (fun hc34 => ?_) (fun hc34 => ?_) | refine c_if hS rfl (fun hc34 => ?_) (fun hc34 => ?_)
      ·
        have hin : x.acc ∈ (ps.take i).map (·.acc) := by
          by_cases hh : x.acc ∈ (ps.take i).map (·.acc)
          · exact hh
          · rw [if_neg hh] at hc34; omega
        refine c_seq ?_
        refine c_region ?_
        refine L_op (s_e hS (e_assign rfl) rfl ?_); clear hS a; intro a hS
        refine L_nil ?_
        refine n_then ?_
        refine wp_ret ?_
        refine r_block (r_block (r_then (r_then (r_block (r_then ?_)))))
        refine c_ret1 hS Try.results75 (.tmp rfl) ?_
        exact ⟨by rw [hpe, if_neg (by rw [hfnd]; decide), if_pos hin], hS.chg⟩
      ·
        have hnin : ¬ x.acc ∈ (ps.take i).map (·.acc) := fun hh => by rw [if_pos hh] at hc34; omega
        refine c_seq ?_
        refine c_region ?_
        first | (refine L_op (s_e hS (e_fa0 rfl ty_fo63_1) rfl ?_); clear hS a; intro a hS) | (refine L_op (s_e hS (e_faK rfl ty_fo63_1) rfl ?_); clear hS a; intro a hS)
        refine L_op (s_e hS (e_load rfl (by repeat constructor) ty_sc3 (by rfl)) rfl ?_); clear hS a; intro a hS
        refine L_op (s_callP hS (.cons rfl .nil) cf98 rfl (lwithin_P x.u _) ?_); clear hS a; (try clear w); intro a w hS
        refine L_op (s_e hS (e_not rfl) rfl ?_); clear hS a; intro a hS
        refine L_op (s_e hS (e_move rfl) rfl ?_); clear hS a; intro a hS
        refine L_merge 5 50 (.bool (decide (¬ inU x.u ∨ ¬ inU x.f))) hS ?_ ?_
        · intro hcM50
          (first | refine g_splitD (t := 45) hS rfl ?_ ?_ | refine g_split (t := 45) hS rfl ?_ ?_) <;> (clear hS; intro hg45 hS)
          ·
            refine L_skip_f hS rfl rfl rfl ?_; clear hS a; intro a hS
            refine L_skip_f hS rfl rfl rfl ?_; clear hS a; intro a hS
            refine L_skip_f hS rfl rfl rfl ?_; clear hS a; intro a hS
            refine L_skip_f hS rfl rfl rfl ?_; clear hS a; intro a hS
            first | (refine L_op (s_e hS (e_pick_t rfl rfl) rfl ?_); clear hS a; intro a hS) | (refine L_op (s_e hS (e_pick_f rfl rfl) rfl ?_); clear hS a; intro a hS)
            exact hcM50 _ _ (hS.ends 6 50 45 rfl (congrArg Value.bool (by exact (decide_eq_true (.inl (by simpa using hg45))).symm)) rfl rfl (by first | exact congrArg Value.bool (decide_eq_true hg45).symm | exact congrArg Value.bool hg45.symm | simp [hg45]) rfl)
          ·
            first | (refine L_go hS rfl rfl (s_e hS (e_fa0 rfl ty_fo63_2) rfl ?_); clear hS a; intro a hS) | (refine L_go hS rfl rfl (s_e hS (e_faK rfl ty_fo63_2) rfl ?_); clear hS a; intro a hS)
            refine L_go hS rfl rfl (s_e hS (e_load rfl (by repeat constructor) ty_sc3 (by rfl)) rfl ?_); clear hS a; intro a hS
            refine L_go hS rfl rfl (s_callP hS (.cons rfl .nil) cf98 rfl (lwithin_P x.f _) ?_); clear hS a; (try clear w); intro a w hS
            refine L_go hS rfl rfl (s_e hS (e_not rfl) rfl ?_); clear hS a; intro a hS
            first | (refine L_op (s_e hS (e_pick_t rfl rfl) rfl ?_); clear hS a; intro a hS) | (refine L_op (s_e hS (e_pick_f rfl rfl) rfl ?_); clear hS a; intro a hS)
            exact hcM50 _ _ (hS.ends 6 50 45 rfl (congrArg Value.bool (by rw [← decide_not, decide_eq_decide]; exact ⟨.inr, fun h => h.resolve_left (by simpa using hg45)⟩)) rfl rfl (by first | exact congrArg Value.bool (decide_eq_false hg45).symm | exact congrArg Value.bool hg45.symm | simp [hg45]) rfl)
        · clear hS a; (try clear w); intro a w hS
          simp only [List.drop_succ_cons, List.drop_zero]
          refine L_op (s_e hS (e_assign rfl) rfl ?_); clear hS a; intro a hS
          refine L_nil ?_
          refine n_then ?_
          first | refine c_ifD hS rfl (fun hc40 => ?_) (fun hc40 => ?_) | refine c_if hS rfl (fun hc40 => ?_) (fun hc40 => ?_)
          ·
            refine c_seq ?_
            refine c_region ?_
            refine L_op (s_e hS (e_assign rfl) rfl ?_); clear hS a; intro a hS
            refine L_nil ?_
            refine n_then ?_
            refine wp_ret ?_
            refine r_block (r_block (r_then (r_then (r_block (r_then ?_)))))
            refine c_ret1 hS Try.results75 (.tmp rfl) ?_
            exact ⟨by rw [hpe, if_neg (by rw [hfnd]; decide), if_neg hnin, if_pos hc40], hS.chg⟩
          ·
            refine wp_skip ?_
            refine n_block ?_
            refine n_block ?_
            refine n_then ?_
            refine c_region ?_
            first | (refine L_op (s_e hS (e_binN rfl rfl rfl (by omega)) rfl ?_); clear hS a; intro a hS) | (refine L_op (s_e hS (e_bin rfl rfl rfl) rfl ?_); clear hS a; intro a hS)
            refine L_op (s_e hS (e_move rfl) rfl ?_); clear hS a; intro a hS
            refine L_nil ?_
            rw [if_neg (by rw [hfnd]; decide), if_neg hnin, if_neg hc40] at hpe
            have hsm : setM (seenM ((ps.take i).map (·.acc))) x.acc (.int .i64 (0 + 1)) = seenM ((ps.take (i + 1)).map (·.acc)) := by
              rw [setM_new _ (by rw [seen_has]; exact decide_eq_false hnin), htk]; simp [seenM]
            rw [if_neg hnin, hsm] at hS
            exact ⟨i + 1, by omega, (hS.slots (by repeat (first | exact trivial | refine ⟨rfl, ?_⟩))).pick (by repeat (first | exact Pick.nil | (refine Pick.cons (by repeat (first | exact Rem.head | apply Rem.tail)) ?_))), by omega, by rw [htk]; exact hpe⟩
  ·
    refine wp_exit ?_
    refine x_then (x_then (x_hit ?_))
    refine n_then ?_
    refine c_seq ?_
    refine c_region ?_
    refine L_op (s_e hS (e_assign rfl) rfl ?_); clear hS a; intro a hS
    refine L_nil ?_
    refine n_then ?_
    refine wp_ret ?_
    refine c_ret1 hS Try.results75 (.tmp rfl) ?_
    obtain rfl : i = ps.length := by omega
    rw [List.drop_length] at hpe
    exact ⟨by rw [hpe]; rfl, hS.chg⟩
end Go.Proofs.Ytheofhegdjjfgaa
