/- The ledger's postings and sums: plain data, and the small walks. -/
import Derived.Test.YtheofhegdjjfgaaFx1
import Derived.Test.YtheofhegdjjfgaaSe12
namespace Go.Proofs.Ytheofhegdjjfgaa
open Go.RowKit

section
variable {P : Program} {n : Nat} {a : Act} {L : List (Nat × Value)} {Γ : List Asn} {dst : Option Nat} {ty : Nat} {pos : String} {af : Array Edge} {g : Option (Nat × Bool)}
/-- a struct inside a block. -/
theorem e_loadSub {T b k E : Nat} {x : Operand} {cs l : List Value} (hx : ev L x = some (.pointer (some ⟨b, k, none⟩))) (hm : Asn.blk b cs E ∈ Γ) (hT : structT P T = true) (hz : szOf P T = some l.length) (hl : (cs.drop k).take l.length = l) :
    Ex P n a L Γ ⟨dst, .load T x, ty, pos, af, g⟩ (.agg l.toArray) :=
  e_loadAC hx hT hz (fun w hh j v hj => cell_of_blk (E := E) (hh _ hm) (by
    have hjl := (List.getElem?_eq_some_iff.1 hj).1
    rw [← List.getElem?_drop]
    rw [← hl, List.getElem?_take_of_lt hjl] at hj
    exact hj))
end

structure Pst where
  acc : ByteArray
  u : Int
  f : Int
def encP (p : Pst) : List Value := [.string p.acc, .int .i64 p.u, .int .i64 p.f]
abbrev SM := Int × Int
def encSm (s : SM) : List Value := [.int .u64 (Wd.hi s.1), .int .u64 (Wd.lo s.1), .int .u64 (Wd.hi s.2), .int .u64 (Wd.lo s.2)]
def addS (s : SM) (p : Pst) : SM := (s.1 + p.u, s.2 + p.f)
def fitS (s : SM) : Prop := Wd.fit s.1 ∧ Wd.fit s.2
structure Pst.fits (p : Pst) : Prop where
  acc : p.acc.size ≤ 4611686018427387904
  u : -9223372036854775808 ≤ p.u ∧ p.u ≤ 9223372036854775807
  f : -9223372036854775808 ≤ p.f ∧ p.f ≤ 9223372036854775807
theorem encSm_zero : encSm (0, 0) = [.int .u64 0, .int .u64 0, .int .u64 0, .int .u64 0] := by
  unfold encSm; rw [show Wd.hi 0 = 0 from by decide, show Wd.lo 0 = 0 from by decide]

set_option maxRecDepth 100000 in
theorem linst_P (n : Int) (w0 : World) : PureC Try.prog 67 [.int .i64 n] w0 (.bool (decide (inst n))) := by
  refine c_enter [(0, .int .i64 n)] [] noB Try.func67 rfl Try.ntmps67 ⟨rfl, trivial⟩ rfl (by simp) (by simp) (by simp) ?_
  intro a hS
  refine c_seq ?_
  refine c_region ?_
  refine L_op (s_e hS (e_assign rfl) rfl ?_); clear hS a; intro a hS
  refine L_nil ?_
  refine n_then ?_
  refine c_seq ?_
  refine c_region ?_
  refine L_op (s_e hS (e_move rfl) rfl ?_); clear hS a; intro a hS
  refine L_op (s_e hS (e_bin rfl rfl rfl) rfl ?_); clear hS a; intro a hS
  refine L_op (s_e hS (e_move rfl) rfl ?_); clear hS a; intro a hS
  refine L_merge 3 8 (.bool (decide (inst n))) hS ?_ ?_
  · intro hcM8
    (first | refine g_splitD (t := 5) hS rfl ?_ ?_ | refine g_split (t := 5) hS rfl ?_ ?_) <;> (clear hS; intro hg5 hS)
    ·
      refine L_go hS rfl rfl (s_e hS (e_move rfl) rfl ?_); clear hS a; intro a hS
      refine L_go hS rfl rfl (s_e hS (e_bin rfl rfl rfl) rfl ?_); clear hS a; intro a hS
      first | (refine L_op (s_e hS (e_pick_t rfl rfl) rfl ?_); clear hS a; intro a hS) | (refine L_op (s_e hS (e_pick_f rfl rfl) rfl ?_); clear hS a; intro a hS)
      exact hcM8 _ _ (hS.ends 4 8 5 rfl (congrArg Value.bool (by exact decide_eq_decide.2 (by unfold inst; omega))) rfl rfl (by first | exact congrArg Value.bool (decide_eq_true hg5).symm | exact congrArg Value.bool hg5.symm | simp [hg5]) rfl)
    ·
      refine L_skip_t hS rfl rfl rfl ?_; clear hS a; intro a hS
      refine L_skip_t hS rfl rfl rfl ?_; clear hS a; intro a hS
      first | (refine L_op (s_e hS (e_pick_t rfl rfl) rfl ?_); clear hS a; intro a hS) | (refine L_op (s_e hS (e_pick_f rfl rfl) rfl ?_); clear hS a; intro a hS)
      exact hcM8 _ _ (hS.ends 4 8 5 rfl (congrArg Value.bool (by exact (decide_eq_false (by unfold inst; omega)).symm)) rfl rfl (by first | exact congrArg Value.bool (decide_eq_false hg5).symm | exact congrArg Value.bool hg5.symm | simp [hg5]) rfl)
  · clear hS a; (try clear w); intro a w hS
    simp only [List.drop_succ_cons, List.drop_zero]
    refine L_op (s_e hS (e_assign rfl) rfl ?_); clear hS a; intro a hS
    refine L_nil ?_
    refine n_then ?_
    refine wp_ret ?_
    refine c_ret1 hS Try.results67 (.tmp rfl) ?_
    exact ⟨rfl, hS.chg⟩
set_option maxRecDepth 100000 in
theorem lwithin_P (n : Int) (w0 : World) : PureC Try.prog 98 [.int .i64 n] w0 (.bool (decide (inU n))) := by
  refine c_enter [(0, .int .i64 n)] [] noB Try.func98 rfl Try.ntmps98 ⟨rfl, trivial⟩ rfl (by simp) (by simp) (by simp) ?_
  intro a hS
  refine c_seq ?_
  refine c_region ?_
  refine L_op (s_e hS (e_assign rfl) rfl ?_); clear hS a; intro a hS
  refine L_nil ?_
  refine n_then ?_
  refine c_seq ?_
  refine c_region ?_
  refine L_op (s_e hS (e_move rfl) rfl ?_); clear hS a; intro a hS
  refine L_op (s_e hS (e_bin rfl rfl rfl) rfl ?_); clear hS a; intro a hS
  refine L_op (s_e hS (e_move rfl) rfl ?_); clear hS a; intro a hS
  refine L_merge 3 8 (.bool (decide (inU n))) hS ?_ ?_
  · intro hcM8
    (first | refine g_splitD (t := 5) hS rfl ?_ ?_ | refine g_split (t := 5) hS rfl ?_ ?_) <;> (clear hS; intro hg5 hS)
    ·
      refine L_go hS rfl rfl (s_e hS (e_move rfl) rfl ?_); clear hS a; intro a hS
      refine L_go hS rfl rfl (s_e hS (e_bin rfl rfl rfl) rfl ?_); clear hS a; intro a hS
      first | (refine L_op (s_e hS (e_pick_t rfl rfl) rfl ?_); clear hS a; intro a hS) | (refine L_op (s_e hS (e_pick_f rfl rfl) rfl ?_); clear hS a; intro a hS)
      exact hcM8 _ _ (hS.ends 4 8 5 rfl (congrArg Value.bool (by exact decide_eq_decide.2 (by unfold inU; omega))) rfl rfl (by first | exact congrArg Value.bool (decide_eq_true hg5).symm | exact congrArg Value.bool hg5.symm | simp [hg5]) rfl)
    ·
      refine L_skip_t hS rfl rfl rfl ?_; clear hS a; intro a hS
      refine L_skip_t hS rfl rfl rfl ?_; clear hS a; intro a hS
      first | (refine L_op (s_e hS (e_pick_t rfl rfl) rfl ?_); clear hS a; intro a hS) | (refine L_op (s_e hS (e_pick_f rfl rfl) rfl ?_); clear hS a; intro a hS)
      exact hcM8 _ _ (hS.ends 4 8 5 rfl (congrArg Value.bool (by exact (decide_eq_false (by unfold inU; omega)).symm)) rfl rfl (by first | exact congrArg Value.bool (decide_eq_false hg5).symm | exact congrArg Value.bool hg5.symm | simp [hg5]) rfl)
  · clear hS a; (try clear w); intro a w hS
    simp only [List.drop_succ_cons, List.drop_zero]
    refine L_op (s_e hS (e_assign rfl) rfl ?_); clear hS a; intro a hS
    refine L_nil ?_
    refine n_then ?_
    refine wp_ret ?_
    refine c_ret1 hS Try.results98 (.tmp rfl) ?_
    exact ⟨rfl, hS.chg⟩
set_option maxRecDepth 100000 in
theorem sadd_P (s : SM) (p : Pst) (hs : fitS s) (hp : p.fits) (hr : fitS (addS s p)) (w0 : World) :
    PureC Try.prog 70 [.agg (encSm s).toArray, .agg (encP p).toArray] w0 (.agg (encSm (addS s p)).toArray) := by
  have h1 := hp.u
  have h2 := hp.f
  have f1 : Wd.fit p.u := by unfold Wd.fit; omega
  have f2 : Wd.fit p.f := by unfold Wd.fit; omega
  refine c_enter [(0, .agg (encSm s).toArray), (1, .agg (encP p).toArray)] [] noB Try.func70 rfl Try.ntmps70 ⟨rfl, rfl, trivial⟩ rfl (by simp) (by simp) (by simp) ?_
  intro a hS
  refine c_seq ?_
  refine c_region ?_
  refine L_op (s_boxA hS rfl rfl ?_); clear hS a; (try clear w); intro a w b2 hS
  refine L_op (s_boxA hS rfl rfl ?_); clear hS a; (try clear w); intro a w b3 hS
  refine L_op (s_alloc hS ty_z136 rfl ?_); clear hS a; (try clear w); intro a w b4 hS
  refine L_nil ?_
  refine n_then ?_
  refine c_seq ?_
  refine c_drawS [] (by kernel_rfl) hS (sub_cons (X := .blk b2 _ _) (by repeat constructor) (sub_cons (X := .blk b3 _ _) (by repeat constructor) sub_nil)) ?_; clear hS; (try clear w); intro w hS
  simp only [List.length_cons, List.length_nil, Nat.zero_add, Nat.reduceAdd, List.replicate]
  first | (refine Z_take0 (i := 0) hS rfl want_none (e_fa0 rfl ty_fo136_0) (listed' := [true, false, false, false, false, false, false, false, false, false, false, false]) rfl (by kernel_rfl) (by kernel_rfl) (by kernel_rfl) (fun _ _ _ h => h) rfl ?_; clear hS a; intro a hS) | (refine Z_take0 (i := 0) hS rfl want_none (e_faK rfl ty_fo136_0) (listed' := [true, false, false, false, false, false, false, false, false, false, false, false]) rfl (by kernel_rfl) (by kernel_rfl) (by kernel_rfl) (fun _ _ _ h => h) rfl ?_; clear hS a; intro a hS)
  refine Z_take (i := 1) hS rfl want_none (e_loadSub (l := wv s.1) rfl (by repeat constructor) ty_st106 ty_sz106 rfl) (listed' := [true, true, false, false, false, false, false, false, false, false, false, false]) rfl (by kernel_rfl) (by kernel_rfl) (by kernel_rfl) (by kernel_rfl) (by kernel_rfl) (sub_cons (by repeat constructor) (sub_cons (by repeat constructor) sub_nil)) (fun _ _ _ h => h) rfl ?_; clear hS a; intro a hS
  first | (refine Z_take0 (i := 2) hS rfl want_none (e_fa0 rfl ty_fo63_1) (listed' := [true, true, true, false, false, false, false, false, false, false, false, false]) rfl (by kernel_rfl) (by kernel_rfl) (by kernel_rfl) (fun _ _ _ h => h) rfl ?_; clear hS a; intro a hS) | (refine Z_take0 (i := 2) hS rfl want_none (e_faK rfl ty_fo63_1) (listed' := [true, true, true, false, false, false, false, false, false, false, false, false]) rfl (by kernel_rfl) (by kernel_rfl) (by kernel_rfl) (fun _ _ _ h => h) rfl ?_; clear hS a; intro a hS)
  refine Z_take (i := 3) hS rfl want_none (e_load rfl (by repeat constructor) ty_sc3 (by rfl)) (listed' := [true, true, true, true, false, false, false, false, false, false, false, false]) rfl (by kernel_rfl) (by kernel_rfl) (by kernel_rfl) (by kernel_rfl) (by kernel_rfl) (sub_cons (by repeat constructor) (sub_cons (by repeat constructor) sub_nil)) (fun _ _ _ h => h) rfl ?_; clear hS a; intro a hS
  refine Z_many (j := 4) (js := [9]) (by kernel_rfl) ⟨?_, ?_, trivial⟩
  ·
    refine Z_op (i := 4) rfl (want_none a hS.sl) (listed' := [true, true, true, true, true, false, false, false, false, false, false, false]) rfl (s_callP hS (.cons rfl .nil) cf92 rfl (FromInt_P p.u (by omega) (by omega) _) ?_); clear hS a; (try clear w); intro a w hS
    refine Z_and hS (sub_cons (by repeat constructor) (sub_cons (by repeat constructor) sub_nil)) ?_
    refine Z_many (j := 5) (js := [9]) (by kernel_rfl) ⟨?_, ?_, trivial⟩
    ·
      refine Z_op (i := 5) rfl (want_none a hS.sl) (listed' := [true, true, true, true, true, true, false, false, false, false, false, false]) rfl (s_callP hS (.cons rfl (.cons rfl .nil)) cf97 rfl (Add_P s.1 p.u hs.1 f1 hr.1 _) ?_); clear hS a; (try clear w); intro a w hS
      refine Z_and hS (sub_cons (by repeat constructor) (sub_cons (by repeat constructor) sub_nil)) ?_
      refine Z_take0 (i := 6) hS rfl want_none (e_move rfl) (listed' := [true, true, true, true, true, true, true, false, false, false, false, false]) rfl (by kernel_rfl) (by kernel_rfl) (by kernel_rfl) (fun _ _ _ h => h) rfl ?_; clear hS a; intro a hS
      refine Z_take0 (i := 7) hS rfl want_none (e_extract rfl rfl) (listed' := [true, true, true, true, true, true, true, true, false, false, false, false]) rfl (by kernel_rfl) (by kernel_rfl) (by kernel_rfl) (fun _ _ _ h => h) rfl ?_; clear hS a; intro a hS
      refine Z_take0 (i := 8) hS rfl want_none (e_extract rfl rfl) (listed' := [true, true, true, true, true, true, true, true, true, false, false, false]) rfl (by kernel_rfl) (by kernel_rfl) (by kernel_rfl) (fun _ _ _ h => h) rfl ?_; clear hS a; intro a hS
      refine Z_one (i := 9) rfl (want_none a hS.sl) (listed' := [true, true, true, true, true, true, true, true, true, true, false, false]) rfl (by kernel_rfl) (s_alloc hS ty_z106 rfl ?_); clear hS a; (try clear w); intro a w b5 hS
      refine Z_and hS (sub_cons (by repeat constructor) (sub_cons (by repeat constructor) sub_nil)) ?_
      refine Z_one (i := 10) rfl (want_none a hS.sl) (listed' := [true, true, true, true, true, true, true, true, true, true, true, false]) rfl (by kernel_rfl) (s_storeA hS rfl rfl ty_sz106 (by repeat constructor) (by rfl) (by rfl) (by rfl) ?_); clear hS; (try clear w); intro w hS
      refine Z_and hS (sub_cons (by repeat constructor) (sub_cons (by repeat constructor) sub_nil)) ?_
      refine Z_take0 (i := 11) hS rfl want_none (e_assign rfl) (listed' := [true, true, true, true, true, true, true, true, true, true, true, true]) rfl (by kernel_rfl) (by kernel_rfl) (by kernel_rfl) (fun _ _ _ h => h) rfl ?_; clear hS a; intro a hS
      refine Z_done (by kernel_rfl) ?_
      refine n_then ?_
      refine c_seq ?_
      refine c_drawS [] (by kernel_rfl) hS (sub_cons (X := .blk b2 _ _) (by repeat constructor) (sub_cons (X := .blk b3 _ _) (by repeat constructor) sub_nil)) ?_; clear hS; (try clear w); intro w hS
      simp only [List.length_cons, List.length_nil, Nat.zero_add, Nat.reduceAdd, List.replicate]
      first | (refine Z_take0 (i := 0) hS rfl want_none (e_fa0 rfl ty_fo136_1) (listed' := [true, false, false, false, false, false, false, false, false, false, false, false]) rfl (by kernel_rfl) (by kernel_rfl) (by kernel_rfl) (fun _ _ _ h => h) rfl ?_; clear hS a; intro a hS) | (refine Z_take0 (i := 0) hS rfl want_none (e_faK rfl ty_fo136_1) (listed' := [true, false, false, false, false, false, false, false, false, false, false, false]) rfl (by kernel_rfl) (by kernel_rfl) (by kernel_rfl) (fun _ _ _ h => h) rfl ?_; clear hS a; intro a hS)
      refine Z_take (i := 1) hS rfl want_none (e_loadSub (l := wv s.2) rfl (by repeat constructor) ty_st106 ty_sz106 rfl) (listed' := [true, true, false, false, false, false, false, false, false, false, false, false]) rfl (by kernel_rfl) (by kernel_rfl) (by kernel_rfl) (by kernel_rfl) (by kernel_rfl) (sub_cons (by repeat constructor) (sub_cons (by repeat constructor) sub_nil)) (fun _ _ _ h => h) rfl ?_; clear hS a; intro a hS
      first | (refine Z_take0 (i := 2) hS rfl want_none (e_fa0 rfl ty_fo63_2) (listed' := [true, true, true, false, false, false, false, false, false, false, false, false]) rfl (by kernel_rfl) (by kernel_rfl) (by kernel_rfl) (fun _ _ _ h => h) rfl ?_; clear hS a; intro a hS) | (refine Z_take0 (i := 2) hS rfl want_none (e_faK rfl ty_fo63_2) (listed' := [true, true, true, false, false, false, false, false, false, false, false, false]) rfl (by kernel_rfl) (by kernel_rfl) (by kernel_rfl) (fun _ _ _ h => h) rfl ?_; clear hS a; intro a hS)
      refine Z_take (i := 3) hS rfl want_none (e_load rfl (by repeat constructor) ty_sc3 (by rfl)) (listed' := [true, true, true, true, false, false, false, false, false, false, false, false]) rfl (by kernel_rfl) (by kernel_rfl) (by kernel_rfl) (by kernel_rfl) (by kernel_rfl) (sub_cons (by repeat constructor) (sub_cons (by repeat constructor) sub_nil)) (fun _ _ _ h => h) rfl ?_; clear hS a; intro a hS
      refine Z_many (j := 4) (js := [9]) (by kernel_rfl) ⟨?_, ?_, trivial⟩
      ·
        refine Z_op (i := 4) rfl (want_none a hS.sl) (listed' := [true, true, true, true, true, false, false, false, false, false, false, false]) rfl (s_callP hS (.cons rfl .nil) cf92 rfl (FromInt_P p.f (by omega) (by omega) _) ?_); clear hS a; (try clear w); intro a w hS
        refine Z_and hS (sub_cons (by repeat constructor) (sub_cons (by repeat constructor) sub_nil)) ?_
        refine Z_many (j := 5) (js := [9]) (by kernel_rfl) ⟨?_, ?_, trivial⟩
        ·
          refine Z_op (i := 5) rfl (want_none a hS.sl) (listed' := [true, true, true, true, true, true, false, false, false, false, false, false]) rfl (s_callP hS (.cons rfl (.cons rfl .nil)) cf97 rfl (Add_P s.2 p.f hs.2 f2 hr.2 _) ?_); clear hS a; (try clear w); intro a w hS
          refine Z_and hS (sub_cons (by repeat constructor) (sub_cons (by repeat constructor) sub_nil)) ?_
          refine Z_take0 (i := 6) hS rfl want_none (e_move rfl) (listed' := [true, true, true, true, true, true, true, false, false, false, false, false]) rfl (by kernel_rfl) (by kernel_rfl) (by kernel_rfl) (fun _ _ _ h => h) rfl ?_; clear hS a; intro a hS
          refine Z_take0 (i := 7) hS rfl want_none (e_extract rfl rfl) (listed' := [true, true, true, true, true, true, true, true, false, false, false, false]) rfl (by kernel_rfl) (by kernel_rfl) (by kernel_rfl) (fun _ _ _ h => h) rfl ?_; clear hS a; intro a hS
          refine Z_take0 (i := 8) hS rfl want_none (e_extract rfl rfl) (listed' := [true, true, true, true, true, true, true, true, true, false, false, false]) rfl (by kernel_rfl) (by kernel_rfl) (by kernel_rfl) (fun _ _ _ h => h) rfl ?_; clear hS a; intro a hS
          refine Z_one (i := 9) rfl (want_none a hS.sl) (listed' := [true, true, true, true, true, true, true, true, true, true, false, false]) rfl (by kernel_rfl) (s_alloc hS ty_z106 rfl ?_); clear hS a; (try clear w); intro a w b7 hS
          refine Z_and hS (sub_cons (by repeat constructor) (sub_cons (by repeat constructor) sub_nil)) ?_
          refine Z_one (i := 10) rfl (want_none a hS.sl) (listed' := [true, true, true, true, true, true, true, true, true, true, true, false]) rfl (by kernel_rfl) (s_storeA hS rfl rfl ty_sz106 (by repeat constructor) (by rfl) (by rfl) (by rfl) ?_); clear hS; (try clear w); intro w hS
          refine Z_and hS (sub_cons (by repeat constructor) (sub_cons (by repeat constructor) sub_nil)) ?_
          refine Z_take0 (i := 11) hS rfl want_none (e_assign rfl) (listed' := [true, true, true, true, true, true, true, true, true, true, true, true]) rfl (by kernel_rfl) (by kernel_rfl) (by kernel_rfl) (fun _ _ _ h => h) rfl ?_; clear hS a; intro a hS
          refine Z_done (by kernel_rfl) ?_
          refine n_then ?_
          refine c_seq ?_
          refine c_region ?_
          refine L_op (s_e hS (e_loadA rfl (by repeat constructor) ty_st106 ty_sz106 (by rfl)) rfl ?_); clear hS a; intro a hS
          refine L_op (s_e hS (e_loadA rfl (by repeat constructor) ty_st106 ty_sz106 (by rfl)) rfl ?_); clear hS a; intro a hS
          refine L_op (s_e hS (e_build ty_z136 ty_pl136 (.agg rfl rfl rfl rfl (by repeat (first | apply UpdA.nil | (apply UpdA.cons; (repeat (first | apply Upd.z | apply Upd.s))))) (.agg rfl rfl rfl rfl (by repeat (first | apply UpdA.nil | (apply UpdA.cons; (repeat (first | apply Upd.z | apply Upd.s))))) .nil))) rfl ?_); clear hS a; intro a hS
          refine L_op (s_storeA hS rfl rfl ty_sz136 (by repeat constructor) (by rfl) (by rfl) (by rfl) ?_); clear hS; (try clear w); intro w hS
          refine L_nil ?_
          refine n_then ?_
          refine wp_ret ?_
          refine c_ret1 hS Try.results70 (.cellA rfl (by repeat constructor) ty_st136 ty_sz136 (by rfl)) ?_
          exact ⟨rfl, hS.chg⟩
        ·
          refine Z_op (i := 9) rfl (want_none a hS.sl) (listed' := [true, true, true, true, true, false, false, false, false, true, false, false]) rfl (s_alloc hS ty_z106 rfl ?_); clear hS a; (try clear w); intro a w b7 hS
          refine Z_and hS (sub_cons (by repeat constructor) (sub_cons (by repeat constructor) sub_nil)) ?_
          refine Z_one (i := 5) rfl (want_none a hS.sl) (listed' := [true, true, true, true, true, true, false, false, false, true, false, false]) rfl (by kernel_rfl) (s_callP hS (.cons rfl (.cons rfl .nil)) cf97 rfl (Add_P s.2 p.f hs.2 f2 hr.2 _) ?_); clear hS a; (try clear w); intro a w hS
          refine Z_and hS (sub_cons (by repeat constructor) (sub_cons (by repeat constructor) sub_nil)) ?_
          refine Z_take0 (i := 6) hS rfl want_none (e_move rfl) (listed' := [true, true, true, true, true, true, true, false, false, true, false, false]) rfl (by kernel_rfl) (by kernel_rfl) (by kernel_rfl) (fun _ _ _ h => h) rfl ?_; clear hS a; intro a hS
          refine Z_take0 (i := 7) hS rfl want_none (e_extract rfl rfl) (listed' := [true, true, true, true, true, true, true, true, false, true, false, false]) rfl (by kernel_rfl) (by kernel_rfl) (by kernel_rfl) (fun _ _ _ h => h) rfl ?_; clear hS a; intro a hS
          refine Z_take0 (i := 8) hS rfl want_none (e_extract rfl rfl) (listed' := [true, true, true, true, true, true, true, true, true, true, false, false]) rfl (by kernel_rfl) (by kernel_rfl) (by kernel_rfl) (fun _ _ _ h => h) rfl ?_; clear hS a; intro a hS
          refine Z_one (i := 10) rfl (want_none a hS.sl) (listed' := [true, true, true, true, true, true, true, true, true, true, true, false]) rfl (by kernel_rfl) (s_storeA hS rfl rfl ty_sz106 (by repeat constructor) (by rfl) (by rfl) (by rfl) ?_); clear hS; (try clear w); intro w hS
          refine Z_and hS (sub_cons (by repeat constructor) (sub_cons (by repeat constructor) sub_nil)) ?_
          refine Z_take0 (i := 11) hS rfl want_none (e_assign rfl) (listed' := [true, true, true, true, true, true, true, true, true, true, true, true]) rfl (by kernel_rfl) (by kernel_rfl) (by kernel_rfl) (fun _ _ _ h => h) rfl ?_; clear hS a; intro a hS
          refine Z_done (by kernel_rfl) ?_
          refine n_then ?_
          refine c_seq ?_
          refine c_region ?_
          refine L_op (s_e hS (e_loadA rfl (by repeat constructor) ty_st106 ty_sz106 (by rfl)) rfl ?_); clear hS a; intro a hS
          refine L_op (s_e hS (e_loadA rfl (by repeat constructor) ty_st106 ty_sz106 (by rfl)) rfl ?_); clear hS a; intro a hS
          refine L_op (s_e hS (e_build ty_z136 ty_pl136 (.agg rfl rfl rfl rfl (by repeat (first | apply UpdA.nil | (apply UpdA.cons; (repeat (first | apply Upd.z | apply Upd.s))))) (.agg rfl rfl rfl rfl (by repeat (first | apply UpdA.nil | (apply UpdA.cons; (repeat (first | apply Upd.z | apply Upd.s))))) .nil))) rfl ?_); clear hS a; intro a hS
          refine L_op (s_storeA hS rfl rfl ty_sz136 (by repeat constructor) (by rfl) (by rfl) (by rfl) ?_); clear hS; (try clear w); intro w hS
          refine L_nil ?_
          refine n_then ?_
          refine wp_ret ?_
          refine c_ret1 hS Try.results70 (.cellA rfl (by repeat constructor) ty_st136 ty_sz136 (by rfl)) ?_
          exact ⟨rfl, hS.chg⟩
      ·
        refine Z_op (i := 9) rfl (want_none a hS.sl) (listed' := [true, true, true, true, false, false, false, false, false, true, false, false]) rfl (s_alloc hS ty_z106 rfl ?_); clear hS a; (try clear w); intro a w b7 hS
        refine Z_and hS (sub_cons (by repeat constructor) (sub_cons (by repeat constructor) sub_nil)) ?_
        refine Z_one (i := 4) rfl (want_none a hS.sl) (listed' := [true, true, true, true, true, false, false, false, false, true, false, false]) rfl (by kernel_rfl) (s_callP hS (.cons rfl .nil) cf92 rfl (FromInt_P p.f (by omega) (by omega) _) ?_); clear hS a; (try clear w); intro a w hS
        refine Z_and hS (sub_cons (by repeat constructor) (sub_cons (by repeat constructor) sub_nil)) ?_
        refine Z_one (i := 5) rfl (want_none a hS.sl) (listed' := [true, true, true, true, true, true, false, false, false, true, false, false]) rfl (by kernel_rfl) (s_callP hS (.cons rfl (.cons rfl .nil)) cf97 rfl (Add_P s.2 p.f hs.2 f2 hr.2 _) ?_); clear hS a; (try clear w); intro a w hS
        refine Z_and hS (sub_cons (by repeat constructor) (sub_cons (by repeat constructor) sub_nil)) ?_
        refine Z_take0 (i := 6) hS rfl want_none (e_move rfl) (listed' := [true, true, true, true, true, true, true, false, false, true, false, false]) rfl (by kernel_rfl) (by kernel_rfl) (by kernel_rfl) (fun _ _ _ h => h) rfl ?_; clear hS a; intro a hS
        refine Z_take0 (i := 7) hS rfl want_none (e_extract rfl rfl) (listed' := [true, true, true, true, true, true, true, true, false, true, false, false]) rfl (by kernel_rfl) (by kernel_rfl) (by kernel_rfl) (fun _ _ _ h => h) rfl ?_; clear hS a; intro a hS
        refine Z_take0 (i := 8) hS rfl want_none (e_extract rfl rfl) (listed' := [true, true, true, true, true, true, true, true, true, true, false, false]) rfl (by kernel_rfl) (by kernel_rfl) (by kernel_rfl) (fun _ _ _ h => h) rfl ?_; clear hS a; intro a hS
        refine Z_one (i := 10) rfl (want_none a hS.sl) (listed' := [true, true, true, true, true, true, true, true, true, true, true, false]) rfl (by kernel_rfl) (s_storeA hS rfl rfl ty_sz106 (by repeat constructor) (by rfl) (by rfl) (by rfl) ?_); clear hS; (try clear w); intro w hS
        refine Z_and hS (sub_cons (by repeat constructor) (sub_cons (by repeat constructor) sub_nil)) ?_
        refine Z_take0 (i := 11) hS rfl want_none (e_assign rfl) (listed' := [true, true, true, true, true, true, true, true, true, true, true, true]) rfl (by kernel_rfl) (by kernel_rfl) (by kernel_rfl) (fun _ _ _ h => h) rfl ?_; clear hS a; intro a hS
        refine Z_done (by kernel_rfl) ?_
        refine n_then ?_
        refine c_seq ?_
        refine c_region ?_
        refine L_op (s_e hS (e_loadA rfl (by repeat constructor) ty_st106 ty_sz106 (by rfl)) rfl ?_); clear hS a; intro a hS
        refine L_op (s_e hS (e_loadA rfl (by repeat constructor) ty_st106 ty_sz106 (by rfl)) rfl ?_); clear hS a; intro a hS
        refine L_op (s_e hS (e_build ty_z136 ty_pl136 (.agg rfl rfl rfl rfl (by repeat (first | apply UpdA.nil | (apply UpdA.cons; (repeat (first | apply Upd.z | apply Upd.s))))) (.agg rfl rfl rfl rfl (by repeat (first | apply UpdA.nil | (apply UpdA.cons; (repeat (first | apply Upd.z | apply Upd.s))))) .nil))) rfl ?_); clear hS a; intro a hS
        refine L_op (s_storeA hS rfl rfl ty_sz136 (by repeat constructor) (by rfl) (by rfl) (by rfl) ?_); clear hS; (try clear w); intro w hS
        refine L_nil ?_
        refine n_then ?_
        refine wp_ret ?_
        refine c_ret1 hS Try.results70 (.cellA rfl (by repeat constructor) ty_st136 ty_sz136 (by rfl)) ?_
        exact ⟨rfl, hS.chg⟩
    ·
      refine Z_op (i := 9) rfl (want_none a hS.sl) (listed' := [true, true, true, true, true, false, false, false, false, true, false, false]) rfl (s_alloc hS ty_z106 rfl ?_); clear hS a; (try clear w); intro a w b5 hS
      refine Z_and hS (sub_cons (by repeat constructor) (sub_cons (by repeat constructor) sub_nil)) ?_
      refine Z_one (i := 5) rfl (want_none a hS.sl) (listed' := [true, true, true, true, true, true, false, false, false, true, false, false]) rfl (by kernel_rfl) (s_callP hS (.cons rfl (.cons rfl .nil)) cf97 rfl (Add_P s.1 p.u hs.1 f1 hr.1 _) ?_); clear hS a; (try clear w); intro a w hS
      refine Z_and hS (sub_cons (by repeat constructor) (sub_cons (by repeat constructor) sub_nil)) ?_
      refine Z_take0 (i := 6) hS rfl want_none (e_move rfl) (listed' := [true, true, true, true, true, true, true, false, false, true, false, false]) rfl (by kernel_rfl) (by kernel_rfl) (by kernel_rfl) (fun _ _ _ h => h) rfl ?_; clear hS a; intro a hS
      refine Z_take0 (i := 7) hS rfl want_none (e_extract rfl rfl) (listed' := [true, true, true, true, true, true, true, true, false, true, false, false]) rfl (by kernel_rfl) (by kernel_rfl) (by kernel_rfl) (fun _ _ _ h => h) rfl ?_; clear hS a; intro a hS
      refine Z_take0 (i := 8) hS rfl want_none (e_extract rfl rfl) (listed' := [true, true, true, true, true, true, true, true, true, true, false, false]) rfl (by kernel_rfl) (by kernel_rfl) (by kernel_rfl) (fun _ _ _ h => h) rfl ?_; clear hS a; intro a hS
      refine Z_one (i := 10) rfl (want_none a hS.sl) (listed' := [true, true, true, true, true, true, true, true, true, true, true, false]) rfl (by kernel_rfl) (s_storeA hS rfl rfl ty_sz106 (by repeat constructor) (by rfl) (by rfl) (by rfl) ?_); clear hS; (try clear w); intro w hS
      refine Z_and hS (sub_cons (by repeat constructor) (sub_cons (by repeat constructor) sub_nil)) ?_
      refine Z_take0 (i := 11) hS rfl want_none (e_assign rfl) (listed' := [true, true, true, true, true, true, true, true, true, true, true, true]) rfl (by kernel_rfl) (by kernel_rfl) (by kernel_rfl) (fun _ _ _ h => h) rfl ?_; clear hS a; intro a hS
      refine Z_done (by kernel_rfl) ?_
      refine n_then ?_
      refine c_seq ?_
      refine c_drawS [] (by kernel_rfl) hS (sub_cons (X := .blk b2 _ _) (by repeat constructor) (sub_cons (X := .blk b3 _ _) (by repeat constructor) sub_nil)) ?_; clear hS; (try clear w); intro w hS
      simp only [List.length_cons, List.length_nil, Nat.zero_add, Nat.reduceAdd, List.replicate]
      first | (refine Z_take0 (i := 0) hS rfl want_none (e_fa0 rfl ty_fo136_1) (listed' := [true, false, false, false, false, false, false, false, false, false, false, false]) rfl (by kernel_rfl) (by kernel_rfl) (by kernel_rfl) (fun _ _ _ h => h) rfl ?_; clear hS a; intro a hS) | (refine Z_take0 (i := 0) hS rfl want_none (e_faK rfl ty_fo136_1) (listed' := [true, false, false, false, false, false, false, false, false, false, false, false]) rfl (by kernel_rfl) (by kernel_rfl) (by kernel_rfl) (fun _ _ _ h => h) rfl ?_; clear hS a; intro a hS)
      refine Z_take (i := 1) hS rfl want_none (e_loadSub (l := wv s.2) rfl (by repeat constructor) ty_st106 ty_sz106 rfl) (listed' := [true, true, false, false, false, false, false, false, false, false, false, false]) rfl (by kernel_rfl) (by kernel_rfl) (by kernel_rfl) (by kernel_rfl) (by kernel_rfl) (sub_cons (by repeat constructor) (sub_cons (by repeat constructor) sub_nil)) (fun _ _ _ h => h) rfl ?_; clear hS a; intro a hS
      first | (refine Z_take0 (i := 2) hS rfl want_none (e_fa0 rfl ty_fo63_2) (listed' := [true, true, true, false, false, false, false, false, false, false, false, false]) rfl (by kernel_rfl) (by kernel_rfl) (by kernel_rfl) (fun _ _ _ h => h) rfl ?_; clear hS a; intro a hS) | (refine Z_take0 (i := 2) hS rfl want_none (e_faK rfl ty_fo63_2) (listed' := [true, true, true, false, false, false, false, false, false, false, false, false]) rfl (by kernel_rfl) (by kernel_rfl) (by kernel_rfl) (fun _ _ _ h => h) rfl ?_; clear hS a; intro a hS)
      refine Z_take (i := 3) hS rfl want_none (e_load rfl (by repeat constructor) ty_sc3 (by rfl)) (listed' := [true, true, true, true, false, false, false, false, false, false, false, false]) rfl (by kernel_rfl) (by kernel_rfl) (by kernel_rfl) (by kernel_rfl) (by kernel_rfl) (sub_cons (by repeat constructor) (sub_cons (by repeat constructor) sub_nil)) (fun _ _ _ h => h) rfl ?_; clear hS a; intro a hS
      refine Z_many (j := 4) (js := [9]) (by kernel_rfl) ⟨?_, ?_, trivial⟩
      ·
        refine Z_op (i := 4) rfl (want_none a hS.sl) (listed' := [true, true, true, true, true, false, false, false, false, false, false, false]) rfl (s_callP hS (.cons rfl .nil) cf92 rfl (FromInt_P p.f (by omega) (by omega) _) ?_); clear hS a; (try clear w); intro a w hS
        refine Z_and hS (sub_cons (by repeat constructor) (sub_cons (by repeat constructor) sub_nil)) ?_
        refine Z_many (j := 5) (js := [9]) (by kernel_rfl) ⟨?_, ?_, trivial⟩
        ·
          refine Z_op (i := 5) rfl (want_none a hS.sl) (listed' := [true, true, true, true, true, true, false, false, false, false, false, false]) rfl (s_callP hS (.cons rfl (.cons rfl .nil)) cf97 rfl (Add_P s.2 p.f hs.2 f2 hr.2 _) ?_); clear hS a; (try clear w); intro a w hS
          refine Z_and hS (sub_cons (by repeat constructor) (sub_cons (by repeat constructor) sub_nil)) ?_
          refine Z_take0 (i := 6) hS rfl want_none (e_move rfl) (listed' := [true, true, true, true, true, true, true, false, false, false, false, false]) rfl (by kernel_rfl) (by kernel_rfl) (by kernel_rfl) (fun _ _ _ h => h) rfl ?_; clear hS a; intro a hS
          refine Z_take0 (i := 7) hS rfl want_none (e_extract rfl rfl) (listed' := [true, true, true, true, true, true, true, true, false, false, false, false]) rfl (by kernel_rfl) (by kernel_rfl) (by kernel_rfl) (fun _ _ _ h => h) rfl ?_; clear hS a; intro a hS
          refine Z_take0 (i := 8) hS rfl want_none (e_extract rfl rfl) (listed' := [true, true, true, true, true, true, true, true, true, false, false, false]) rfl (by kernel_rfl) (by kernel_rfl) (by kernel_rfl) (fun _ _ _ h => h) rfl ?_; clear hS a; intro a hS
          refine Z_one (i := 9) rfl (want_none a hS.sl) (listed' := [true, true, true, true, true, true, true, true, true, true, false, false]) rfl (by kernel_rfl) (s_alloc hS ty_z106 rfl ?_); clear hS a; (try clear w); intro a w b7 hS
          refine Z_and hS (sub_cons (by repeat constructor) (sub_cons (by repeat constructor) sub_nil)) ?_
          refine Z_one (i := 10) rfl (want_none a hS.sl) (listed' := [true, true, true, true, true, true, true, true, true, true, true, false]) rfl (by kernel_rfl) (s_storeA hS rfl rfl ty_sz106 (by repeat constructor) (by rfl) (by rfl) (by rfl) ?_); clear hS; (try clear w); intro w hS
          refine Z_and hS (sub_cons (by repeat constructor) (sub_cons (by repeat constructor) sub_nil)) ?_
          refine Z_take0 (i := 11) hS rfl want_none (e_assign rfl) (listed' := [true, true, true, true, true, true, true, true, true, true, true, true]) rfl (by kernel_rfl) (by kernel_rfl) (by kernel_rfl) (fun _ _ _ h => h) rfl ?_; clear hS a; intro a hS
          refine Z_done (by kernel_rfl) ?_
          refine n_then ?_
          refine c_seq ?_
          refine c_region ?_
          refine L_op (s_e hS (e_loadA rfl (by repeat constructor) ty_st106 ty_sz106 (by rfl)) rfl ?_); clear hS a; intro a hS
          refine L_op (s_e hS (e_loadA rfl (by repeat constructor) ty_st106 ty_sz106 (by rfl)) rfl ?_); clear hS a; intro a hS
          refine L_op (s_e hS (e_build ty_z136 ty_pl136 (.agg rfl rfl rfl rfl (by repeat (first | apply UpdA.nil | (apply UpdA.cons; (repeat (first | apply Upd.z | apply Upd.s))))) (.agg rfl rfl rfl rfl (by repeat (first | apply UpdA.nil | (apply UpdA.cons; (repeat (first | apply Upd.z | apply Upd.s))))) .nil))) rfl ?_); clear hS a; intro a hS
          refine L_op (s_storeA hS rfl rfl ty_sz136 (by repeat constructor) (by rfl) (by rfl) (by rfl) ?_); clear hS; (try clear w); intro w hS
          refine L_nil ?_
          refine n_then ?_
          refine wp_ret ?_
          refine c_ret1 hS Try.results70 (.cellA rfl (by repeat constructor) ty_st136 ty_sz136 (by rfl)) ?_
          exact ⟨rfl, hS.chg⟩
        ·
          refine Z_op (i := 9) rfl (want_none a hS.sl) (listed' := [true, true, true, true, true, false, false, false, false, true, false, false]) rfl (s_alloc hS ty_z106 rfl ?_); clear hS a; (try clear w); intro a w b7 hS
          refine Z_and hS (sub_cons (by repeat constructor) (sub_cons (by repeat constructor) sub_nil)) ?_
          refine Z_one (i := 5) rfl (want_none a hS.sl) (listed' := [true, true, true, true, true, true, false, false, false, true, false, false]) rfl (by kernel_rfl) (s_callP hS (.cons rfl (.cons rfl .nil)) cf97 rfl (Add_P s.2 p.f hs.2 f2 hr.2 _) ?_); clear hS a; (try clear w); intro a w hS
          refine Z_and hS (sub_cons (by repeat constructor) (sub_cons (by repeat constructor) sub_nil)) ?_
          refine Z_take0 (i := 6) hS rfl want_none (e_move rfl) (listed' := [true, true, true, true, true, true, true, false, false, true, false, false]) rfl (by kernel_rfl) (by kernel_rfl) (by kernel_rfl) (fun _ _ _ h => h) rfl ?_; clear hS a; intro a hS
          refine Z_take0 (i := 7) hS rfl want_none (e_extract rfl rfl) (listed' := [true, true, true, true, true, true, true, true, false, true, false, false]) rfl (by kernel_rfl) (by kernel_rfl) (by kernel_rfl) (fun _ _ _ h => h) rfl ?_; clear hS a; intro a hS
          refine Z_take0 (i := 8) hS rfl want_none (e_extract rfl rfl) (listed' := [true, true, true, true, true, true, true, true, true, true, false, false]) rfl (by kernel_rfl) (by kernel_rfl) (by kernel_rfl) (fun _ _ _ h => h) rfl ?_; clear hS a; intro a hS
          refine Z_one (i := 10) rfl (want_none a hS.sl) (listed' := [true, true, true, true, true, true, true, true, true, true, true, false]) rfl (by kernel_rfl) (s_storeA hS rfl rfl ty_sz106 (by repeat constructor) (by rfl) (by rfl) (by rfl) ?_); clear hS; (try clear w); intro w hS
          refine Z_and hS (sub_cons (by repeat constructor) (sub_cons (by repeat constructor) sub_nil)) ?_
          refine Z_take0 (i := 11) hS rfl want_none (e_assign rfl) (listed' := [true, true, true, true, true, true, true, true, true, true, true, true]) rfl (by kernel_rfl) (by kernel_rfl) (by kernel_rfl) (fun _ _ _ h => h) rfl ?_; clear hS a; intro a hS
          refine Z_done (by kernel_rfl) ?_
          refine n_then ?_
          refine c_seq ?_
          refine c_region ?_
          refine L_op (s_e hS (e_loadA rfl (by repeat constructor) ty_st106 ty_sz106 (by rfl)) rfl ?_); clear hS a; intro a hS
          refine L_op (s_e hS (e_loadA rfl (by repeat constructor) ty_st106 ty_sz106 (by rfl)) rfl ?_); clear hS a; intro a hS
          refine L_op (s_e hS (e_build ty_z136 ty_pl136 (.agg rfl rfl rfl rfl (by repeat (first | apply UpdA.nil | (apply UpdA.cons; (repeat (first | apply Upd.z | apply Upd.s))))) (.agg rfl rfl rfl rfl (by repeat (first | apply UpdA.nil | (apply UpdA.cons; (repeat (first | apply Upd.z | apply Upd.s))))) .nil))) rfl ?_); clear hS a; intro a hS
          refine L_op (s_storeA hS rfl rfl ty_sz136 (by repeat constructor) (by rfl) (by rfl) (by rfl) ?_); clear hS; (try clear w); intro w hS
          refine L_nil ?_
          refine n_then ?_
          refine wp_ret ?_
          refine c_ret1 hS Try.results70 (.cellA rfl (by repeat constructor) ty_st136 ty_sz136 (by rfl)) ?_
          exact ⟨rfl, hS.chg⟩
      ·
        refine Z_op (i := 9) rfl (want_none a hS.sl) (listed' := [true, true, true, true, false, false, false, false, false, true, false, false]) rfl (s_alloc hS ty_z106 rfl ?_); clear hS a; (try clear w); intro a w b7 hS
        refine Z_and hS (sub_cons (by repeat constructor) (sub_cons (by repeat constructor) sub_nil)) ?_
        refine Z_one (i := 4) rfl (want_none a hS.sl) (listed' := [true, true, true, true, true, false, false, false, false, true, false, false]) rfl (by kernel_rfl) (s_callP hS (.cons rfl .nil) cf92 rfl (FromInt_P p.f (by omega) (by omega) _) ?_); clear hS a; (try clear w); intro a w hS
        refine Z_and hS (sub_cons (by repeat constructor) (sub_cons (by repeat constructor) sub_nil)) ?_
        refine Z_one (i := 5) rfl (want_none a hS.sl) (listed' := [true, true, true, true, true, true, false, false, false, true, false, false]) rfl (by kernel_rfl) (s_callP hS (.cons rfl (.cons rfl .nil)) cf97 rfl (Add_P s.2 p.f hs.2 f2 hr.2 _) ?_); clear hS a; (try clear w); intro a w hS
        refine Z_and hS (sub_cons (by repeat constructor) (sub_cons (by repeat constructor) sub_nil)) ?_
        refine Z_take0 (i := 6) hS rfl want_none (e_move rfl) (listed' := [true, true, true, true, true, true, true, false, false, true, false, false]) rfl (by kernel_rfl) (by kernel_rfl) (by kernel_rfl) (fun _ _ _ h => h) rfl ?_; clear hS a; intro a hS
        refine Z_take0 (i := 7) hS rfl want_none (e_extract rfl rfl) (listed' := [true, true, true, true, true, true, true, true, false, true, false, false]) rfl (by kernel_rfl) (by kernel_rfl) (by kernel_rfl) (fun _ _ _ h => h) rfl ?_; clear hS a; intro a hS
        refine Z_take0 (i := 8) hS rfl want_none (e_extract rfl rfl) (listed' := [true, true, true, true, true, true, true, true, true, true, false, false]) rfl (by kernel_rfl) (by kernel_rfl) (by kernel_rfl) (fun _ _ _ h => h) rfl ?_; clear hS a; intro a hS
        refine Z_one (i := 10) rfl (want_none a hS.sl) (listed' := [true, true, true, true, true, true, true, true, true, true, true, false]) rfl (by kernel_rfl) (s_storeA hS rfl rfl ty_sz106 (by repeat constructor) (by rfl) (by rfl) (by rfl) ?_); clear hS; (try clear w); intro w hS
        refine Z_and hS (sub_cons (by repeat constructor) (sub_cons (by repeat constructor) sub_nil)) ?_
        refine Z_take0 (i := 11) hS rfl want_none (e_assign rfl) (listed' := [true, true, true, true, true, true, true, true, true, true, true, true]) rfl (by kernel_rfl) (by kernel_rfl) (by kernel_rfl) (fun _ _ _ h => h) rfl ?_; clear hS a; intro a hS
        refine Z_done (by kernel_rfl) ?_
        refine n_then ?_
        refine c_seq ?_
        refine c_region ?_
        refine L_op (s_e hS (e_loadA rfl (by repeat constructor) ty_st106 ty_sz106 (by rfl)) rfl ?_); clear hS a; intro a hS
        refine L_op (s_e hS (e_loadA rfl (by repeat constructor) ty_st106 ty_sz106 (by rfl)) rfl ?_); clear hS a; intro a hS
        refine L_op (s_e hS (e_build ty_z136 ty_pl136 (.agg rfl rfl rfl rfl (by repeat (first | apply UpdA.nil | (apply UpdA.cons; (repeat (first | apply Upd.z | apply Upd.s))))) (.agg rfl rfl rfl rfl (by repeat (first | apply UpdA.nil | (apply UpdA.cons; (repeat (first | apply Upd.z | apply Upd.s))))) .nil))) rfl ?_); clear hS a; intro a hS
        refine L_op (s_storeA hS rfl rfl ty_sz136 (by repeat constructor) (by rfl) (by rfl) (by rfl) ?_); clear hS; (try clear w); intro w hS
        refine L_nil ?_
        refine n_then ?_
        refine wp_ret ?_
        refine c_ret1 hS Try.results70 (.cellA rfl (by repeat constructor) ty_st136 ty_sz136 (by rfl)) ?_
        exact ⟨rfl, hS.chg⟩
  ·
    refine Z_op (i := 9) rfl (want_none a hS.sl) (listed' := [true, true, true, true, false, false, false, false, false, true, false, false]) rfl (s_alloc hS ty_z106 rfl ?_); clear hS a; (try clear w); intro a w b5 hS
    refine Z_and hS (sub_cons (by repeat constructor) (sub_cons (by repeat constructor) sub_nil)) ?_
    refine Z_one (i := 4) rfl (want_none a hS.sl) (listed' := [true, true, true, true, true, false, false, false, false, true, false, false]) rfl (by kernel_rfl) (s_callP hS (.cons rfl .nil) cf92 rfl (FromInt_P p.u (by omega) (by omega) _) ?_); clear hS a; (try clear w); intro a w hS
    refine Z_and hS (sub_cons (by repeat constructor) (sub_cons (by repeat constructor) sub_nil)) ?_
    refine Z_one (i := 5) rfl (want_none a hS.sl) (listed' := [true, true, true, true, true, true, false, false, false, true, false, false]) rfl (by kernel_rfl) (s_callP hS (.cons rfl (.cons rfl .nil)) cf97 rfl (Add_P s.1 p.u hs.1 f1 hr.1 _) ?_); clear hS a; (try clear w); intro a w hS
    refine Z_and hS (sub_cons (by repeat constructor) (sub_cons (by repeat constructor) sub_nil)) ?_
    refine Z_take0 (i := 6) hS rfl want_none (e_move rfl) (listed' := [true, true, true, true, true, true, true, false, false, true, false, false]) rfl (by kernel_rfl) (by kernel_rfl) (by kernel_rfl) (fun _ _ _ h => h) rfl ?_; clear hS a; intro a hS
    refine Z_take0 (i := 7) hS rfl want_none (e_extract rfl rfl) (listed' := [true, true, true, true, true, true, true, true, false, true, false, false]) rfl (by kernel_rfl) (by kernel_rfl) (by kernel_rfl) (fun _ _ _ h => h) rfl ?_; clear hS a; intro a hS
    refine Z_take0 (i := 8) hS rfl want_none (e_extract rfl rfl) (listed' := [true, true, true, true, true, true, true, true, true, true, false, false]) rfl (by kernel_rfl) (by kernel_rfl) (by kernel_rfl) (fun _ _ _ h => h) rfl ?_; clear hS a; intro a hS
    refine Z_one (i := 10) rfl (want_none a hS.sl) (listed' := [true, true, true, true, true, true, true, true, true, true, true, false]) rfl (by kernel_rfl) (s_storeA hS rfl rfl ty_sz106 (by repeat constructor) (by rfl) (by rfl) (by rfl) ?_); clear hS; (try clear w); intro w hS
    refine Z_and hS (sub_cons (by repeat constructor) (sub_cons (by repeat constructor) sub_nil)) ?_
    refine Z_take0 (i := 11) hS rfl want_none (e_assign rfl) (listed' := [true, true, true, true, true, true, true, true, true, true, true, true]) rfl (by kernel_rfl) (by kernel_rfl) (by kernel_rfl) (fun _ _ _ h => h) rfl ?_; clear hS a; intro a hS
    refine Z_done (by kernel_rfl) ?_
    refine n_then ?_
    refine c_seq ?_
    refine c_drawS [] (by kernel_rfl) hS (sub_cons (X := .blk b2 _ _) (by repeat constructor) (sub_cons (X := .blk b3 _ _) (by repeat constructor) sub_nil)) ?_; clear hS; (try clear w); intro w hS
    simp only [List.length_cons, List.length_nil, Nat.zero_add, Nat.reduceAdd, List.replicate]
    first | (refine Z_take0 (i := 0) hS rfl want_none (e_fa0 rfl ty_fo136_1) (listed' := [true, false, false, false, false, false, false, false, false, false, false, false]) rfl (by kernel_rfl) (by kernel_rfl) (by kernel_rfl) (fun _ _ _ h => h) rfl ?_; clear hS a; intro a hS) | (refine Z_take0 (i := 0) hS rfl want_none (e_faK rfl ty_fo136_1) (listed' := [true, false, false, false, false, false, false, false, false, false, false, false]) rfl (by kernel_rfl) (by kernel_rfl) (by kernel_rfl) (fun _ _ _ h => h) rfl ?_; clear hS a; intro a hS)
    refine Z_take (i := 1) hS rfl want_none (e_loadSub (l := wv s.2) rfl (by repeat constructor) ty_st106 ty_sz106 rfl) (listed' := [true, true, false, false, false, false, false, false, false, false, false, false]) rfl (by kernel_rfl) (by kernel_rfl) (by kernel_rfl) (by kernel_rfl) (by kernel_rfl) (sub_cons (by repeat constructor) (sub_cons (by repeat constructor) sub_nil)) (fun _ _ _ h => h) rfl ?_; clear hS a; intro a hS
    first | (refine Z_take0 (i := 2) hS rfl want_none (e_fa0 rfl ty_fo63_2) (listed' := [true, true, true, false, false, false, false, false, false, false, false, false]) rfl (by kernel_rfl) (by kernel_rfl) (by kernel_rfl) (fun _ _ _ h => h) rfl ?_; clear hS a; intro a hS) | (refine Z_take0 (i := 2) hS rfl want_none (e_faK rfl ty_fo63_2) (listed' := [true, true, true, false, false, false, false, false, false, false, false, false]) rfl (by kernel_rfl) (by kernel_rfl) (by kernel_rfl) (fun _ _ _ h => h) rfl ?_; clear hS a; intro a hS)
    refine Z_take (i := 3) hS rfl want_none (e_load rfl (by repeat constructor) ty_sc3 (by rfl)) (listed' := [true, true, true, true, false, false, false, false, false, false, false, false]) rfl (by kernel_rfl) (by kernel_rfl) (by kernel_rfl) (by kernel_rfl) (by kernel_rfl) (sub_cons (by repeat constructor) (sub_cons (by repeat constructor) sub_nil)) (fun _ _ _ h => h) rfl ?_; clear hS a; intro a hS
    refine Z_many (j := 4) (js := [9]) (by kernel_rfl) ⟨?_, ?_, trivial⟩
    ·
      refine Z_op (i := 4) rfl (want_none a hS.sl) (listed' := [true, true, true, true, true, false, false, false, false, false, false, false]) rfl (s_callP hS (.cons rfl .nil) cf92 rfl (FromInt_P p.f (by omega) (by omega) _) ?_); clear hS a; (try clear w); intro a w hS
      refine Z_and hS (sub_cons (by repeat constructor) (sub_cons (by repeat constructor) sub_nil)) ?_
      refine Z_many (j := 5) (js := [9]) (by kernel_rfl) ⟨?_, ?_, trivial⟩
      ·
        refine Z_op (i := 5) rfl (want_none a hS.sl) (listed' := [true, true, true, true, true, true, false, false, false, false, false, false]) rfl (s_callP hS (.cons rfl (.cons rfl .nil)) cf97 rfl (Add_P s.2 p.f hs.2 f2 hr.2 _) ?_); clear hS a; (try clear w); intro a w hS
        refine Z_and hS (sub_cons (by repeat constructor) (sub_cons (by repeat constructor) sub_nil)) ?_
        refine Z_take0 (i := 6) hS rfl want_none (e_move rfl) (listed' := [true, true, true, true, true, true, true, false, false, false, false, false]) rfl (by kernel_rfl) (by kernel_rfl) (by kernel_rfl) (fun _ _ _ h => h) rfl ?_; clear hS a; intro a hS
        refine Z_take0 (i := 7) hS rfl want_none (e_extract rfl rfl) (listed' := [true, true, true, true, true, true, true, true, false, false, false, false]) rfl (by kernel_rfl) (by kernel_rfl) (by kernel_rfl) (fun _ _ _ h => h) rfl ?_; clear hS a; intro a hS
        refine Z_take0 (i := 8) hS rfl want_none (e_extract rfl rfl) (listed' := [true, true, true, true, true, true, true, true, true, false, false, false]) rfl (by kernel_rfl) (by kernel_rfl) (by kernel_rfl) (fun _ _ _ h => h) rfl ?_; clear hS a; intro a hS
        refine Z_one (i := 9) rfl (want_none a hS.sl) (listed' := [true, true, true, true, true, true, true, true, true, true, false, false]) rfl (by kernel_rfl) (s_alloc hS ty_z106 rfl ?_); clear hS a; (try clear w); intro a w b7 hS
        refine Z_and hS (sub_cons (by repeat constructor) (sub_cons (by repeat constructor) sub_nil)) ?_
        refine Z_one (i := 10) rfl (want_none a hS.sl) (listed' := [true, true, true, true, true, true, true, true, true, true, true, false]) rfl (by kernel_rfl) (s_storeA hS rfl rfl ty_sz106 (by repeat constructor) (by rfl) (by rfl) (by rfl) ?_); clear hS; (try clear w); intro w hS
        refine Z_and hS (sub_cons (by repeat constructor) (sub_cons (by repeat constructor) sub_nil)) ?_
        refine Z_take0 (i := 11) hS rfl want_none (e_assign rfl) (listed' := [true, true, true, true, true, true, true, true, true, true, true, true]) rfl (by kernel_rfl) (by kernel_rfl) (by kernel_rfl) (fun _ _ _ h => h) rfl ?_; clear hS a; intro a hS
        refine Z_done (by kernel_rfl) ?_
        refine n_then ?_
        refine c_seq ?_
        refine c_region ?_
        refine L_op (s_e hS (e_loadA rfl (by repeat constructor) ty_st106 ty_sz106 (by rfl)) rfl ?_); clear hS a; intro a hS
        refine L_op (s_e hS (e_loadA rfl (by repeat constructor) ty_st106 ty_sz106 (by rfl)) rfl ?_); clear hS a; intro a hS
        refine L_op (s_e hS (e_build ty_z136 ty_pl136 (.agg rfl rfl rfl rfl (by repeat (first | apply UpdA.nil | (apply UpdA.cons; (repeat (first | apply Upd.z | apply Upd.s))))) (.agg rfl rfl rfl rfl (by repeat (first | apply UpdA.nil | (apply UpdA.cons; (repeat (first | apply Upd.z | apply Upd.s))))) .nil))) rfl ?_); clear hS a; intro a hS
        refine L_op (s_storeA hS rfl rfl ty_sz136 (by repeat constructor) (by rfl) (by rfl) (by rfl) ?_); clear hS; (try clear w); intro w hS
        refine L_nil ?_
        refine n_then ?_
        refine wp_ret ?_
        refine c_ret1 hS Try.results70 (.cellA rfl (by repeat constructor) ty_st136 ty_sz136 (by rfl)) ?_
        exact ⟨rfl, hS.chg⟩
      ·
        refine Z_op (i := 9) rfl (want_none a hS.sl) (listed' := [true, true, true, true, true, false, false, false, false, true, false, false]) rfl (s_alloc hS ty_z106 rfl ?_); clear hS a; (try clear w); intro a w b7 hS
        refine Z_and hS (sub_cons (by repeat constructor) (sub_cons (by repeat constructor) sub_nil)) ?_
        refine Z_one (i := 5) rfl (want_none a hS.sl) (listed' := [true, true, true, true, true, true, false, false, false, true, false, false]) rfl (by kernel_rfl) (s_callP hS (.cons rfl (.cons rfl .nil)) cf97 rfl (Add_P s.2 p.f hs.2 f2 hr.2 _) ?_); clear hS a; (try clear w); intro a w hS
        refine Z_and hS (sub_cons (by repeat constructor) (sub_cons (by repeat constructor) sub_nil)) ?_
        refine Z_take0 (i := 6) hS rfl want_none (e_move rfl) (listed' := [true, true, true, true, true, true, true, false, false, true, false, false]) rfl (by kernel_rfl) (by kernel_rfl) (by kernel_rfl) (fun _ _ _ h => h) rfl ?_; clear hS a; intro a hS
        refine Z_take0 (i := 7) hS rfl want_none (e_extract rfl rfl) (listed' := [true, true, true, true, true, true, true, true, false, true, false, false]) rfl (by kernel_rfl) (by kernel_rfl) (by kernel_rfl) (fun _ _ _ h => h) rfl ?_; clear hS a; intro a hS
        refine Z_take0 (i := 8) hS rfl want_none (e_extract rfl rfl) (listed' := [true, true, true, true, true, true, true, true, true, true, false, false]) rfl (by kernel_rfl) (by kernel_rfl) (by kernel_rfl) (fun _ _ _ h => h) rfl ?_; clear hS a; intro a hS
        refine Z_one (i := 10) rfl (want_none a hS.sl) (listed' := [true, true, true, true, true, true, true, true, true, true, true, false]) rfl (by kernel_rfl) (s_storeA hS rfl rfl ty_sz106 (by repeat constructor) (by rfl) (by rfl) (by rfl) ?_); clear hS; (try clear w); intro w hS
        refine Z_and hS (sub_cons (by repeat constructor) (sub_cons (by repeat constructor) sub_nil)) ?_
        refine Z_take0 (i := 11) hS rfl want_none (e_assign rfl) (listed' := [true, true, true, true, true, true, true, true, true, true, true, true]) rfl (by kernel_rfl) (by kernel_rfl) (by kernel_rfl) (fun _ _ _ h => h) rfl ?_; clear hS a; intro a hS
        refine Z_done (by kernel_rfl) ?_
        refine n_then ?_
        refine c_seq ?_
        refine c_region ?_
        refine L_op (s_e hS (e_loadA rfl (by repeat constructor) ty_st106 ty_sz106 (by rfl)) rfl ?_); clear hS a; intro a hS
        refine L_op (s_e hS (e_loadA rfl (by repeat constructor) ty_st106 ty_sz106 (by rfl)) rfl ?_); clear hS a; intro a hS
        refine L_op (s_e hS (e_build ty_z136 ty_pl136 (.agg rfl rfl rfl rfl (by repeat (first | apply UpdA.nil | (apply UpdA.cons; (repeat (first | apply Upd.z | apply Upd.s))))) (.agg rfl rfl rfl rfl (by repeat (first | apply UpdA.nil | (apply UpdA.cons; (repeat (first | apply Upd.z | apply Upd.s))))) .nil))) rfl ?_); clear hS a; intro a hS
        refine L_op (s_storeA hS rfl rfl ty_sz136 (by repeat constructor) (by rfl) (by rfl) (by rfl) ?_); clear hS; (try clear w); intro w hS
        refine L_nil ?_
        refine n_then ?_
        refine wp_ret ?_
        refine c_ret1 hS Try.results70 (.cellA rfl (by repeat constructor) ty_st136 ty_sz136 (by rfl)) ?_
        exact ⟨rfl, hS.chg⟩
    ·
      refine Z_op (i := 9) rfl (want_none a hS.sl) (listed' := [true, true, true, true, false, false, false, false, false, true, false, false]) rfl (s_alloc hS ty_z106 rfl ?_); clear hS a; (try clear w); intro a w b7 hS
      refine Z_and hS (sub_cons (by repeat constructor) (sub_cons (by repeat constructor) sub_nil)) ?_
      refine Z_one (i := 4) rfl (want_none a hS.sl) (listed' := [true, true, true, true, true, false, false, false, false, true, false, false]) rfl (by kernel_rfl) (s_callP hS (.cons rfl .nil) cf92 rfl (FromInt_P p.f (by omega) (by omega) _) ?_); clear hS a; (try clear w); intro a w hS
      refine Z_and hS (sub_cons (by repeat constructor) (sub_cons (by repeat constructor) sub_nil)) ?_
      refine Z_one (i := 5) rfl (want_none a hS.sl) (listed' := [true, true, true, true, true, true, false, false, false, true, false, false]) rfl (by kernel_rfl) (s_callP hS (.cons rfl (.cons rfl .nil)) cf97 rfl (Add_P s.2 p.f hs.2 f2 hr.2 _) ?_); clear hS a; (try clear w); intro a w hS
      refine Z_and hS (sub_cons (by repeat constructor) (sub_cons (by repeat constructor) sub_nil)) ?_
      refine Z_take0 (i := 6) hS rfl want_none (e_move rfl) (listed' := [true, true, true, true, true, true, true, false, false, true, false, false]) rfl (by kernel_rfl) (by kernel_rfl) (by kernel_rfl) (fun _ _ _ h => h) rfl ?_; clear hS a; intro a hS
      refine Z_take0 (i := 7) hS rfl want_none (e_extract rfl rfl) (listed' := [true, true, true, true, true, true, true, true, false, true, false, false]) rfl (by kernel_rfl) (by kernel_rfl) (by kernel_rfl) (fun _ _ _ h => h) rfl ?_; clear hS a; intro a hS
      refine Z_take0 (i := 8) hS rfl want_none (e_extract rfl rfl) (listed' := [true, true, true, true, true, true, true, true, true, true, false, false]) rfl (by kernel_rfl) (by kernel_rfl) (by kernel_rfl) (fun _ _ _ h => h) rfl ?_; clear hS a; intro a hS
      refine Z_one (i := 10) rfl (want_none a hS.sl) (listed' := [true, true, true, true, true, true, true, true, true, true, true, false]) rfl (by kernel_rfl) (s_storeA hS rfl rfl ty_sz106 (by repeat constructor) (by rfl) (by rfl) (by rfl) ?_); clear hS; (try clear w); intro w hS
      refine Z_and hS (sub_cons (by repeat constructor) (sub_cons (by repeat constructor) sub_nil)) ?_
      refine Z_take0 (i := 11) hS rfl want_none (e_assign rfl) (listed' := [true, true, true, true, true, true, true, true, true, true, true, true]) rfl (by kernel_rfl) (by kernel_rfl) (by kernel_rfl) (fun _ _ _ h => h) rfl ?_; clear hS a; intro a hS
      refine Z_done (by kernel_rfl) ?_
      refine n_then ?_
      refine c_seq ?_
      refine c_region ?_
      refine L_op (s_e hS (e_loadA rfl (by repeat constructor) ty_st106 ty_sz106 (by rfl)) rfl ?_); clear hS a; intro a hS
      refine L_op (s_e hS (e_loadA rfl (by repeat constructor) ty_st106 ty_sz106 (by rfl)) rfl ?_); clear hS a; intro a hS
      refine L_op (s_e hS (e_build ty_z136 ty_pl136 (.agg rfl rfl rfl rfl (by repeat (first | apply UpdA.nil | (apply UpdA.cons; (repeat (first | apply Upd.z | apply Upd.s))))) (.agg rfl rfl rfl rfl (by repeat (first | apply UpdA.nil | (apply UpdA.cons; (repeat (first | apply Upd.z | apply Upd.s))))) .nil))) rfl ?_); clear hS a; intro a hS
      refine L_op (s_storeA hS rfl rfl ty_sz136 (by repeat constructor) (by rfl) (by rfl) (by rfl) ?_); clear hS; (try clear w); intro w hS
      refine L_nil ?_
      refine n_then ?_
      refine wp_ret ?_
      refine c_ret1 hS Try.results70 (.cellA rfl (by repeat constructor) ty_st136 ty_sz136 (by rfl)) ?_
      exact ⟨rfl, hS.chg⟩
theorem IntE_P (v : Int) (hv : Wd.fit v) (w0 : World) : PureC Try.prog 52 [.agg (wv v).toArray] w0 (.tuple [.int .i64 (intE v).1, .int .i64 (intE v).2].toArray) := by
  unfold intE
  by_cases h : -9223372036854775808 ≤ v ∧ v < 9223372036854775808
  · rw [if_pos h]; exact PureC.of_below (Int_yes v h.1 h.2 _)
  · rw [if_neg h]; exact PureC.of_below (Int_no v hv (by omega) _)
/-- what stands in an account, if it may. -/
def balV (s : SM) : Int × Int := if inU s.1 ∧ inU s.2 then s else (0, 0)
theorem int_in {v : Int} (h : inU v) : intE v = (v, 0) := by unfold intE; unfold inU at h; rw [if_pos (by omega)]
set_option maxRecDepth 100000 in
theorem sbal_P (s : SM) (code : ByteArray) (hs : fitS s) (w0 : World) :
    PureC Try.prog 71 [.agg (encSm s).toArray, .string code] w0 (.tuple [.agg [.string code, .int .i64 (balV s).1, .int .i64 (balV s).2].toArray, .bool (decide (inU s.1 ∧ inU s.2))].toArray) := by
  have hA : ∀ v, (intE v).2 = 0 → inU (intE v).1 → inU v := fun v h1 h2 => by
    unfold intE at h1 h2; split at h1
    · rename_i h; rw [if_pos h] at h2; exact h2
    · cases h1
  refine c_enter [(0, .agg (encSm s).toArray), (1, .string code)] [] noB Try.func71 rfl Try.ntmps71 ⟨rfl, rfl, trivial⟩ rfl (by simp) (by simp) (by simp) ?_
  intro a hS
  refine c_seq ?_
  refine c_region ?_
  refine L_op (s_boxA hS rfl rfl ?_); clear hS a; (try clear w); intro a w b2 hS
  refine L_op (s_alloc hS ty_z60 rfl ?_); clear hS a; (try clear w); intro a w b4 hS
  refine L_op (s_e hS (e_assign rfl) rfl ?_); clear hS a; intro a hS
  refine L_nil ?_
  refine n_then ?_
  refine c_seq ?_
  refine c_region ?_
  first | (refine L_op (s_e hS (e_fa0 rfl ty_fo136_0) rfl ?_); clear hS a; intro a hS) | (refine L_op (s_e hS (e_faK rfl ty_fo136_0) rfl ?_); clear hS a; intro a hS)
  refine L_op (s_e hS (e_loadSub (l := wv s.1) rfl (by repeat constructor) ty_st106 ty_sz106 rfl) rfl ?_); clear hS a; intro a hS
  refine L_op (s_callP hS (.cons rfl .nil) cf52 rfl (IntE_P s.1 hs.1 _) ?_); clear hS a; (try clear w); intro a w hS
  refine L_op (s_e hS (e_move rfl) rfl ?_); clear hS a; intro a hS
  refine L_op (s_e hS (e_extract rfl rfl) rfl ?_); clear hS a; intro a hS
  refine L_op (s_e hS (e_extract rfl rfl) rfl ?_); clear hS a; intro a hS
  refine L_op (s_e hS (e_assign rfl) rfl ?_); clear hS a; intro a hS
  refine L_op (s_e hS (e_assign rfl) rfl ?_); clear hS a; intro a hS
  refine L_nil ?_
  refine n_then ?_
  refine c_seq ?_
  refine c_region ?_
  first | (refine L_op (s_e hS (e_fa0 rfl ty_fo136_1) rfl ?_); clear hS a; intro a hS) | (refine L_op (s_e hS (e_faK rfl ty_fo136_1) rfl ?_); clear hS a; intro a hS)
  refine L_op (s_e hS (e_loadSub (l := wv s.2) rfl (by repeat constructor) ty_st106 ty_sz106 rfl) rfl ?_); clear hS a; intro a hS
  refine L_op (s_callP hS (.cons rfl .nil) cf52 rfl (IntE_P s.2 hs.2 _) ?_); clear hS a; (try clear w); intro a w hS
  refine L_op (s_e hS (e_move rfl) rfl ?_); clear hS a; intro a hS
  refine L_op (s_e hS (e_extract rfl rfl) rfl ?_); clear hS a; intro a hS
  refine L_op (s_e hS (e_extract rfl rfl) rfl ?_); clear hS a; intro a hS
  refine L_op (s_e hS (e_assign rfl) rfl ?_); clear hS a; intro a hS
  refine L_op (s_e hS (e_assign rfl) rfl ?_); clear hS a; intro a hS
  refine L_nil ?_
  refine n_then ?_
  refine c_seq ?_
  refine c_seq ?_
  refine c_region ?_
  refine L_op (s_e hS (e_move rfl) rfl ?_); clear hS a; intro a hS
  refine L_op (s_e hS (e_bin rfl rfl rfl) rfl ?_); clear hS a; intro a hS
  refine L_op (s_e hS (e_move rfl) rfl ?_); clear hS a; intro a hS
  refine L_merge 3 27 (.bool (decide ((intE s.1).2 ≠ 0 ∨ (intE s.2).2 ≠ 0))) hS ?_ ?_
  · intro hcM27
    (first | refine g_splitD (t := 24) hS rfl ?_ ?_ | refine g_split (t := 24) hS rfl ?_ ?_) <;> (clear hS; intro hg24 hS)
    ·
      refine L_skip_f hS rfl rfl rfl ?_; clear hS a; intro a hS
      refine L_skip_f hS rfl rfl rfl ?_; clear hS a; intro a hS
      first | (refine L_op (s_e hS (e_pick_t rfl rfl) rfl ?_); clear hS a; intro a hS) | (refine L_op (s_e hS (e_pick_f rfl rfl) rfl ?_); clear hS a; intro a hS)
      exact hcM27 _ _ (hS.ends 4 27 24 rfl (congrArg Value.bool (by first | rfl | (simp [hg24]; done) | (simp [hg24]; omega) | grind)) rfl rfl (by first | exact congrArg Value.bool (decide_eq_true hg24).symm | exact congrArg Value.bool hg24.symm | simp [hg24]) rfl)
    ·
      refine L_go hS rfl rfl (s_e hS (e_move rfl) rfl ?_); clear hS a; intro a hS
      refine L_go hS rfl rfl (s_e hS (e_bin rfl rfl rfl) rfl ?_); clear hS a; intro a hS
      first | (refine L_op (s_e hS (e_pick_t rfl rfl) rfl ?_); clear hS a; intro a hS) | (refine L_op (s_e hS (e_pick_f rfl rfl) rfl ?_); clear hS a; intro a hS)
      exact hcM27 _ _ (hS.ends 4 27 24 rfl (congrArg Value.bool (by first | rfl | (simp [hg24]; done) | (simp [hg24]; omega) | grind)) rfl rfl (by first | exact congrArg Value.bool (decide_eq_false hg24).symm | exact congrArg Value.bool hg24.symm | simp [hg24]) rfl)
  · clear hS a; (try clear w); intro a w hS
    simp only [List.drop_succ_cons, List.drop_zero]
    refine L_op (s_e hS (e_move rfl) rfl ?_); clear hS a; intro a hS
    refine L_merge 4 32 (.bool (decide (((intE s.1).2 ≠ 0 ∨ (intE s.2).2 ≠ 0) ∨ ¬ inU (intE s.1).1))) hS ?_ ?_
    · intro hcM32
      (first | refine g_splitD (t := 28) hS rfl ?_ ?_ | refine g_split (t := 28) hS rfl ?_ ?_) <;> (clear hS; intro hg28 hS)
      ·
        refine L_skip_f hS rfl rfl rfl ?_; clear hS a; intro a hS
        refine L_skip_f hS rfl rfl rfl ?_; clear hS a; intro a hS
        refine L_skip_f hS rfl rfl rfl ?_; clear hS a; intro a hS
        first | (refine L_op (s_e hS (e_pick_t rfl rfl) rfl ?_); clear hS a; intro a hS) | (refine L_op (s_e hS (e_pick_f rfl rfl) rfl ?_); clear hS a; intro a hS)
        exact hcM32 _ _ (hS.ends 5 32 28 rfl (congrArg Value.bool (by exact (decide_eq_true (.inl hg28)).symm)) rfl rfl (by first | exact congrArg Value.bool (decide_eq_true hg28).symm | exact congrArg Value.bool hg28.symm | simp [hg28]) rfl)
      ·
        refine L_go hS rfl rfl (s_e hS (e_move rfl) rfl ?_); clear hS a; intro a hS
        refine L_go hS rfl rfl (s_callP hS (.cons rfl .nil) cf98 rfl (lwithin_P (intE s.1).1 _) ?_); clear hS a; (try clear w); intro a w hS
        refine L_go hS rfl rfl (s_e hS (e_not rfl) rfl ?_); clear hS a; intro a hS
        first | (refine L_op (s_e hS (e_pick_t rfl rfl) rfl ?_); clear hS a; intro a hS) | (refine L_op (s_e hS (e_pick_f rfl rfl) rfl ?_); clear hS a; intro a hS)
        exact hcM32 _ _ (hS.ends 5 32 28 rfl (congrArg Value.bool (by rw [← decide_not, decide_eq_decide]; exact ⟨.inr, fun h => h.resolve_left hg28⟩)) rfl rfl (by first | exact congrArg Value.bool (decide_eq_false hg28).symm | exact congrArg Value.bool hg28.symm | simp [hg28]) rfl)
    · clear hS a; (try clear w); intro a w hS
      simp only [List.drop_succ_cons, List.drop_zero]
      refine L_op (s_e hS (e_move rfl) rfl ?_); clear hS a; intro a hS
      refine L_merge 4 37 (.bool (decide ((((intE s.1).2 ≠ 0 ∨ (intE s.2).2 ≠ 0) ∨ ¬ inU (intE s.1).1) ∨ ¬ inU (intE s.2).1))) hS ?_ ?_
      · intro hcM37
        (first | refine g_splitD (t := 33) hS rfl ?_ ?_ | refine g_split (t := 33) hS rfl ?_ ?_) <;> (clear hS; intro hg33 hS)
        ·
          refine L_skip_f hS rfl rfl rfl ?_; clear hS a; intro a hS
          refine L_skip_f hS rfl rfl rfl ?_; clear hS a; intro a hS
          refine L_skip_f hS rfl rfl rfl ?_; clear hS a; intro a hS
          first | (refine L_op (s_e hS (e_pick_t rfl rfl) rfl ?_); clear hS a; intro a hS) | (refine L_op (s_e hS (e_pick_f rfl rfl) rfl ?_); clear hS a; intro a hS)
          exact hcM37 _ _ (hS.ends 5 37 33 rfl (congrArg Value.bool (by exact (decide_eq_true (.inl hg33)).symm)) rfl rfl (by first | exact congrArg Value.bool (decide_eq_true hg33).symm | exact congrArg Value.bool hg33.symm | simp [hg33]) rfl)
        ·
          refine L_go hS rfl rfl (s_e hS (e_move rfl) rfl ?_); clear hS a; intro a hS
          refine L_go hS rfl rfl (s_callP hS (.cons rfl .nil) cf98 rfl (lwithin_P (intE s.2).1 _) ?_); clear hS a; (try clear w); intro a w hS
          refine L_go hS rfl rfl (s_e hS (e_not rfl) rfl ?_); clear hS a; intro a hS
          first | (refine L_op (s_e hS (e_pick_t rfl rfl) rfl ?_); clear hS a; intro a hS) | (refine L_op (s_e hS (e_pick_f rfl rfl) rfl ?_); clear hS a; intro a hS)
          exact hcM37 _ _ (hS.ends 5 37 33 rfl (congrArg Value.bool (by rw [← decide_not, decide_eq_decide]; exact ⟨.inr, fun h => h.resolve_left hg33⟩)) rfl rfl (by first | exact congrArg Value.bool (decide_eq_false hg33).symm | exact congrArg Value.bool hg33.symm | simp [hg33]) rfl)
      · clear hS a; (try clear w); intro a w hS
        simp only [List.drop_succ_cons, List.drop_zero]
        refine L_nil ?_
        refine n_then ?_
        first | refine c_ifD hS rfl (fun hc37 => ?_) (fun hc37 => ?_) | refine c_if hS rfl (fun hc37 => ?_) (fun hc37 => ?_)
        ·
          refine c_seq ?_
          refine c_region ?_
          refine L_op (s_e hS (e_move rfl) rfl ?_); clear hS a; intro a hS
          refine L_op (s_e hS (e_build ty_z60 ty_pl60 (.one rfl rfl rfl (by repeat constructor) .nil)) rfl ?_); clear hS a; intro a hS
          refine L_op (s_storeA hS rfl rfl ty_sz60 (by repeat constructor) (by rfl) (by rfl) (by rfl) ?_); clear hS; (try clear w); intro w hS
          refine L_op (s_e hS (e_assign rfl) rfl ?_); clear hS a; intro a hS
          refine L_nil ?_
          refine n_then ?_
          refine wp_ret ?_
          refine r_then ?_
          refine c_retN hS Try.results71 (.cons (.cellA rfl (by repeat constructor) ty_st60 ty_sz60 (by rfl)) (.cons (.tmp rfl) .nil)) rfl ?_
          have hno : ¬ (inU s.1 ∧ inU s.2) := fun ⟨h1, h2⟩ => by
            rw [int_in h1, int_in h2] at hc37
            rcases hc37 with ((h | h) | h) | h
            · exact h rfl
            · exact h rfl
            · exact h h1
            · exact h h2
          exact ⟨by rw [show balV s = (0, 0) from if_neg hno, decide_eq_false hno], hS.chg⟩
        ·
          refine wp_skip ?_
          refine n_then ?_
          refine c_seq ?_
          refine c_region ?_
          refine L_op (s_e hS (e_move rfl) rfl ?_); clear hS a; intro a hS
          refine L_op (s_e hS (e_move rfl) rfl ?_); clear hS a; intro a hS
          refine L_op (s_e hS (e_move rfl) rfl ?_); clear hS a; intro a hS
          refine L_op (s_e hS (e_build ty_z60 ty_pl60 (.one rfl rfl rfl (by repeat constructor) (.one rfl rfl rfl (by repeat constructor) (.one rfl rfl rfl (by repeat constructor) .nil)))) rfl ?_); clear hS a; intro a hS
          refine L_op (s_storeA hS rfl rfl ty_sz60 (by repeat constructor) (by rfl) (by rfl) (by rfl) ?_); clear hS; (try clear w); intro w hS
          refine L_op (s_e hS (e_assign rfl) rfl ?_); clear hS a; intro a hS
          refine L_nil ?_
          refine n_then ?_
          refine wp_ret ?_
          refine c_retN hS Try.results71 (.cons (.cellA rfl (by repeat constructor) ty_st60 ty_sz60 (by rfl)) (.cons (.tmp rfl) .nil)) rfl ?_
          have h1 : (intE s.1).2 = 0 := Classical.byContradiction fun h => hc37 (.inl (.inl (.inl h)))
          have h2 : (intE s.2).2 = 0 := Classical.byContradiction fun h => hc37 (.inl (.inl (.inr h)))
          have h3 : inU (intE s.1).1 := Classical.byContradiction fun h => hc37 (.inl (.inr h))
          have h4 : inU (intE s.2).1 := Classical.byContradiction fun h => hc37 (.inr h)
          have hyes : inU s.1 ∧ inU s.2 := ⟨hA _ h1 h3, hA _ h2 h4⟩
          exact ⟨by rw [show balV s = s from if_pos hyes, decide_eq_true hyes, int_in hyes.1, int_in hyes.2], hS.chg⟩
end Go.Proofs.Ytheofhegdjjfgaa
